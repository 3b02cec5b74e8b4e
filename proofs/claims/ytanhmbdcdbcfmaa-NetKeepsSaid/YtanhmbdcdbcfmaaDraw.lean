/- A region that draws its order: what is shown of its own order, with a look at what else is read meanwhile, holds of every order that its edges allow. -/
import Derived.Test.YtanhmbdcdbcfmaaDen
set_option linter.unusedVariables false
set_option linter.unusedSimpArgs false
namespace Go.Sl
open Go

/-! ### reading alone, and one new block -/
/-- A run that only reads, over what is read. -/
def rd {α : Type} (P : Program) (R : Hp) : Sem α → Option α
  | .pure a => some a
  | .load _ a k => match R.cell a with | some v => rd P R (k v) | none => none
  | .shape r k => match R r with | some o => rd P R (k (Obj.shp o)) | none => none
  | .frozen a k => match R a.block with | some o => rd P R (k (Obj.fro a.off o)) | none => none
  | .getObj r k => match R r with | some o => if Obj.isCells o then none else rd P R (k o) | none => none
  | .program k => rd P R (k P)
  | .mark _ k => rd P R k
  | _ => none
/-- A run that makes one block. -/
def nw {α : Type} (P : Program) : Sem α → Option (Obj × (Nat → Option α))
  | .new o k => some (o, fun b => rd P Hp.emp (k b))
  | .program k => nw P (k P)
  | .mark _ k => nw P k
  | _ => none
def Hp.le (R S : Hp) : Prop := ∀ b o, R b = some o → S b = some o
theorem Hp.le_cell {R S : Hp} (h : R.le S) {a : Addr} {v : Value} (hc : R.cell a = some v) : S.cell a = some v := by
  unfold Hp.cell at *
  cases e : R a.block with
  | none => rw [e] at hc; cases hc
  | some o => rw [e] at hc; rw [h _ _ e]; exact hc
theorem rd_mono {α : Type} {P : Program} {R S : Hp} (h : R.le S) (s : Sem α) : ∀ {a : α}, rd P R s = some a → rd P S s = some a := by
  induction s with
  | pure a => intro b hb; exact hb
  | load m x k ih =>
    intro b hb
    unfold rd at hb ⊢
    cases e : R.cell x with
    | none => rw [e] at hb; cases hb
    | some v => rw [e] at hb; rw [Hp.le_cell h e]; exact ih _ hb
  | shape r k ih =>
    intro b hb
    unfold rd at hb ⊢
    cases e : R r with
    | none => rw [e] at hb; cases hb
    | some v => rw [e] at hb; rw [h _ _ e]; exact ih _ hb
  | frozen x k ih =>
    intro b hb
    unfold rd at hb ⊢
    cases e : R x.block with
    | none => rw [e] at hb; cases hb
    | some v => rw [e] at hb; rw [h _ _ e]; exact ih _ hb
  | getObj r k ih =>
    intro b hb
    unfold rd at hb ⊢
    cases e : R r with
    | none => rw [e] at hb; cases hb
    | some v =>
      rw [e] at hb; rw [h _ _ e]
      simp only at hb ⊢
      split
      · rename_i q; rw [if_pos q] at hb; cases hb
      · rename_i q; rw [if_neg q] at hb; exact ih _ hb
  | program k ih => intro b hb; exact ih _ hb
  | mark m k ih => intro b hb; exact ih hb
  | _ => intro b hb; cases hb
theorem wpH_rd {α : Type} {P : Program} {G : Hp} (s : Sem α) : ∀ {H : Hp} {a : α} {K : α → Hp → Prop} {E : Value → Hp → Prop}, rd P (H.un G) s = some a → K a H → wpH P G s H K E := by
  induction s with
  | pure a => intro H b K E hb hk; cases hb; exact hk
  | load m x k ih =>
    intro H b K E hb hk
    unfold rd at hb
    cases e : (H.un G).cell x with
    | none => rw [e] at hb; cases hb
    | some v => rw [e] at hb; exact ⟨v, e, ih _ hb hk⟩
  | shape r k ih =>
    intro H b K E hb hk
    unfold rd at hb
    cases e : (H.un G) r with
    | none => rw [e] at hb; cases hb
    | some v => rw [e] at hb; exact ⟨v, e, ih _ hb hk⟩
  | frozen x k ih =>
    intro H b K E hb hk
    unfold rd at hb
    cases e : (H.un G) x.block with
    | none => rw [e] at hb; cases hb
    | some v => rw [e] at hb; exact ⟨v, e, ih _ hb hk⟩
  | getObj r k ih =>
    intro H b K E hb hk
    unfold rd at hb
    cases e : (H.un G) r with
    | none => rw [e] at hb; cases hb
    | some v =>
      rw [e] at hb
      simp only at hb
      split at hb
      · cases hb
      · rename_i q; exact ⟨v, e, by simpa using q, ih _ hb hk⟩
  | program k ih => intro H b K E hb hk; exact ih _ hb hk
  | mark m k ih => intro H b K E hb hk; exact ih hb hk
  | _ => intro H b K E hb hk; cases hb
theorem Hp.emp_le (R : Hp) : Hp.emp.le R := fun b o h => by cases h
theorem wpH_nw {α : Type} {P : Program} {G : Hp} (s : Sem α) : ∀ {H : Hp} {ob : Obj} {f : Nat → Option α} {K : α → Hp → Prop} {E : Value → Hp → Prop}, nw P s = some (ob, f) →
    (∀ b, H b = none → G b = none → ∃ a, f b = some a ∧ K a (H.set b ob)) → wpH P G s H K E := by
  induction s with
  | new o k ih =>
    intro H ob f K E h hk
    cases h
    intro b h1 h2
    obtain ⟨a, h3, h4⟩ := hk b h1 h2
    exact wpH_rd _ (rd_mono (Hp.emp_le _) _ h3) h4
  | program k ih => intro H ob f K E h hk; exact ih _ h hk
  | mark m k ih => intro H ob f K E h hk; exact ih h hk
  | _ => intro H ob f K E h hk; cases h

/-! ### what can be -/
theorem Real.fresh {G H : Hp} (h : Real G H) : ∃ b, H b = none ∧ G b = none := let ⟨w, o⟩ := h; ⟨_, o.new⟩
theorem Real.set {G H : Hp} (h : Real G H) {b : Nat} (h1 : H b = none) (h2 : G b = none) (ob : Obj) : Real G (H.set b ob) := by
  obtain ⟨w, o⟩ := h
  -- a world whose heap has room up to b, and ob there
  refine ⟨{ w with heap := (w.heap ++ Array.replicate (b + 1) ob).setIfInBounds b ob }, ⟨?_, ?_, ?_⟩⟩
  · intro x ox hx
    unfold Hp.set at hx
    show ((w.heap ++ Array.replicate (b + 1) ob).setIfInBounds b ob)[x]? = _
    rw [Array.getElem?_setIfInBounds]
    split at hx
    · rename_i e; subst e; cases hx; rw [if_pos rfl, if_pos (by simp; omega)]
    · rename_i e
      rw [if_neg (fun q => e q.symm)]
      rw [Array.getElem?_append_left (o.lt hx)]
      exact o.own _ _ hx
  · intro x ox hx
    show ((w.heap ++ Array.replicate (b + 1) ob).setIfInBounds b ob)[x]? = _
    rw [Array.getElem?_setIfInBounds]
    have e : b ≠ x := by rintro rfl; rw [h2] at hx; cases hx
    rw [if_neg e]
    have := (Array.getElem?_eq_some_iff.1 (o.ro _ _ hx)).1
    rw [Array.getElem?_append_left this]
    exact o.ro _ _ hx
  · intro x
    unfold Hp.set
    split
    · rename_i e; subst e; exact .inr h2
    · exact o.dj x
theorem Real.upd {G H : Hp} (h : Real G H) {b : Nat} {ob : Obj} (hb : H b = some ob) (f : Obj → Obj) : Real G (Hp.upd f H b) := by
  obtain ⟨w, o⟩ := h
  exact ⟨{ w with heap := w.heap.modify b f }, o.upd f hb rfl⟩
theorem wpH_real {α : Type} {P : Program} {G : Hp} (s : Sem α) : ∀ {H : Hp} {K : α → Hp → Prop} {E : Value → Hp → Prop}, wpH P G s H K E → Real G H → wpH P G s H (fun a H' => K a H' ∧ Real G H') E := by
  induction s with
  | pure a => intro H K E h r; exact ⟨h, r⟩
  | load m x k ih => intro H K E h r; obtain ⟨v, h1, h2⟩ := h; exact ⟨v, h1, ih _ h2 r⟩
  | store m x v k ih =>
    intro H K E h r
    obtain ⟨h1, ⟨old, h2⟩, h3, h4⟩ := h
    obtain ⟨ob, hob⟩ : ∃ ob, H x.block = some ob := by
      unfold Hp.cell at h2
      cases e : H x.block with
      | none => rw [e] at h2; cases h2
      | some y => exact ⟨y, rfl⟩
    exact ⟨h1, ⟨old, h2⟩, h3, ih h4 (r.upd hob _)⟩
  | new o k ih => intro H K E h r b h1 h2; exact ih _ (h b h1 h2) (r.set h1 h2 o)
  | shape x k ih => intro H K E h r; obtain ⟨v, h1, h2⟩ := h; exact ⟨v, h1, ih _ h2 r⟩
  | freeze x n k ih => intro H K E h r; obtain ⟨⟨ob, h1⟩, h2⟩ := h; exact ⟨⟨ob, h1⟩, ih h2 (r.upd h1 _)⟩
  | frozen x k ih => intro H K E h r; obtain ⟨v, h1, h2⟩ := h; exact ⟨v, h1, ih _ h2 r⟩
  | getObj x k ih => intro H K E h r; obtain ⟨v, h1, h2, h3⟩ := h; exact ⟨v, h1, h2, ih _ h3 r⟩
  | setObj x o k ih => intro H K E h r; obtain ⟨⟨o', h1, h2⟩, h3⟩ := h; exact ⟨⟨o', h1, h2⟩, ih h3 (r.upd h1 _)⟩
  | choose q k ih =>
    intro H K E h r
    unfold wpH at h ⊢
    split
    · rename_i e; rw [if_pos e] at h; exact ih _ h r
    · rename_i e; rw [if_neg e] at h; exact fun t => ih _ (h t) r
  | sys c k ih => intro H K E h r; exact h
  | program k ih => intro H K E h r; exact ih _ h r
  | mark m k ih => intro H K E h r; exact ih h r
  | halt x => intro H K E h r; cases x <;> exact h
theorem wpH_mono {α : Type} {P : Program} {G : Hp} (s : Sem α) : ∀ {H : Hp} {K K' : α → Hp → Prop} {E E' : Value → Hp → Prop}, wpH P G s H K E → (∀ a H, K a H → K' a H) → (∀ v H, E v H → E' v H) → wpH P G s H K' E' := by
  induction s with
  | pure a => intro H K K' E E' h hk he; exact hk _ _ h
  | load m x k ih => intro H K K' E E' h hk he; obtain ⟨v, h1, h2⟩ := h; exact ⟨v, h1, ih _ h2 hk he⟩
  | store m x v k ih => intro H K K' E E' h hk he; obtain ⟨h1, h2, h3, h4⟩ := h; exact ⟨h1, h2, h3, ih h4 hk he⟩
  | new o k ih => intro H K K' E E' h hk he b h1 h2; exact ih _ (h b h1 h2) hk he
  | shape x k ih => intro H K K' E E' h hk he; obtain ⟨v, h1, h2⟩ := h; exact ⟨v, h1, ih _ h2 hk he⟩
  | freeze x n k ih => intro H K K' E E' h hk he; exact ⟨h.1, ih h.2 hk he⟩
  | frozen x k ih => intro H K K' E E' h hk he; obtain ⟨v, h1, h2⟩ := h; exact ⟨v, h1, ih _ h2 hk he⟩
  | getObj x k ih => intro H K K' E E' h hk he; obtain ⟨v, h1, h2, h3⟩ := h; exact ⟨v, h1, h2, ih _ h3 hk he⟩
  | setObj x o k ih => intro H K K' E E' h hk he; exact ⟨h.1, ih h.2 hk he⟩
  | choose q k ih =>
    intro H K K' E E' h hk he
    unfold wpH at h ⊢
    split
    · rename_i e; rw [if_pos e] at h; exact ih _ h hk he
    · rename_i e; rw [if_neg e] at h; exact fun t => ih _ (h t) hk he
  | sys c k ih => intro H K K' E E' h hk he; exact h
  | program k ih => intro H K K' E E' h hk he; exact ih _ h hk he
  | mark m k ih => intro H K K' E E' h hk he; exact ih h hk he
  | halt x => intro H K K' E E' h hk he; cases x <;> first | exact he _ _ h | exact h
/-- Nothing comes of what can be without an end. -/
theorem wpH_strict {α : Type} {P : Program} {G : Hp} {s : Sem α} {H : Hp} (r : Real G H) (h : wpH P G s H (fun _ _ => False) (fun _ _ => False)) : False := by
  obtain ⟨w, o⟩ := r
  have := wpH_sound P G s H _ _ w h o
  unfold Fine at this
  split at this
  · obtain ⟨_, q, _⟩ := this; exact q
  · obtain ⟨_, q, _⟩ := this; exact q
  · exact this
theorem NxH.strict {P : Program} {G : Hp} {nx : Next} {H : Hp} (r : Real G H) (h : NxH P G nx H fun _ _ => False) : False := by
  obtain ⟨w, o⟩ := r
  obtain ⟨e, w', _, q, _⟩ := (h w o).strict
  exact q
theorem CallsH.strict {P : Program} {G : Hp} {f : FuncId} {args : Array Value} {H : Hp} (r : Real G H) (h : CallsH P G f args H fun _ _ => False) : False := by
  obtain ⟨w, o⟩ := r
  obtain ⟨e, w', fr, ⟨_, q, _⟩, _⟩ := h w o []
  exact q

/-! ### an operation without a panic -/
/-- Of an ending: a value alone. -/
def retK (K : Value → Hp → Prop) : Ending → Hp → Prop
  | .returned v, H => K v H
  | _, _ => False
/-- An operation, as what it hands on: a value, and the heap behind. -/
def opV (P : Program) (G : Hp) (s : Sem Next) (H : Hp) (K : Value → Hp → Prop) : Prop :=
  wpH P G s H (fun nx H' => match nx with
      | .value v => K v H'
      | .skip => K undef H'
      | .enter f args => CallsH P G f args H' (retK K)
      | .round l f tmps assign body => NxH P G (.round l f tmps assign body) H' (retK K)
      | .row row args => NxH P G (.row row args) H' (retK K)
      | _ => False) (fun _ _ => False)
theorem opV_mono {P : Program} {G : Hp} {s : Sem Next} {H : Hp} {K K' : Value → Hp → Prop} (h : opV P G s H K) (hk : ∀ v H, K v H → K' v H) : opV P G s H K' := by
  refine wpH_mono _ h ?_ (fun _ _ h => h)
  intro nx H' hn
  cases nx with
  | value v => exact hk _ _ hn
  | skip => exact hk _ _ hn
  | enter f args =>
    refine CallsH.mono hn ?_
    intro z H'' hz
    cases z with
    | returned v => exact hk _ _ hz
    | _ => exact hz.elim
  | round l f tmps a b =>
    refine NxH.mono hn ?_
    intro z H'' hz
    cases z with
    | returned v => exact hk _ _ hz
    | _ => exact hz.elim
  | row r args =>
    refine NxH.mono hn ?_
    intro z H'' hz
    cases z with
    | returned v => exact hk _ _ hz
    | _ => exact hz.elim
  | _ => exact hn
theorem opV_real {P : Program} {G : Hp} {s : Sem Next} {H : Hp} {K : Value → Hp → Prop} (h : opV P G s H K) (r : Real G H) : opV P G s H (fun v H' => K v H' ∧ Real G H') := by
  refine wpH_mono _ (wpH_real _ h r) ?_ (fun _ _ h => h)
  rintro nx H' ⟨hn, r'⟩
  cases nx with
  | value v => exact ⟨hn, r'⟩
  | skip => exact ⟨hn, r'⟩
  | enter f args =>
    intro w o
    refine (hn w o).mono ?_
    rintro z w' ⟨H'', hz, o', x⟩
    refine ⟨H'', ?_, o', x⟩
    cases z with
    | returned v => exact ⟨hz, w', o'⟩
    | _ => exact hz
  | round l f tmps a b =>
    intro w o
    refine (hn w o).mono ?_
    rintro z w' ⟨H'', hz, o', x⟩
    refine ⟨H'', ?_, o', x⟩
    cases z with
    | returned v => exact ⟨hz, w', o'⟩
    | _ => exact hz
  | row rw args =>
    intro w o
    refine (hn w o).mono ?_
    rintro z w' ⟨H'', hz, o', x⟩
    refine ⟨H'', ?_, o', x⟩
    cases z with
    | returned v => exact ⟨hz, w', o'⟩
    | _ => exact hz
  | _ => exact hn
theorem opV_strict {P : Program} {G : Hp} {s : Sem Next} {H : Hp} (r : Real G H) (h : opV P G s H (fun _ _ => False)) : False := by
  refine wpH_strict r (wpH_mono _ (wpH_real _ h r) ?_ (fun _ _ h => h))
  rintro nx H' ⟨hn, r'⟩
  cases nx with
  | enter f args =>
    refine CallsH.strict r' (CallsH.mono hn ?_)
    intro z H'' hz
    cases z <;> exact hz
  | round l f tmps a b =>
    refine NxH.strict r' (NxH.mono hn ?_)
    intro z H'' hz
    cases z <;> exact hz
  | row rw args =>
    refine NxH.strict r' (NxH.mono hn ?_)
    intro z H'' hz
    cases z <;> exact hz
  | _ => exact hn
theorem denOp_of_opV {P : Program} {G : Hp} {o : Oper} {e : Env} {H : Hp} {next : Env → Hp → Prop} {Q : Post} (h : opV P G (execOp e.ev o) H fun v H' => next (e.put o.dst v) H') : denOp P G o e H next Q := by
  refine wpH_mono _ h ?_ (fun _ _ h => h.elim)
  intro nx H' hn
  cases nx with
  | value v => exact hn
  | skip => exact hn
  | enter f args =>
    refine CallsH.mono hn ?_
    intro z H'' hz
    cases z with
    | returned v => exact hz
    | _ => exact hz.elim
  | round l f tmps a b =>
    refine NxH.mono hn ?_
    intro z H'' hz
    cases z with
    | returned v => exact hz
    | _ => exact hz.elim
  | row rw args =>
    refine NxH.mono hn ?_
    intro z H'' hz
    cases z with
    | returned v => exact hz
    | _ => exact hz.elim
  | _ => exact hn.elim
end Go.Sl
