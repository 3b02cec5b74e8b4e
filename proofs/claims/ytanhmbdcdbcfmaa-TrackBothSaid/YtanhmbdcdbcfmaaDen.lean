/- Code over the small heap: what a call does, as a predicate transformer, and its soundness over the machine's calls. -/
import Derived.Test.YtanhmbdcdbcfmaaCore
set_option linter.unusedVariables false
set_option linter.unusedSimpArgs false
namespace Go.Sl
open Go

/-- A call, over what it owns. -/
def CallsH (P : Program) (G : Hp) (f : FuncId) (args : Array Value) (H : Hp) (R : Ending → Hp → Prop) : Prop :=
  ∀ w, Ok G H w → Calls P f args w fun e w' => ∃ H', R e H' ∧ Ok G H' w' ∧ Ext H H' w w'
theorem CallsH.mono {P : Program} {G : Hp} {f : FuncId} {args : Array Value} {H : Hp} {R R' : Ending → Hp → Prop} (h : CallsH P G f args H R)
    (hr : ∀ e H', R e H' → R' e H') : CallsH P G f args H R' :=
  fun w o => (h w o).mono fun e w' ⟨H', a, b, c⟩ => ⟨H', hr _ _ a, b, c⟩
/-- What is not the call's stays. -/
theorem CallsH.frame {P : Program} {G : Hp} {f : FuncId} {args : Array Value} {H F : Hp} {R : Ending → Hp → Prop} (h : CallsH P G f args H R)
    (hd : H.disj F) : CallsH P G f args (H.un F) (fun e H' => ∃ H1, H' = H1.un F ∧ H1.disj F ∧ R e H1) := by
  intro w o
  have o1 : Ok G H w := by
    refine ⟨fun b ob hb => o.own b ob ?_, o.ro, fun b => ?_⟩
    · unfold Hp.un; rw [hb]
    · rcases o.dj b with q | q
      · refine .inl ?_
        unfold Hp.un at q
        cases e : H b with
        | none => rfl
        | some x => rw [e] at q; cases q
      · exact .inr q
  have hF : ∀ b ob, F b = some ob → w.heap[b]? = some ob ∧ H b = none ∧ G b = none := by
    intro b ob hb
    have hn : H b = none := by
      rcases hd b with q | q
      · exact q
      · rw [hb] at q; cases q
    have hu : (H.un F) b = some ob := by unfold Hp.un; rw [hn]; exact hb
    refine ⟨o.own _ _ hu, hn, ?_⟩
    rcases o.dj b with q | q
    · rw [hu] at q; cases q
    · exact q
  refine (h w o1).mono fun e w' ⟨H', hR, o', x⟩ => ?_
  have hd' : H'.disj F := by
    intro b
    cases e1 : H' b with
    | none => exact .inl rfl
    | some ob =>
      refine .inr ?_
      cases e2 : F b with
      | none => rfl
      | some ob2 =>
        obtain ⟨q1, q2, q3⟩ := hF _ _ e2
        rcases x.dom b (by simp [e1]) with q | q
        · exact absurd q2 q
        · have := (Array.getElem?_eq_some_iff.1 q1).1
          omega
  refine ⟨H'.un F, ⟨H', rfl, hd', hR⟩, ⟨?_, o'.ro, ?_⟩, ⟨x.os, x.tape, x.output, x.size, ?_, ?_⟩⟩
  · intro b ob hb
    unfold Hp.un at hb
    cases e1 : H' b with
    | some ob1 => rw [e1] at hb; cases hb; exact o'.own _ _ e1
    | none =>
      rw [e1] at hb
      obtain ⟨q1, q2, q3⟩ := hF _ _ hb
      rw [x.keep b (Array.getElem?_eq_some_iff.1 q1).1 q2]
      exact q1
  · intro b
    unfold Hp.un
    cases e1 : H' b with
    | some ob1 =>
      rcases o'.dj b with q | q
      · rw [e1] at q; cases q
      · exact .inr q
    | none =>
      cases e2 : F b with
      | none => exact .inl rfl
      | some ob => exact .inr (hF _ _ e2).2.2
  · intro b hb hn
    unfold Hp.un at hn
    cases e1 : H b with
    | some ob => rw [e1] at hn; cases hn
    | none => exact x.keep b hb e1
  · intro b hb
    unfold Hp.un at hb ⊢
    cases e1 : H b with
    | some ob => exact .inl (by simp)
    | none =>
      cases e2 : F b with
      | some ob => exact .inl (by simp)
      | none =>
        cases e3 : H' b with
        | some ob =>
          rcases x.dom b (by simp [e3]) with q | q
          · exact absurd e1 q
          · exact .inr q
        | none => rw [e3, e2] at hb; exact absurd rfl hb

/-- What can be. -/
def Real (G H : Hp) : Prop := ∃ w, Ok G H w
/-- The slots of a frame. -/
abbrev Env := Nat → Value
def Env.put (e : Env) (d : Option Tmp) (v : Value) : Env := match d with | some d => fun t => if t = d then v else e t | none => e
def Env.ev (e : Env) : Operand → Value
  | .tmp t => e t
  | .const v => v
  | .global g => .pointer (some ⟨g, 0, none⟩)
  | .func f => .func (.func f) #[] #[]
structure Rel (n : Nat) (e : Env) (a : Act) : Prop where
  defers : a.defers = []
  size : a.tmps.size = n
  get : ∀ t, a.tmps.getD t undef = e t
theorem Rel.ev {n : Nat} {e : Env} {a : Act} (h : Rel n e a) : a.eval = e.ev := by
  funext x; cases x <;> simp [Act.eval, Env.ev, h.get]
def dstOk (n : Nat) : Option Tmp → Bool | some d => decide (d < n) | none => true
theorem Rel.put {n : Nat} {e : Env} {a : Act} (h : Rel n e a) {d : Option Tmp} (hd : dstOk n d = true) (v : Value) : Rel n (e.put d v) (a.put d v) := by
  cases d with
  | none => exact h
  | some d =>
    have hd' : d < n := by simpa [dstOk] using hd
    refine ⟨h.defers, by simp [Act.put, h.size], fun t => ?_⟩
    have := h.get t
    simp only [Act.put, Env.put, Array.getD_eq_getD_getElem?, Array.getElem?_setIfInBounds] at this ⊢
    by_cases e1 : d = t
    · subst e1; simp [h.size, hd']
    · rw [if_neg e1, if_neg (fun q => e1 q.symm)]; exact this
def yieldE (ops : Array Oper) (e : Env) (j : Nat) : Option Bool :=
  match (ops[j]?).bind (·.dst) with
  | some t => match e t with | .bool b => some b | _ => none
  | none => none
theorem Rel.yield {n : Nat} {e : Env} {a : Act} (h : Rel n e a) (ops : Array Oper) (j : Nat) : yielded ops a.tmps j = yieldE ops e j := by
  unfold yielded yieldE
  cases hj : (ops[j]?).bind (·.dst) with
  | none => rfl
  | some t =>
    have := h.get t
    simp only [Option.bind_some]
    rw [Array.getD_eq_getD_getElem?] at this
    cases ht : a.tmps[t]? with
    | none => rw [ht] at this; simp only [Option.getD_none] at this; rw [← this]; rfl
    | some v => rw [ht] at this; simp only [Option.getD_some] at this; rw [← this]; cases v <;> rfl
def wantE (ops : Array Oper) (e : Env) (o : Oper) : Bool := Region.wanted o (yieldE ops e)
theorem Rel.want {n : Nat} {e : Env} {a : Act} (h : Rel n e a) (ops : Array Oper) (o : Oper) : Region.wanted o (yielded ops a.tmps) = wantE ops e o := by
  unfold wantE Region.wanted
  cases o.guard with
  | none => rfl
  | some q => simp only [h.yield]

inductive Out where
  | normal
  | exit (id : Nat)
  | goto (l : Nat)
  | ret
  | panic (chain : List PanicEntry)
abbrev Post := Out → Env → Hp → Prop
/-- An operation. -/
def denOp (P : Program) (G : Hp) (o : Oper) (e : Env) (H : Hp) (next : Env → Hp → Prop) (Q : Post) : Prop :=
  wpH P G (execOp e.ev o) H
    (fun nx H' => match nx with
      | .value v => next (e.put o.dst v) H'
      | .skip => next (e.put o.dst undef) H'
      | .enter f args => CallsH P G f args H' fun z H'' => match z with
        | .returned v => next (e.put o.dst v) H''
        | .panicked chain => Q (.panic chain) e H''
        | .outgrown => False
      | _ => False)
    (fun v H' => Q (.panic [{ v, recovered := false }]) e H')
/-- A region's operations, in their own order. -/
def denList (P : Program) (G : Hp) (ops : Array Oper) (Q : Post) : List Oper → Env → Hp → Prop
  | [], e, H => Q .normal e H
  | o :: rest, e, H =>
    if wantE ops e o then denOp P G o e H (denList P G ops Q rest) Q else denList P G ops Q rest (e.put o.dst undef) H
/-- The same, by places. -/
def denIdx (P : Program) (G : Hp) (ops : Array Oper) (Q : Post) : List Nat → Env → Hp → Prop
  | [], e, H => Q .normal e H
  | i :: rest, e, H =>
    match ops[i]? with
    | none => denIdx P G ops Q rest e H
    | some o => if wantE ops e o then denOp P G o e H (denIdx P G ops Q rest) Q else denIdx P G ops Q rest (e.put o.dst undef) H
def thenH (next : Env → Hp → Prop) (Q : Post) : Post
  | .normal, e, H => next e H
  | o, e, H => Q o e H
def blockH (id : Nat) (Q : Post) : Post
  | .exit id', e, H => if id' = id then Q .normal e H else Q (.exit id') e H
  | o, e, H => Q o e H
/-- Every order that a region's edges allow. -/
def denDraw (P : Program) (G : Hp) (ops : Array Oper) (Q : Post) (e : Env) (H : Hp) : Prop :=
  ∀ t, denIdx P G ops Q (Region.schedule (P.follows .mixedOrders) ops t) e H
def den (P : Program) (G : Hp) : Code → Post → Env → Hp → Prop
  | .skip, Q, e, H => Q .normal e H
  | .region _ ops draw, Q, e, H => if draw then (Real G H → denDraw P G ops Q e H) else denList P G ops Q ops.toList e H
  | .seq x y, Q, e, H => den P G x (thenH (den P G y Q) Q) e H
  | .cond c x y, Q, e, H => ∃ t, e.ev c = .bool t ∧ (t = true → den P G x Q e H) ∧ (t = false → den P G y Q e H)
  | .block id c, Q, e, H => den P G c (blockH id Q) e H
  | .loop c, Q, e, H => ∃ (I : Env → Hp → Prop) (μ : Env → Hp → Nat), I e H ∧ ∀ e H, I e H → den P G c (thenH (fun e' H' => I e' H' ∧ μ e' H' < μ e H) Q) e H
  | .exit id, Q, e, H => Q (.exit id) e H
  | .label _, Q, e, H => Q .normal e H
  | .goto l, Q, e, H => Q (.goto l) e H
  | .ret, Q, e, H => Q .ret e H
  | _, _, _, _ => False
/-- All slots that are written are the frame's. -/
def dsts (n : Nat) : Code → Bool
  | .region _ ops _ => ops.all fun o => dstOk n o.dst
  | .seq a b => dsts n a && dsts n b
  | .cond _ a b => dsts n a && dsts n b
  | .block _ c => dsts n c
  | .loop c => dsts n c
  | _ => true

/-- What is said of the small heap, said of the world. -/
def lift (n : Nat) (G : Hp) (H0 : Hp) (w0 : World) (Q : Post) : Exit → Act → World → Prop := fun x a w =>
  ∃ e H, Rel n e a ∧ Ok G H w ∧ Ext H0 H w0 w ∧ match x with
    | .normal => Q .normal e H
    | .exit id => Q (.exit id) e H
    | .goto l => Q (.goto l) e H
    | .ret => Q .ret e H
    | .panic c => Q (.panic c) e H
    | .outgrown => False

theorem denOp_sound {P : Program} {G : Hp} {o : Oper} {n : Nat} {e : Env} {a : Act} {H : Hp} {w : World} {H0 : Hp} {w0 : World} {next : Env → Hp → Prop} {Q : Post}
    (h : denOp P G o e H next Q) (r : Rel n e a) (hd : dstOk n o.dst = true) (hok : Ok G H w) (hx : Ext H0 H w0 w) {N : Act → World → Prop}
    (hN : ∀ e a H w, next e H → Rel n e a → Ok G H w → Ext H0 H w0 w → N a w) :
    o.wp P a w N (lift n G H0 w0 Q) := by
  unfold Oper.wp
  have := wpH_sound P G _ _ _ _ w h hok
  rw [← r.ev] at this
  unfold Fine at this
  unfold Oper.upon
  split at this
  · rename_i nx w' hr
    obtain ⟨H', hk, ho, hx'⟩ := this
    rw [hr]
    have hx1 := hx.trans hx'
    cases nx with
    | value v => exact hN _ _ _ _ hk (r.put hd _) ho hx1
    | skip => exact hN _ _ _ _ hk (r.put hd _) ho hx1
    | enter f args =>
      refine (hk w' ho).mono fun z w'' ⟨H'', hR, ho', hx''⟩ => ?_
      have hx2 := hx1.trans hx''
      cases z with
      | returned v => exact hN _ _ _ _ hR (r.put hd _) ho' hx2
      | panicked c => exact ⟨e, H'', r, ho', hx2, hR⟩
      | outgrown => exact hR.elim
    | _ => exact hk.elim
  · rename_i v w' hr
    obtain ⟨H', hk, ho, hx'⟩ := this
    rw [hr]
    exact ⟨e, H', r, ho, hx.trans hx', hk⟩
  · exact this.elim

theorem denList_sound {P : Program} {G : Hp} {ops : Array Oper} {Q : Post} {n : Nat} {H0 : Hp} {w0 : World} (l : List Oper) :
    ∀ (e : Env) (a : Act) (H : Hp) (w : World), denList P G ops Q l e H → (∀ o ∈ l, dstOk n o.dst = true) → Rel n e a → Ok G H w → Ext H0 H w0 w → wpList P ops (lift n G H0 w0 Q) l a w := by
  induction l with
  | nil => intro e a H w h _ r o x; exact ⟨e, H, r, o, x, h⟩
  | cons q l ih =>
    intro e a H w h hd r o x
    unfold denList at h
    unfold wpList
    rw [r.want]
    have hd1 := hd q (by simp)
    have hd2 : ∀ o ∈ l, dstOk n o.dst = true := fun o ho => hd o (by simp [ho])
    split
    · rename_i hw
      rw [if_pos hw] at h
      exact .inl (denOp_sound h r hd1 o x fun e a H w h r o x => ih e a H w h hd2 r o x)
    · rename_i hw
      rw [if_neg hw] at h
      exact ih _ _ _ _ h hd2 (r.put hd1 _) o x
theorem denIdx_sound {P : Program} {G : Hp} {ops : Array Oper} {Q : Post} {n : Nat} (hd : ∀ (i : Nat) (o : Oper), ops[i]? = some o → dstOk n o.dst = true) {H0 : Hp} {w0 : World} (l : List Nat) :
    ∀ (e : Env) (a : Act) (H : Hp) (w : World), denIdx P G ops Q l e H → Rel n e a → Ok G H w → Ext H0 H w0 w → wpOps P ops (lift n G H0 w0 Q) l a w := by
  induction l with
  | nil => intro e a H w h r o x; exact ⟨e, H, r, o, x, h⟩
  | cons i l ih =>
    intro e a H w h r o x
    unfold denIdx at h
    unfold wpOps
    cases hi : ops[i]? with
    | none => simp only [hi] at h ⊢; exact ih _ _ _ _ h r o x
    | some q =>
      simp only [hi] at h ⊢
      rw [r.want]
      split
      · rename_i hw
        rw [if_pos hw] at h
        exact .inl (denOp_sound h r (hd _ _ hi) o x fun e a H w h r o x => ih e a H w h r o x)
      · rename_i hw
        rw [if_neg hw] at h
        exact ih _ _ _ _ h (r.put (hd _ _ hi) _) o x

theorem Ok.drawn {G H : Hp} {w : World} (o : Ok G H w) : Ok G H { w with drawn := w.drawn + 1 } := ⟨o.own, o.ro, o.dj⟩
theorem Ext.drawn {H0 H : Hp} {w0 w : World} (x : Ext H0 H w0 w) : Ext H0 H w0 { w with drawn := w.drawn + 1 } :=
  ⟨x.os, x.tape, x.output, x.size, x.keep, x.dom⟩

theorem den_sound {P : Program} {G : Hp} {n : Nat} {H0 : Hp} {w0 : World} (c : Code) : ∀ (Q : Post) (e : Env) (a : Act) (H : Hp) (w : World),
    den P G c Q e H → dsts n c = true → Rel n e a → Ok G H w → Ext H0 H w0 w → c.wp P (lift n G H0 w0 Q) a w := by
  induction c with
  | skip => intro Q e a H w h _ r o x; exact wp_skip ⟨e, H, r, o, x, h⟩
  | region id ops draw =>
    intro Q e a H w h d r o x
    have hd : ∀ (i : Nat) (o : Oper), ops[i]? = some o → dstOk n o.dst = true := by
      intro i o hi
      unfold dsts at d
      rw [Array.all_eq_true'] at d
      exact d o (Array.mem_of_getElem? hi)
    unfold den at h
    cases draw with
    | true =>
      simp only [if_true] at h
      exact wp_region_draw fun t => denIdx_sound hd _ _ _ _ _ (h ⟨w, o⟩ t) r o.drawn x.drawn
    | false =>
      simp only [Bool.false_eq_true, if_false] at h
      refine wp_region_list (denList_sound _ _ _ _ _ h ?_ r o x)
      intro o ho
      obtain ⟨i, hi, rfl⟩ := List.getElem_of_mem ho
      exact hd i _ (by simp [Array.getElem?_eq_getElem (show i < ops.size by simpa using hi)])
  | seq c d ihc ihd =>
    intro Q e a H w h d r o x
    unfold dsts at d
    rw [Bool.and_eq_true] at d
    refine wp_seq (Code.wp_mono ?_ (ihc _ e a H w h d.1 r o x))
    rintro z a w ⟨e', H', r', o', x', hq⟩
    cases z with
    | normal => exact ihd _ _ _ _ _ hq d.2 r' o' x'
    | outgrown => exact hq.elim
    | _ => exact ⟨e', H', r', o', x', hq⟩
  | cond q c d ihc ihd =>
    intro Q e a H w h d r o x
    unfold dsts at d
    rw [Bool.and_eq_true] at d
    obtain ⟨t, ht, h1, h2⟩ := h
    rw [← r.ev] at ht
    exact wp_cond_split ht (fun z => ihc _ _ _ _ _ (h1 z) d.1 r o x) (fun z => ihd _ _ _ _ _ (h2 z) d.2 r o x)
  | block id c ih =>
    intro Q e a H w h d r o x
    refine wp_block (Code.wp_mono ?_ (ih _ e a H w h d r o x))
    rintro z a w ⟨e', H', r', o', x', hq⟩
    cases z with
    | exit id' =>
      unfold Exit.inBlock
      simp only [blockH] at hq
      simp only
      split
      · rename_i hid; rw [if_pos hid] at hq; exact ⟨e', H', r', o', x', hq⟩
      · rename_i hid; rw [if_neg hid] at hq; exact ⟨e', H', r', o', x', hq⟩
    | outgrown => exact hq.elim
    | _ => exact ⟨e', H', r', o', x', hq⟩
  | loop c ih =>
    intro Q e a H w h d r o x
    obtain ⟨I, μ, h0, hr⟩ := h
    have key : ∀ m a w, (∃ e H, I e H ∧ Rel n e a ∧ Ok G H w ∧ Ext H0 H w0 w ∧ μ e H = m) → ∀ (b : Frame) (k : List Item) (cs : List Frame),
        ∃ z a' w', lift n G H0 w0 Q z a' w' ∧ Arrives P (lone (b.at a (.code c :: .inLoop c :: k)) cs w) b k cs z a' w' := by
      intro m
      induction m using Nat.strongRecOn with
      | _ m ihn =>
        rintro a w ⟨e, H, hI, r, o, x, hn⟩ b k cs
        obtain ⟨z, a₁, w₁, ⟨e1, H1, r1, o1, x1, hq⟩, harr⟩ := ih _ e a H w (hr e H hI) d r o x b (.inLoop c :: k) cs
        cases z with
        | normal =>
          obtain ⟨hI₁, hlt⟩ := hq
          obtain ⟨z₂, a₂, w₂, hq₂, harr₂⟩ := ihn (μ e1 H1) (hn ▸ hlt) a₁ w₁ ⟨e1, H1, hI₁, r1, o1, x1, rfl⟩ b k cs
          exact ⟨z₂, a₂, w₂, hq₂, .of_steps (Steps.trans harr (.one step_inLoop)) harr₂⟩
        | exit id => exact ⟨_, a₁, w₁, ⟨e1, H1, r1, o1, x1, hq⟩, .pass (x := .inLoop c) rfl (fun _ _ => .inl (by simp)) harr⟩
        | goto l => exact ⟨_, a₁, w₁, ⟨e1, H1, r1, o1, x1, hq⟩, .pass (x := .inLoop c) rfl (fun _ _ => .inl (by simp)) harr⟩
        | ret => exact ⟨_, a₁, w₁, ⟨e1, H1, r1, o1, x1, hq⟩, .pass (x := .inLoop c) rfl (fun _ _ => .inl (by simp)) harr⟩
        | panic ch => exact ⟨_, a₁, w₁, ⟨e1, H1, r1, o1, x1, hq⟩, .pass (x := .inLoop c) rfl (fun _ _ => .inl (by simp)) harr⟩
        | outgrown => exact hq.elim
    intro b k cs
    obtain ⟨z, a', w', hq, harr⟩ := key _ a w ⟨e, H, h0, r, o, x, rfl⟩ b k cs
    exact ⟨z, a', w', hq, .of_steps (.one step_loop) harr⟩
  | exit id => intro Q e a H w h _ r o x; exact wp_exit ⟨e, H, r, o, x, h⟩
  | label l => intro Q e a H w h _ r o x; exact wp_label ⟨e, H, r, o, x, h⟩
  | goto l => intro Q e a H w h _ r o x; exact wp_goto ⟨e, H, r, o, x, h⟩
  | ret => intro Q e a H w h _ r o x; exact wp_ret ⟨e, H, r, o, x, h⟩
  | _ => intro Q e a H w h _ r o x; exact h.elim

/-- Only reads. -/
def RO {α : Type} : Sem α → Prop
  | .pure _ => True
  | .load _ _ k => ∀ v, RO (k v)
  | .shape _ k => ∀ v, RO (k v)
  | .frozen _ k => ∀ v, RO (k v)
  | .getObj _ k => ∀ v, RO (k v)
  | .program k => ∀ v, RO (k v)
  | .mark _ k => RO k
  | .halt _ => True
  | _ => False
theorem RO.run {α : Type} (P : Program) (s : Sem α) : RO s → ∀ (w : World) (v : α) (w' : World), s.run P w = .ok v w' → w' = w := by
  induction s with
  | pure a => intro _ w v w' h; cases h; rfl
  | load m a k ih =>
    intro hs w v w' h
    simp only [Sem.run] at h
    split at h
    · exact ih _ (hs _) _ _ _ h
    · split at h
      · exact ih _ (hs _) _ _ _ h
      · cases h
  | shape r k ih => intro hs w v w' h; exact ih _ (hs _) _ _ _ h
  | frozen r k ih => intro hs w v w' h; exact ih _ (hs _) _ _ _ h
  | getObj r k ih =>
    intro hs w v w' h
    simp only [Sem.run] at h
    split at h
    · cases h
    · exact ih _ (hs _) _ _ _ h
    · cases h
  | program k ih => intro hs w v w' h; exact ih _ (hs _) _ _ _ h
  | mark m k ih => intro hs w v w' h; exact ih hs _ _ _ h
  | halt x => intro _ w v w' h; cases h
  | _ => intro hs; exact hs.elim
theorem RO.bind {α β : Type} (s : Sem α) (f : α → Sem β) : RO s → (∀ a, RO (f a)) → RO (s >>= f) := by
  show RO s → _ → RO (Sem.bind s f)
  induction s with
  | pure a => intro _ h; exact h a
  | load m a k ih => intro hs h v; exact ih v (hs v) h
  | shape r k ih => intro hs h v; exact ih v (hs v) h
  | frozen r k ih => intro hs h v; exact ih v (hs v) h
  | getObj r k ih => intro hs h v; exact ih v (hs v) h
  | program k ih => intro hs h v; exact ih v (hs v) h
  | mark m k ih => intro hs h; exact ih hs h
  | halt x => intro _ _; trivial
  | _ => intro hs; exact hs.elim
theorem RO.loadCellsFrom (a : Addr) : ∀ (n i : Nat) (acc : Array Value), RO (Go.loadCellsFrom a i n acc)
  | 0, i, acc => trivial
  | n + 1, i, acc => by
    unfold Go.loadCellsFrom
    exact RO.bind _ _ (fun _ => trivial) fun v => RO.loadCellsFrom a n (i + 1) _
theorem RO.typeInfo (t : TypeId) : RO (typeInfo t) := by
  unfold Go.typeInfo
  refine RO.bind _ _ (fun _ => trivial) fun p => ?_
  split <;> trivial
theorem RO.underlying (t : TypeId) : RO (underlying t) := by
  unfold Go.underlying
  refine RO.bind _ _ (fun _ => trivial) fun p => ?_
  split <;> trivial
theorem RO.loadVar (t : TypeId) (a : Addr) : RO (loadVar t a) := by
  unfold Go.loadVar Go.isAgg Go.sizeOf Go.loadCells
  refine RO.bind _ _ (RO.bind _ _ (RO.underlying t) fun d => by split <;> trivial) fun b => ?_
  split
  · refine RO.bind _ _ (RO.bind _ _ (RO.typeInfo t) fun _ => trivial) fun n => ?_
    exact RO.bind _ _ (RO.loadCellsFrom _ _ _ _) fun _ => trivial
  · exact fun _ => trivial
theorem RO.asAddr (v : Value) : RO (asAddr v) := by
  unfold Go.asAddr
  split
  · trivial
  · unfold runtimePanic
    refine RO.bind _ _ (fun _ => trivial) fun p => trivial
  · trivial
theorem RO.mapM {α β : Type} (f : α → Sem β) (hf : ∀ a, RO (f a)) (l : List α) : RO (l.mapM f) := by
  induction l with
  | nil => trivial
  | cons a l ih =>
    rw [List.mapM_cons]
    exact RO.bind _ _ (hf a) fun _ => RO.bind _ _ ih fun _ => trivial
theorem RO.results (fn : Func) (tmps : Array Value) : RO (results fn tmps) := by
  unfold Go.results
  refine RO.bind _ _ ?_ fun vs => trivial
  rw [Array.mapM_eq_mapM_toList]
  show RO (List.toArray <$> _)
  rw [map_eq_pure_bind]
  refine RO.bind _ _ (RO.mapM _ ?_ _) fun _ => trivial
  intro r
  cases r with
  | tmp t => trivial
  | cell a t => exact RO.bind _ _ (RO.asAddr _) fun _ => RO.loadVar _ _

/-- One result. -/
def resE (P : Program) (G : Hp) (e : Env) (H : Hp) : ResultVar → (Value → Prop) → Prop
  | .tmp t, k => k (e t)
  | .cell a t, k => wpH P G (do loadVar t (← asAddr (e a))) H (fun v _ => k v) (fun _ _ => False)
def resEs (P : Program) (G : Hp) (e : Env) (H : Hp) : List ResultVar → List Value → (List Value → Prop) → Prop
  | [], acc, k => k acc
  | r :: rs, acc, k => resE P G e H r fun v => resEs P G e H rs (acc ++ [v]) k
def tuple1 (l : List Value) : Value := match l with | [v] => v | l => .tuple l.toArray
/-- Where a body ends. -/
def endH (P : Program) (G : Hp) (rs : List ResultVar) (R : Ending → Hp → Prop) : Post
  | .normal, e, H | .ret, e, H => resEs P G e H rs [] fun vs => R (.returned (tuple1 vs)) H
  | .panic chain, e, H => R (.panicked chain) H
  | _, _, _ => False
theorem run_resE {P : Program} {G : Hp} {e : Env} {H : Hp} {n : Nat} {a : Act} {w : World} (hr : Rel n e a) (o : Ok G H w) (r : ResultVar) (k : Value → Prop) (h : resE P G e H r k) :
    ∃ v, (match r with | .tmp t => (pure (a.tmps.getD t undef) : Sem Value) | .cell x t => do loadVar t (← asAddr (a.tmps.getD x undef))).run P w = .ok v w ∧ k v := by
  cases r with
  | tmp t => exact ⟨_, rfl, by rw [hr.get]; exact h⟩
  | cell x t =>
    have h : wpH P G (do loadVar t (← asAddr (e x))) H (fun v _ => k v) (fun _ _ => False) := h
    rw [← hr.get] at h
    have := wpH_sound P G _ _ _ _ w h o
    unfold Fine at this
    split at this
    · rename_i v w' hrun
      obtain ⟨H', hk, _, _⟩ := this
      have e1 := RO.run P _ (RO.bind _ _ (RO.asAddr _) fun _ => RO.loadVar _ _) _ _ _ hrun
      subst e1
      exact ⟨v, hrun, hk⟩
    · exact (this.elim fun _ q => q.1).elim
    · exact this.elim
theorem run_resEs {P : Program} {G : Hp} {e : Env} {H : Hp} {n : Nat} {a : Act} {w : World} (hr : Rel n e a) (o : Ok G H w) : ∀ (rs : List ResultVar) (acc : List Value) (k : List Value → Prop), resEs P G e H rs acc k →
    ∃ vs, (rs.mapM fun (r : ResultVar) => match r with | .tmp t => (pure (a.tmps.getD t undef) : Sem Value) | .cell x t => do loadVar t (← asAddr (a.tmps.getD x undef))).run P w = .ok vs w ∧ k (acc ++ vs)
  | [], acc, k, h => ⟨[], rfl, by have h : k acc := h; simpa using h⟩
  | r :: rs, acc, k, h => by
    obtain ⟨v, h1, h2⟩ := run_resE hr o r _ h
    obtain ⟨vs, h3, h4⟩ := run_resEs hr o rs _ _ h2
    refine ⟨v :: vs, ?_, by simpa using h4⟩
    rw [List.mapM_cons, Sem.run_bind, h1, Result.andThen_ok, Sem.run_bind, h3]
    rfl
theorem calls_of_den {P : Program} {G : Hp} {f : FuncId} {fn : Func} {c : Code} {args : Array Value} {H : Hp} {R : Ending → Hp → Prop}
    (hf : P.funcs[f]? = some fn) (hb : fn.body = some c) (hn : args.size ≤ fn.ntmps) (hd : dsts fn.ntmps c = true)
    (h : den P G c (endH P G fn.results.toList R) (fun t => args.toList.getD t undef) H) : CallsH P G f args H R := by
  intro w o
  have r : Rel fn.ntmps (fun t => args.toList.getD t undef) { tmps := args ++ Array.replicate (fn.ntmps - args.size) undef, defers := [] } := by
    refine ⟨rfl, by simp; omega, fun t => ?_⟩
    simp only [Array.getD_eq_getD_getElem?, Array.getElem?_append, Array.getElem?_replicate, List.getD_eq_getElem?_getD, Array.getElem?_toList]
    split
    · rfl
    · rename_i q
      rw [Array.getElem?_eq_none (by omega)]
      split <;> rfl
  refine calls_of_wp hf hb (Code.wp_mono ?_ (den_sound c _ _ _ _ w h hd r o (.refl _ _)))
  rintro z a w' ⟨e, H', r', o', x, hq⟩
  have fin : resEs P G e H' fn.results.toList [] (fun vs => R (.returned (tuple1 vs)) H') → a.defers = [] ∧ ∃ v, (results fn a.tmps).run P w' = .ok v w' ∧ ∃ H', R (.returned v) H' ∧ Ok G H' w' ∧ Ext H H' w w' := by
    intro hq
    obtain ⟨vs, h1, h2⟩ := run_resEs r' o' _ _ _ hq
    refine ⟨r'.defers, tuple1 vs, ?_, H', by simpa using h2, o', x⟩
    unfold results
    rw [Sem.run_bind, Array.mapM_eq_mapM_toList, Sem.run_map]
    refine Eq.trans (congrArg (fun r => Result.andThen (Result.andThen r _) _) h1) ?_
    simp only [Result.andThen_ok, Sem.run_pure]
    congr 1
    unfold tuple1
    match vs with
    | [] => rfl
    | [v] => rfl
    | a :: b :: l => simp
  cases z with
  | normal => exact fin hq
  | ret => exact fin hq
  | panic c => exact ⟨r'.defers, H', hq, o', x⟩
  | _ => exact hq.elim
end Go.Sl
