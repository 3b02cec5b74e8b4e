/- Code over the small heap: what a call does, as a predicate transformer, and its soundness over the machine's calls. -/
import Derived.Test.YtanhmbdcdbcfmaaCore
import Derived.RangeFuncIn
import Derived.RangeFuncLeaves
import Derived.RowsInLaws
set_option linter.unusedVariables false
set_option linter.unusedSimpArgs false
namespace Go.Sl
open Go

/-- A call, over what it owns. -/
def CallsH (P : Program) (G : Hp) (f : FuncId) (args : Array Value) (H : Hp) (R : Ending → Hp → Prop) : Prop :=
  ∀ w, Ok G H w → Calls P f args w fun e w' => ∃ H', R e H' ∧ Ok G H' w' ∧ Ext H H' w w'
theorem CallsH.mono {P : Program} {G : Hp} {f : FuncId} {args : Array Value} {H : Hp} {R R' : Ending → Hp → Prop} (h : CallsH P G f args H R)
    (hr : ∀ e H', R e H' → R' e H') : CallsH P G f args H R' :=
  fun w o => (h w o).mono fun e w' ⟨H', a, b, c⟩ => ⟨H', hr _ _ a, b, c⟩
/-- What is not a goer's stays. -/
theorem frameG {G H F : Hp} {C : World → (Ending → World → Prop) → Prop} (hm : ∀ w R R', C w R → (∀ e w, R e w → R' e w) → C w R') {R : Ending → Hp → Prop}
    (h : ∀ w, Ok G H w → C w fun e w' => ∃ H', R e H' ∧ Ok G H' w' ∧ Ext H H' w w')
    (hd : H.disj F) : ∀ w, Ok G (H.un F) w → C w fun e w' => ∃ H2, (∃ H1, H2 = H1.un F ∧ H1.disj F ∧ R e H1) ∧ Ok G H2 w' ∧ Ext (H.un F) H2 w w' := by
  intro w o
  have o1 : Ok G H w := by
    refine ⟨fun b ob hb => o.own b ob ?_, o.ro, fun b => ?_⟩
    · unfold Hp.un; rw [hb]
    · rcases o.dj b with q | q
      · refine .inl ?_
        unfold Hp.un at q
        cases e : H b with
        | none => rfl
        | some x => rw [e] at q; cases q
      · exact .inr q
  have hF : ∀ b ob, F b = some ob → w.heap[b]? = some ob ∧ H b = none ∧ G b = none := by
    intro b ob hb
    have hn : H b = none := by
      rcases hd b with q | q
      · exact q
      · rw [hb] at q; cases q
    have hu : (H.un F) b = some ob := by unfold Hp.un; rw [hn]; exact hb
    refine ⟨o.own _ _ hu, hn, ?_⟩
    rcases o.dj b with q | q
    · rw [hu] at q; cases q
    · exact q
  refine hm w _ _ (h w o1) fun e w' ⟨H', hR, o', x⟩ => ?_
  have hd' : H'.disj F := by
    intro b
    cases e1 : H' b with
    | none => exact .inl rfl
    | some ob =>
      refine .inr ?_
      cases e2 : F b with
      | none => rfl
      | some ob2 =>
        obtain ⟨q1, q2, q3⟩ := hF _ _ e2
        rcases x.dom b (by simp [e1]) with q | q
        · exact absurd q2 q
        · have := (Array.getElem?_eq_some_iff.1 q1).1
          omega
  refine ⟨H'.un F, ⟨H', rfl, hd', hR⟩, ⟨?_, o'.ro, ?_⟩, ⟨x.os, x.tape, x.output, x.size, ?_, ?_⟩⟩
  · intro b ob hb
    unfold Hp.un at hb
    cases e1 : H' b with
    | some ob1 => rw [e1] at hb; cases hb; exact o'.own _ _ e1
    | none =>
      rw [e1] at hb
      obtain ⟨q1, q2, q3⟩ := hF _ _ hb
      rw [x.keep b (Array.getElem?_eq_some_iff.1 q1).1 q2]
      exact q1
  · intro b
    unfold Hp.un
    cases e1 : H' b with
    | some ob1 =>
      rcases o'.dj b with q | q
      · rw [e1] at q; cases q
      · exact .inr q
    | none =>
      cases e2 : F b with
      | none => exact .inl rfl
      | some ob => exact .inr (hF _ _ e2).2.2
  · intro b hb hn
    unfold Hp.un at hn
    cases e1 : H b with
    | some ob => rw [e1] at hn; cases hn
    | none => exact x.keep b hb e1
  · intro b hb
    unfold Hp.un at hb ⊢
    cases e1 : H b with
    | some ob => exact .inl (by simp)
    | none =>
      cases e2 : F b with
      | some ob => exact .inl (by simp)
      | none =>
        cases e3 : H' b with
        | some ob =>
          rcases x.dom b (by simp [e3]) with q | q
          · exact absurd e1 q
          · exact .inr q
        | none => rw [e3, e2] at hb; exact absurd rfl hb

/-- What is not the call's stays. -/
theorem CallsH.frame {P : Program} {G : Hp} {f : FuncId} {args : Array Value} {H F : Hp} {R : Ending → Hp → Prop} (h : CallsH P G f args H R)
    (hd : H.disj F) : CallsH P G f args (H.un F) (fun e H' => ∃ H1, H' = H1.un F ∧ H1.disj F ∧ R e H1) :=
  frameG (C := fun w R => Calls P f args w R) (fun _ _ _ h k => h.mono k) h hd
/-- A round of a loop over a function; a row of the model's own. -/
def Nx (P : Program) (nx : Next) (w : World) (R : Ending → World → Prop) : Prop :=
  match nx with
  | .round l f tmps assign body => RoundIn Fence.wide 0 P l f tmps assign body w R
  | .row row args => RowsIn Fence.wide 0 P row args w fun v w' => R (.returned v) w'
  | _ => False
theorem Nx.mono {P : Program} {nx : Next} {w : World} {R R' : Ending → World → Prop} (h : Nx P nx w R) (hr : ∀ e w, R e w → R' e w) : Nx P nx w R' := by
  unfold Nx at *
  cases nx with
  | round l f tmps assign body => exact RoundIn.mono h hr
  | row row args => exact RowsIn.mono h fun v w' q => hr _ _ q
  | _ => exact h
def NxH (P : Program) (G : Hp) (nx : Next) (H : Hp) (R : Ending → Hp → Prop) : Prop :=
  ∀ w, Ok G H w → Nx P nx w fun e w' => ∃ H', R e H' ∧ Ok G H' w' ∧ Ext H H' w w'
theorem NxH.mono {P : Program} {G : Hp} {nx : Next} {H : Hp} {R R' : Ending → Hp → Prop} (h : NxH P G nx H R) (hr : ∀ e H', R e H' → R' e H') : NxH P G nx H R' :=
  fun w o => (h w o).mono fun e w' ⟨H', a, b, c⟩ => ⟨H', hr _ _ a, b, c⟩
theorem NxH.frame {P : Program} {G : Hp} {nx : Next} {H F : Hp} {R : Ending → Hp → Prop} (h : NxH P G nx H R)
    (hd : H.disj F) : NxH P G nx (H.un F) (fun e H' => ∃ H1, H' = H1.un F ∧ H1.disj F ∧ R e H1) :=
  frameG (C := fun w R => Nx P nx w R) (fun _ _ _ h k => h.mono k) h hd
theorem Nx.strict {P : Program} {nx : Next} {w : World} {R : Ending → World → Prop} (h : Nx P nx w R) : ∃ e w', R e w' := by
  unfold Nx at h
  cases nx with
  | round l f tmps assign body =>
    obtain ⟨e, w', r, _⟩ := h.2 default [] (room_wide _)
    exact ⟨e, w', r⟩
  | row row args =>
    obtain ⟨v, w', r, _⟩ := h default [] (room_wide _)
    exact ⟨_, w', r⟩
  | _ => exact h.elim

/-- What can be. -/
def Real (G H : Hp) : Prop := ∃ w, Ok G H w
/-- The slots of a frame. -/
abbrev Env := Nat → Value
def Env.put (e : Env) (d : Option Tmp) (v : Value) : Env := match d with | some d => fun t => if t = d then v else e t | none => e
def Env.ev (e : Env) : Operand → Value
  | .tmp t => e t
  | .const v => v
  | .global g => .pointer (some ⟨g, 0, none⟩)
  | .func f => .func (.func f) #[] #[]
structure Rel (n : Nat) (e : Env) (a : Act) : Prop where
  size : a.tmps.size = n
  get : ∀ t, a.tmps.getD t undef = e t
theorem Rel.ev {n : Nat} {e : Env} {a : Act} (h : Rel n e a) : a.eval = e.ev := by
  funext x; cases x <;> simp [Act.eval, Env.ev, h.get]
def dstOk (n : Nat) : Option Tmp → Bool | some d => decide (d < n) | none => true
theorem Rel.put {n : Nat} {e : Env} {a : Act} (h : Rel n e a) {d : Option Tmp} (hd : dstOk n d = true) (v : Value) : Rel n (e.put d v) (a.put d v) := by
  cases d with
  | none => exact h
  | some d =>
    have hd' : d < n := by simpa [dstOk] using hd
    refine ⟨by simp [Act.put, h.size], fun t => ?_⟩
    have := h.get t
    simp only [Act.put, Env.put, Array.getD_eq_getD_getElem?, Array.getElem?_setIfInBounds] at this ⊢
    by_cases e1 : d = t
    · subst e1; simp [h.size, hd']
    · rw [if_neg e1, if_neg (fun q => e1 q.symm)]; exact this
def yieldE (ops : Array Oper) (e : Env) (j : Nat) : Option Bool :=
  match (ops[j]?).bind (·.dst) with
  | some t => match e t with | .bool b => some b | _ => none
  | none => none
theorem Rel.yield {n : Nat} {e : Env} {a : Act} (h : Rel n e a) (ops : Array Oper) (j : Nat) : yielded ops a.tmps j = yieldE ops e j := by
  unfold yielded yieldE
  cases hj : (ops[j]?).bind (·.dst) with
  | none => rfl
  | some t =>
    have := h.get t
    simp only [Option.bind_some]
    rw [Array.getD_eq_getD_getElem?] at this
    cases ht : a.tmps[t]? with
    | none => rw [ht] at this; simp only [Option.getD_none] at this; rw [← this]; rfl
    | some v => rw [ht] at this; simp only [Option.getD_some] at this; rw [← this]; cases v <;> rfl
def wantE (ops : Array Oper) (e : Env) (o : Oper) : Bool := Region.wanted o (yieldE ops e)
theorem Rel.want {n : Nat} {e : Env} {a : Act} (h : Rel n e a) (ops : Array Oper) (o : Oper) : Region.wanted o (yielded ops a.tmps) = wantE ops e o := by
  unfold wantE Region.wanted
  cases o.guard with
  | none => rfl
  | some q => simp only [h.yield]

inductive Out where
  | normal
  | exit (id : Nat)
  | goto (l : Nat)
  | ret
  | panic (chain : List PanicEntry)
abbrev Post := Out → Env → Hp → Prop
/-- An operation. -/
def denOp (P : Program) (G : Hp) (o : Oper) (e : Env) (H : Hp) (next : Env → Hp → Prop) (Q : Post) : Prop :=
  wpH P G (execOp e.ev o) H
    (fun nx H' => match nx with
      | .value v => next (e.put o.dst v) H'
      | .skip => next (e.put o.dst undef) H'
      | .enter f args => CallsH P G f args H' fun z H'' => match z with
        | .returned v => next (e.put o.dst v) H''
        | .panicked chain => Q (.panic chain) e H''
        | .outgrown => False
      | .round l f tmps assign body => NxH P G (.round l f tmps assign body) H' fun z H'' => match z with
        | .returned v => next (e.put o.dst v) H''
        | .panicked chain => Q (.panic chain) e H''
        | .outgrown => False
      | .row row args => NxH P G (.row row args) H' fun z H'' => match z with
        | .returned v => next (e.put o.dst v) H''
        | .panicked chain => Q (.panic chain) e H''
        | .outgrown => False
      | _ => False)
    (fun v H' => Q (.panic [{ v, recovered := false }]) e H')
/-- A region's operations, in their own order. -/
def denList (P : Program) (G : Hp) (ops : Array Oper) (Q : Post) : List Oper → Env → Hp → Prop
  | [], e, H => Q .normal e H
  | o :: rest, e, H =>
    if wantE ops e o then denOp P G o e H (denList P G ops Q rest) Q else denList P G ops Q rest (e.put o.dst undef) H
/-- The same, by places. -/
def denIdx (P : Program) (G : Hp) (ops : Array Oper) (Q : Post) : List Nat → Env → Hp → Prop
  | [], e, H => Q .normal e H
  | i :: rest, e, H =>
    match ops[i]? with
    | none => denIdx P G ops Q rest e H
    | some o => if wantE ops e o then denOp P G o e H (denIdx P G ops Q rest) Q else denIdx P G ops Q rest (e.put o.dst undef) H
def thenH (next : Env → Hp → Prop) (Q : Post) : Post
  | .normal, e, H => next e H
  | o, e, H => Q o e H
def blockH (id : Nat) (Q : Post) : Post
  | .exit id', e, H => if id' = id then Q .normal e H else Q (.exit id') e H
  | o, e, H => Q o e H
/-- Every order that a region's edges allow. -/
def denDraw (P : Program) (G : Hp) (ops : Array Oper) (Q : Post) (e : Env) (H : Hp) : Prop :=
  ∀ t, denIdx P G ops Q (Region.schedule (P.follows .mixedOrders) ops t) e H
/-- Slots that are written are the frame's; nothing is deferred. -/
def opOk (n : Nat) (o : Oper) : Bool := dstOk n o.dst && (match o.op with | .defer _ => false | _ => true)
/-- No loop over a function. -/
def plain : Code → Bool
  | .seq a b => plain a && plain b
  | .cond _ a b => plain a && plain b
  | .block _ c => plain c
  | .loop c => plain c
  | .rangeFunc .. => false
  | _ => true
/-- All slots that are written are the frame's. -/
def dsts (n : Nat) : Code → Bool
  | .region _ ops _ => ops.all fun o => opOk n o
  | .seq a b => dsts n a && dsts n b
  | .cond _ a b => dsts n a && dsts n b
  | .block _ c => dsts n c
  | .loop c => dsts n c
  | .rangeFunc _ ps a b => ps.all (fun t => decide (t < n)) && (plain a && dsts n a) && (plain b && dsts n b)
  | _ => true
/-- Where a loop over a function goes on. -/
def jumpQ (Q : Post) (e : Env) (H : Hp) : Option Code → Prop
  | none => Q .normal e H
  | some .ret => Q .ret e H
  | some (.exit id) => Q (.exit id) e H
  | some (.goto l) => Q (.goto l) e H
  | _ => False
/-- A loop over a function, ahead of its first round: its record; the call. -/
def denRF (P : Program) (G : Hp) (g : Operand) (ps : Array Tmp) (assign body : Code) (Q : Post) (e : Env) (H : Hp) : Prop :=
  ∀ (l r : Nat) (fn : FuncId) (tmps : Array Value), H l = none → G l = none → (∀ t, tmps.getD t undef = e t) → ps.all (fun t => decide (t < tmps.size)) = true →
    dsts tmps.size assign = true → dsts tmps.size body = true → plain assign = true → plain body = true →
    wpH P G (do let d ← resolve e.ev (rangeCall g l) 0; invoke d.target d.args) (H.set l (.loop { state := .ready, pending := none, fn, tmps, params := ps, assign, body, defers := r }))
      (fun nx H1 => match nx with
        | .enter f args => CallsH P G f args H1 fun z H2 => match z with
          | .returned _ => wpH P G (Instr.endLoop l) H2 (fun j H3 => jumpQ Q e H3 j) (fun _ _ => False)
          | .panicked c => Q (.panic c) e H2
          | .outgrown => False
        | _ => False) (fun _ _ => False)
def den (P : Program) (G : Hp) : Code → Post → Env → Hp → Prop
  | .skip, Q, e, H => Q .normal e H
  | .region _ ops draw, Q, e, H => if draw then (Real G H → denDraw P G ops Q e H) else denList P G ops Q ops.toList e H
  | .seq x y, Q, e, H => den P G x (thenH (den P G y Q) Q) e H
  | .cond c x y, Q, e, H => ∃ t, e.ev c = .bool t ∧ (t = true → den P G x Q e H) ∧ (t = false → den P G y Q e H)
  | .block id c, Q, e, H => den P G c (blockH id Q) e H
  | .loop c, Q, e, H => ∃ (I : Env → Hp → Prop) (μ : Env → Hp → Nat), I e H ∧ ∀ e H, I e H → den P G c (thenH (fun e' H' => I e' H' ∧ μ e' H' < μ e H) Q) e H
  | .rangeFunc g ps x y, Q, e, H => denRF P G g ps x y Q e H
  | .exit id, Q, e, H => Q (.exit id) e H
  | .label _, Q, e, H => Q .normal e H
  | .goto l, Q, e, H => Q (.goto l) e H
  | .ret, Q, e, H => Q .ret e H
  | _, _, _, _ => False

/-- The marks of loops over functions, among a frame's deferred calls: their blocks are new, no one's, and empty. -/
def Mk (G H : Hp) (w0 w : World) (ds : List Deferred) : Prop :=
  ∃ rs : List Nat, ds = rs.map (fun r => { target := .collected r, args := #[] }) ∧ rs.Nodup ∧ ∀ r ∈ rs, w0.heap.size ≤ r ∧ (H r = none ∧ G r = none) ∧ w.heap[r]? = some (.deferred (some []))
theorem Mk.nil (G H : Hp) (w0 w : World) : Mk G H w0 w [] := ⟨[], rfl, .nil, by simp⟩
theorem Mk.ext {G H H1 : Hp} {w0 w w1 : World} {ds : List Deferred} (h : Mk G H w0 w ds) (x : Ext H H1 w w1) : Mk G H1 w0 w1 ds := by
  obtain ⟨rs, h1, h2, h3⟩ := h
  refine ⟨rs, h1, h2, fun r hr => ?_⟩
  obtain ⟨q1, ⟨q2, q4⟩, q3⟩ := h3 r hr
  have hlt := (Array.getElem?_eq_some_iff.1 q3).1
  refine ⟨q1, ⟨?_, q4⟩, by rw [x.keep r hlt q2]; exact q3⟩
  cases e : H1 r with
  | none => rfl
  | some o =>
    rcases x.dom r (by simp [e]) with q | q
    · exact absurd q2 q
    · omega
/-- What became of the rest of memory, and the marks. -/
structure Xt (G H0 H : Hp) (w0 w : World) (ds : List Deferred) : Prop where
  ext : Ext H0 H w0 w
  marks : Mk G H w0 w ds
theorem Xt.trans {G H0 H H1 : Hp} {w0 w w1 : World} {ds : List Deferred} (h : Xt G H0 H w0 w ds) (x : Ext H H1 w w1) : Xt G H0 H1 w0 w1 ds := ⟨h.ext.trans x, h.marks.ext x⟩
theorem put_defers (a : Act) (d : Option Tmp) (v : Value) : (a.put d v).defers = a.defers := by cases d <;> rfl
theorem Xt.put {G H0 H : Hp} {w0 w : World} {a : Act} (h : Xt G H0 H w0 w a.defers) (d : Option Tmp) (v : Value) : Xt G H0 H w0 w (a.put d v).defers := by rw [put_defers]; exact h
/-- The fence of a frame: none, but its round. -/
def WF (ro : Option Nat) : Fence := { Fence.wide with round := ro }
theorem wf_calls {ro : Option Nat} {n : Nat} {P : Program} {f : FuncId} {args : Array Value} {w : World} {R : Ending → World → Prop} (h : Calls P f args w R) : CallsIn (WF ro) n P f args w R := (callsIn_wide (n := n)).2 h
theorem wf_fn (ro : Option Nat) (f : FuncId) : (WF ro).fn f := trivial
theorem wf_depth (ro : Option Nat) (n : Nat) : (WF ro).depth.isSome = true → 1 ≤ n := by intro h; cases h

/-- What is said of the small heap, said of the world. -/
def lift (n : Nat) (G : Hp) (H0 : Hp) (w0 : World) (Q : Post) : Exit → Act → World → Prop := fun x a w =>
  ∃ e H, Rel n e a ∧ Ok G H w ∧ Xt G H0 H w0 w a.defers ∧ match x with
    | .normal => Q .normal e H
    | .exit id => Q (.exit id) e H
    | .goto l => Q (.goto l) e H
    | .ret => Q .ret e H
    | .panic c => Q (.panic c) e H
    | .outgrown => False

theorem denOp_sound {P : Program} {G : Hp} {o : Oper} {n : Nat} {e : Env} {a : Act} {H : Hp} {w : World} {H0 : Hp} {w0 : World} {ro : Option Nat} {next : Env → Hp → Prop} {Q : Post}
    (h : denOp P G o e H next Q) (r : Rel n e a) (hd : opOk n o = true) (hok : Ok G H w) (hx : Xt G H0 H w0 w a.defers) {N : Act → World → Prop}
    (hN : ∀ e a H w, next e H → Rel n e a → Ok G H w → Xt G H0 H w0 w a.defers → N a w) :
    o.wpIn (WF ro) 0 P a w N (lift n G H0 w0 Q) := by
  unfold opOk at hd
  rw [Bool.and_eq_true] at hd
  obtain ⟨hd, hnd⟩ := hd
  refine ⟨fun _ _ => trivial, ?_⟩
  rw [Oper.semAt_eq _ _ _ (fun c hc => by rw [hc] at hnd; cases hnd)]
  have := wpH_sound P G _ _ _ _ w h hok
  rw [← r.ev] at this
  unfold Fine at this
  unfold Oper.uponIn
  split at this
  · rename_i nx w' hr
    obtain ⟨H', hk, ho, hx'⟩ := this
    rw [hr]
    have hx1 := hx.trans hx'
    have key : ∀ (z : Ending) (w'' : World), (∃ H'', (match z with | .returned v => next (e.put o.dst v) H'' | .panicked chain => Q (.panic chain) e H'' | .outgrown => False) ∧ Ok G H'' w'' ∧ Ext H' H'' w' w'') →
        (match z, w'' with
          | .returned v, w'' => N (a.put o.dst v) w''
          | .panicked chain, w'' => lift n G H0 w0 Q (.panic chain) a w''
          | .outgrown, _ => LetsOut (lift n G H0 w0 Q)) := by
      rintro z w'' ⟨H'', hR, ho', hx''⟩
      have hx2 := hx1.trans hx''
      cases z with
      | returned v => exact hN _ _ _ _ hR (r.put hd _) ho' (hx2.put _ _)
      | panicked c => exact ⟨e, H'', r, ho', hx2, hR⟩
      | outgrown => exact hR.elim
    cases nx with
    | value v => exact hN _ _ _ _ hk (r.put hd _) ho (hx1.put _ _)
    | skip => exact hN _ _ _ _ hk (r.put hd _) ho (hx1.put _ _)
    | enter f args => exact ⟨wf_depth _ _, (wf_calls (hk w' ho)).mono fun z w'' q => by
        have q2 := key z w'' (by obtain ⟨H'', q1, q3⟩ := q; exact ⟨H'', by cases z <;> exact q1, q3⟩)
        cases z <;> exact q2⟩
    | round l f tmps assign body =>
      have h1 : RoundIn Fence.wide 0 P l f tmps assign body w' _ := hk w' ho
      have h2 : RoundIn (WF ro) 0 P l f tmps assign body w' _ := h1
      exact ⟨wf_depth _ _, h2.mono fun z w'' q => by
        have q2 := key z w'' (by obtain ⟨H'', q1, q3⟩ := q; exact ⟨H'', by cases z <;> exact q1, q3⟩)
        cases z <;> exact q2⟩
    | row row args =>
      have h1 : RowsIn Fence.wide 0 P row args w' _ := hk w' ho
      have h2 : RowsIn (WF ro) 0 P row args w' _ := h1
      exact ⟨wf_depth _ _, h2.mono fun v w'' q => key (.returned v) w'' q⟩
    | _ => exact hk.elim
  · rename_i v w' hr
    obtain ⟨H', hk, ho, hx'⟩ := this
    rw [hr]
    exact ⟨e, H', r, ho, hx.trans hx', hk⟩
  · exact this.elim

theorem opOk_dst {n : Nat} {o : Oper} (h : opOk n o = true) : dstOk n o.dst = true := by
  unfold opOk at h; rw [Bool.and_eq_true] at h; exact h.1
theorem denList_sound {P : Program} {G : Hp} {ops : Array Oper} {Q : Post} {n : Nat} (hd : ∀ (i : Nat) (o : Oper), ops[i]? = some o → opOk n o = true) {H0 : Hp} {w0 : World} {ro : Option Nat} : ∀ (m k : Nat) (e : Env) (a : Act) (H : Hp) (w : World), ops.size - k = m → k ≤ ops.size →
    denList P G ops Q (ops.toList.drop k) e H → Rel n e a → Ok G H w → Xt G H0 H w0 w a.defers → wpOpsIn (WF ro) 0 P ops (lift n G H0 w0 Q) ((List.range ops.size).drop k) a w := by
  intro m
  induction m with
  | zero =>
    intro k e a H w hk hle h r o x
    rw [List.drop_of_length_le (by simp; omega)] at h ⊢
    exact ⟨e, H, r, o, x, h⟩
  | succ m ih =>
    intro k e a H w hk hle h r o x
    have hlt : k < ops.size := by omega
    rw [List.drop_eq_getElem_cons (by simpa using hlt)] at h
    rw [List.drop_eq_getElem_cons (by simpa using hlt)]
    unfold denList at h
    unfold wpOpsIn
    have e1 : ops[(List.range ops.size)[k]'(by simpa using hlt)]? = some (ops.toList[k]'(by simpa using hlt)) := by simp [hlt]
    have hok := hd _ _ e1
    simp only [e1]
    rw [r.want]
    split
    · rename_i hw
      rw [if_pos hw] at h
      exact denOp_sound h r hok o x fun e a H w h r o x => ih (k + 1) e a H w (by omega) (by omega) h r o x
    · rename_i hw
      rw [if_neg hw] at h
      exact ⟨fun _ _ => trivial, ih (k + 1) _ _ _ _ (by omega) (by omega) h (r.put (opOk_dst hok) _) o (x.put _ _)⟩
theorem denIdx_sound {P : Program} {G : Hp} {ops : Array Oper} {Q : Post} {n : Nat} (hd : ∀ (i : Nat) (o : Oper), ops[i]? = some o → opOk n o = true) {H0 : Hp} {w0 : World} {ro : Option Nat} (l : List Nat) :
    ∀ (e : Env) (a : Act) (H : Hp) (w : World), denIdx P G ops Q l e H → Rel n e a → Ok G H w → Xt G H0 H w0 w a.defers → wpOpsIn (WF ro) 0 P ops (lift n G H0 w0 Q) l a w := by
  induction l with
  | nil => intro e a H w h r o x; exact ⟨e, H, r, o, x, h⟩
  | cons i l ih =>
    intro e a H w h r o x
    unfold denIdx at h
    unfold wpOpsIn
    cases hi : ops[i]? with
    | none => simp only [hi] at h ⊢; exact ih _ _ _ _ h r o x
    | some q =>
      simp only [hi] at h ⊢
      rw [r.want]
      split
      · rename_i hw
        rw [if_pos hw] at h
        exact denOp_sound h r (hd _ _ hi) o x fun e a H w h r o x => ih e a H w h r o x
      · rename_i hw
        rw [if_neg hw] at h
        exact ⟨fun _ _ => trivial, ih _ _ _ _ h (r.put (opOk_dst (hd _ _ hi)) _) o (x.put _ _)⟩

theorem Ok.drawn {G H : Hp} {w : World} (o : Ok G H w) : Ok G H { w with drawn := w.drawn + 1 } := ⟨o.own, o.ro, o.dj⟩
theorem Xt.drawn {G H0 H : Hp} {w0 w : World} {ds : List Deferred} (x : Xt G H0 H w0 w ds) : Xt G H0 H w0 { w with drawn := w.drawn + 1 } ds :=
  ⟨⟨x.ext.os, x.ext.tape, x.ext.output, x.ext.size, x.ext.keep, x.ext.dom⟩, x.marks⟩
/-- A block more, that is no one's. -/
theorem Ok.hide {G H : Hp} {w : World} (h : Ok G H w) (o : Obj) : Ok G H { w with heap := w.heap.push o } where
  own b o' hb := by
    show (w.heap.push o)[b]? = _
    have := h.lt hb
    rw [Array.getElem?_push, if_neg (by omega)]
    exact h.own _ _ hb
  ro b o' hb := by
    show (w.heap.push o)[b]? = _
    have := (Array.getElem?_eq_some_iff.1 (h.ro _ _ hb)).1
    rw [Array.getElem?_push, if_neg (by omega)]
    exact h.ro _ _ hb
  dj := h.dj
theorem Ext.hide {H : Hp} {w : World} (o : Obj) : Ext H H w { w with heap := w.heap.push o } where
  os := rfl
  tape := rfl
  output := rfl
  size := by simp
  keep b hb hn := by
    show (w.heap.push o)[b]? = _
    rw [Array.getElem?_push, if_neg (by omega)]
  dom b hb := .inl hb
/-- A run, of what is laid over the small heap. -/
theorem run_ok {α : Type} {P : Program} {G H : Hp} {s : Sem α} {K : α → Hp → Prop} {w : World} (h : wpH P G s H K (fun _ _ => False)) (o : Ok G H w) : ∃ v w' H', s.run P w = .ok v w' ∧ K v H' ∧ Ok G H' w' ∧ Ext H H' w w' := by
  have := wpH_sound P G _ _ _ _ w h o
  unfold Fine at this
  split at this
  · rename_i v w' hr
    obtain ⟨H', hk, ho, hx⟩ := this
    exact ⟨v, w', H', hr, hk, ho, hx⟩
  · exact (this.elim fun _ q => q.1).elim
  · exact this.elim

theorem den_sound {P : Program} {G : Hp} {n : Nat} {H0 : Hp} {w0 : World} {ro : Option Nat} (c : Code) : ∀ (Q : Post) (e : Env) (a : Act) (H : Hp) (w : World),
    den P G c Q e H → dsts n c = true → (ro = none ∨ plain c = true) → Rel n e a → Ok G H w → Xt G H0 H w0 w a.defers → c.wpIn (WF ro) 0 P (lift n G H0 w0 Q) a w := by
  induction c with
  | skip => intro Q e a H w h _ _ r o x; exact wpIn_skip ⟨e, H, r, o, x, h⟩
  | region id ops draw =>
    intro Q e a H w h d _ r o x
    have hd : ∀ (i : Nat) (o : Oper), ops[i]? = some o → opOk n o = true := by
      intro i o hi
      unfold dsts at d
      rw [Array.all_eq_true'] at d
      exact d o (Array.mem_of_getElem? hi)
    unfold den at h
    cases draw with
    | true =>
      simp only [if_true] at h
      exact wpIn_region_draw fun t => denIdx_sound hd _ _ _ _ _ (h ⟨w, o⟩ t) r o.drawn x.drawn
    | false =>
      simp only [Bool.false_eq_true, if_false] at h
      exact wpIn_region (denList_sound hd _ 0 _ _ _ _ rfl (Nat.zero_le _) h r o x)
  | seq c d ihc ihd =>
    intro Q e a H w h d p r o x
    unfold dsts at d
    rw [Bool.and_eq_true] at d
    have p1 : ro = none ∨ plain c = true := p.imp id fun q => by unfold plain at q; rw [Bool.and_eq_true] at q; exact q.1
    have p2 : ro = none ∨ plain _ = true := p.imp id fun q => by unfold plain at q; rw [Bool.and_eq_true] at q; exact q.2
    refine wpIn_seq (wpIn_mono (ihc _ e a H w h d.1 p1 r o x) ?_)
    rintro z a w ⟨e', H', r', o', x', hq⟩
    cases z with
    | normal => exact ihd _ _ _ _ _ hq d.2 p2 r' o' x'
    | outgrown => exact hq.elim
    | _ => exact ⟨e', H', r', o', x', hq⟩
  | cond q c d ihc ihd =>
    intro Q e a H w h d p r o x
    unfold dsts at d
    rw [Bool.and_eq_true] at d
    have p1 : ro = none ∨ plain c = true := p.imp id fun q => by unfold plain at q; rw [Bool.and_eq_true] at q; exact q.1
    have p2 : ro = none ∨ plain _ = true := p.imp id fun q => by unfold plain at q; rw [Bool.and_eq_true] at q; exact q.2
    obtain ⟨t, ht, h1, h2⟩ := h
    rw [← r.ev] at ht
    exact wpIn_cond_split ht (fun z => ihc _ _ _ _ _ (h1 z) d.1 p1 r o x) (fun z => ihd _ _ _ _ _ (h2 z) d.2 p2 r o x)
  | block id c ih =>
    intro Q e a H w h d p r o x
    refine wpIn_block (wpIn_mono (ih _ e a H w h d p r o x) ?_)
    rintro z a w ⟨e', H', r', o', x', hq⟩
    cases z with
    | exit id' =>
      unfold Exit.inBlock
      simp only [blockH] at hq
      simp only
      split
      · rename_i hid; rw [if_pos hid] at hq; exact ⟨e', H', r', o', x', hq⟩
      · rename_i hid; rw [if_neg hid] at hq; exact ⟨e', H', r', o', x', hq⟩
    | outgrown => exact hq.elim
    | _ => exact ⟨e', H', r', o', x', hq⟩
  | loop c ih =>
    intro Q e a H w h d p r o x
    obtain ⟨I, μ, h0, hr⟩ := h
    intro b k cs hro hb hroom
    have key : ∀ m a w, (∃ e H, I e H ∧ Rel n e a ∧ Ok G H w ∧ Xt G H0 H w0 w a.defers ∧ μ e H = m) →
        ∃ z a' w', lift n G H0 w0 Q z a' w' ∧ ArrivesIn (Machine.fenced P (WF ro)) P (lone (b.atR a (.code c :: .inLoop c :: k)) cs w) b k cs z a' w' := by
      intro m
      induction m using Nat.strongRecOn with
      | _ m ihn =>
        rintro a w ⟨e, H, hI, r, o, x, hn⟩
        obtain ⟨z, a₁, w₁, ⟨e1, H1, r1, o1, x1, hq⟩, harr⟩ := ih _ e a H w (hr e H hI) d p r o x b (.inLoop c :: k) cs hro hb hroom
        cases z with
        | normal =>
          obtain ⟨hI₁, hlt⟩ := hq
          obtain ⟨z₂, a₂, w₂, hq₂, harr₂⟩ := ihn (μ e1 H1) (hn ▸ hlt) a₁ w₁ ⟨e1, H1, hI₁, r1, o1, x1, rfl⟩
          exact ⟨z₂, a₂, w₂, hq₂, .of_steps (StepsIn.trans harr (.one (fenced_calm hb hroom rfl) stepR_inLoop)) harr₂⟩
        | exit id => exact ⟨_, a₁, w₁, ⟨e1, H1, r1, o1, x1, hq⟩, .pass (x := .inLoop c) rfl (fun _ _ => .inl (by simp)) harr⟩
        | goto l => exact ⟨_, a₁, w₁, ⟨e1, H1, r1, o1, x1, hq⟩, .pass (x := .inLoop c) rfl (fun _ _ => .inl (by simp)) harr⟩
        | ret => exact ⟨_, a₁, w₁, ⟨e1, H1, r1, o1, x1, hq⟩, .pass (x := .inLoop c) rfl (fun _ _ => .inl (by simp)) harr⟩
        | panic ch => exact ⟨_, a₁, w₁, ⟨e1, H1, r1, o1, x1, hq⟩, .pass (x := .inLoop c) rfl (fun _ _ => .inl (by simp)) harr⟩
        | outgrown => exact hq.elim
    obtain ⟨z, a', w', hq, harr⟩ := key _ a w ⟨e, H, h0, r, o, x, rfl⟩
    exact ⟨z, a', w', hq, .of_steps (.one (fenced_calm hb hroom rfl) stepR_loop) harr⟩
  | exit id => intro Q e a H w h _ _ r o x; exact wpIn_exit ⟨e, H, r, o, x, h⟩
  | label l => intro Q e a H w h _ _ r o x; exact wpIn_label ⟨e, H, r, o, x, h⟩
  | goto l => intro Q e a H w h _ _ r o x; exact wpIn_goto ⟨e, H, r, o, x, h⟩
  | ret => intro Q e a H w h _ _ r o x; exact wpIn_ret ⟨e, H, r, o, x, h⟩
  | rangeFunc g ps assign body _ _ =>
    intro Q e a H w h d p r o x
    rcases p with rfl | p
    case inr => cases p
    unfold dsts at d
    simp only [Bool.and_eq_true] at d
    obtain ⟨⟨d1, d2, d3⟩, d4, d5⟩ := d
    refine wpIn_rangeFunc fun fn _ => ?_
    let rb := w.heap.size
    let w1 : World := { w with heap := w.heap.push (.deferred (some [])) }
    let l := w1.heap.size
    let lo : Obj := .loop { state := .ready, pending := none, fn, tmps := a.tmps, params := ps, assign, body, defers := rb }
    let w2 : World := { w1 with heap := w1.heap.push lo }
    have o1 : Ok G H w1 := o.hide _
    have o2 : Ok G (H.set l lo) w2 := o1.alloc lo
    have x2 : Ext H (H.set l lo) w w2 := (Ext.hide _).trans (Ext.alloc (G := G) lo)
    obtain ⟨n1, n2⟩ := o1.new
    have hk := h l rb fn a.tmps n1 n2 r.get (by rw [r.size]; exact d1) (by rw [r.size]; exact d3) (by rw [r.size]; exact d5) d2 d4
    obtain ⟨nx, w3, H1, hrun, hnx, o3, x3⟩ := run_ok hk o2
    rw [Sem.run_bind] at hrun
    cases hres : (resolve e.ev (rangeCall g l) 0).run P w2 with
    | halt q wq => rw [hres] at hrun; cases hrun
    | ok dd w2' =>
      rw [hres, Result.andThen_ok] at hrun
      cases nx with
      | enter f args =>
        have hmark : Mk G (H.set l lo) w0 w2 ({ target := .collected rb, args := #[] } :: a.defers) := by
          obtain ⟨rs, e1, e2, e3⟩ := (x.marks.ext x2 : Mk G (H.set l lo) w0 w2 a.defers)
          have hrb : ∀ r' ∈ rs, r' < rb := by
            obtain ⟨rs', e1', e2', e3'⟩ := x.marks
            have : rs' = rs := by
              have q := e1.symm.trans e1'
              have inj : Function.Injective (fun r : Nat => ({ target := .collected r, args := #[] } : Deferred)) := by intro u v huv; injection huv with q1; injection q1
              exact (List.map_inj_right (fun a b q => inj q)).1 q.symm
            subst this
            intro r' hr'
            exact (Array.getElem?_eq_some_iff.1 (e3' r' hr').2.2).1
          refine ⟨rb :: rs, by rw [List.map_cons, e1], List.nodup_cons.2 ⟨fun q => Nat.lt_irrefl _ (hrb _ q), e2⟩, ?_⟩
          intro r' hr'
          rcases List.mem_cons.1 hr' with rfl | hr'
          · refine ⟨x.ext.size, ⟨?_, o.new.2⟩, ?_⟩
            · unfold Hp.set
              rw [if_neg (by show ¬ w.heap.size = w1.heap.size; simp [w1])]
              exact o.new.1
            · show (w1.heap.push lo)[w.heap.size]? = _
              rw [Array.getElem?_push, if_neg (by simp [w1])]
              show (w.heap.push _)[w.heap.size]? = _
              simp
          · exact e3 r' hr'
        refine ⟨l, [{ target := .collected rb, args := #[] }], w2, dd, w2', f, args, w3, rfl, ?_, fun _ _ => trivial, hrun, wf_depth _ _, (wf_calls (hnx w3 o3)).mono ?_⟩
        · rw [r.ev]; exact hres
        rintro z w4 ⟨H2, hz, o4, x4⟩
        have xt : Xt G H0 H2 w0 w4 ({ target := .collected rb, args := #[] } :: a.defers) := ⟨(x.ext.trans x2).trans (x3.trans x4), hmark.ext (x3.trans x4)⟩
        have rr : Rel n e { a with defers := { target := .collected rb, args := #[] } :: a.defers } := ⟨r.size, r.get⟩
        cases z with
        | outgrown => exact hz.elim
        | panicked c => exact ⟨e, H2, rr, o4, xt, hz⟩
        | returned v =>
          obtain ⟨j, w5, H3, hrun5, hj, o5, x5⟩ := run_ok hz o4
          refine ⟨j, w5, hrun5, ?_⟩
          have xt5 := xt.trans x5
          cases j with
          | none => exact ⟨e, H3, rr, o5, xt5, hj⟩
          | some c =>
            cases c with
            | ret => exact wpIn_ret ⟨e, H3, rr, o5, xt5, hj⟩
            | exit id => exact wpIn_exit ⟨e, H3, rr, o5, xt5, hj⟩
            | goto t => exact wpIn_goto ⟨e, H3, rr, o5, xt5, hj⟩
            | _ => exact hj.elim
      | _ => exact hnx.elim
  | _ => intro Q e a H w h _ _ r o x; exact h.elim

/-- Only reads. -/
def RO {α : Type} : Sem α → Prop
  | .pure _ => True
  | .load _ _ k => ∀ v, RO (k v)
  | .shape _ k => ∀ v, RO (k v)
  | .frozen _ k => ∀ v, RO (k v)
  | .getObj _ k => ∀ v, RO (k v)
  | .program k => ∀ v, RO (k v)
  | .mark _ k => RO k
  | .halt _ => True
  | _ => False
theorem RO.run {α : Type} (P : Program) (s : Sem α) : RO s → ∀ (w : World) (v : α) (w' : World), s.run P w = .ok v w' → w' = w := by
  induction s with
  | pure a => intro _ w v w' h; cases h; rfl
  | load m a k ih =>
    intro hs w v w' h
    simp only [Sem.run] at h
    split at h
    · exact ih _ (hs _) _ _ _ h
    · split at h
      · exact ih _ (hs _) _ _ _ h
      · cases h
  | shape r k ih => intro hs w v w' h; exact ih _ (hs _) _ _ _ h
  | frozen r k ih => intro hs w v w' h; exact ih _ (hs _) _ _ _ h
  | getObj r k ih =>
    intro hs w v w' h
    simp only [Sem.run] at h
    split at h
    · cases h
    · exact ih _ (hs _) _ _ _ h
    · cases h
  | program k ih => intro hs w v w' h; exact ih _ (hs _) _ _ _ h
  | mark m k ih => intro hs w v w' h; exact ih hs _ _ _ h
  | halt x => intro _ w v w' h; cases h
  | _ => intro hs; exact hs.elim
theorem RO.bind {α β : Type} (s : Sem α) (f : α → Sem β) : RO s → (∀ a, RO (f a)) → RO (s >>= f) := by
  show RO s → _ → RO (Sem.bind s f)
  induction s with
  | pure a => intro _ h; exact h a
  | load m a k ih => intro hs h v; exact ih v (hs v) h
  | shape r k ih => intro hs h v; exact ih v (hs v) h
  | frozen r k ih => intro hs h v; exact ih v (hs v) h
  | getObj r k ih => intro hs h v; exact ih v (hs v) h
  | program k ih => intro hs h v; exact ih v (hs v) h
  | mark m k ih => intro hs h; exact ih hs h
  | halt x => intro _ _; trivial
  | _ => intro hs; exact hs.elim
theorem RO.loadCellsFrom (a : Addr) : ∀ (n i : Nat) (acc : Array Value), RO (Go.loadCellsFrom a i n acc)
  | 0, i, acc => trivial
  | n + 1, i, acc => by
    unfold Go.loadCellsFrom
    exact RO.bind _ _ (fun _ => trivial) fun v => RO.loadCellsFrom a n (i + 1) _
theorem RO.typeInfo (t : TypeId) : RO (typeInfo t) := by
  unfold Go.typeInfo
  refine RO.bind _ _ (fun _ => trivial) fun p => ?_
  split <;> trivial
theorem RO.underlying (t : TypeId) : RO (underlying t) := by
  unfold Go.underlying
  refine RO.bind _ _ (fun _ => trivial) fun p => ?_
  split <;> trivial
theorem RO.loadVar (t : TypeId) (a : Addr) : RO (loadVar t a) := by
  unfold Go.loadVar Go.isAgg Go.sizeOf Go.loadCells
  refine RO.bind _ _ (RO.bind _ _ (RO.underlying t) fun d => by split <;> trivial) fun b => ?_
  split
  · refine RO.bind _ _ (RO.bind _ _ (RO.typeInfo t) fun _ => trivial) fun n => ?_
    exact RO.bind _ _ (RO.loadCellsFrom _ _ _ _) fun _ => trivial
  · exact fun _ => trivial
theorem RO.asAddr (v : Value) : RO (asAddr v) := by
  unfold Go.asAddr
  split
  · trivial
  · unfold runtimePanic
    refine RO.bind _ _ (fun _ => trivial) fun p => trivial
  · trivial
theorem RO.mapM {α β : Type} (f : α → Sem β) (hf : ∀ a, RO (f a)) (l : List α) : RO (l.mapM f) := by
  induction l with
  | nil => trivial
  | cons a l ih =>
    rw [List.mapM_cons]
    exact RO.bind _ _ (hf a) fun _ => RO.bind _ _ ih fun _ => trivial
theorem RO.results (fn : Func) (tmps : Array Value) : RO (results fn tmps) := by
  unfold Go.results
  refine RO.bind _ _ ?_ fun vs => trivial
  rw [Array.mapM_eq_mapM_toList]
  show RO (List.toArray <$> _)
  rw [map_eq_pure_bind]
  refine RO.bind _ _ (RO.mapM _ ?_ _) fun _ => trivial
  intro r
  cases r with
  | tmp t => trivial
  | cell a t => exact RO.bind _ _ (RO.asAddr _) fun _ => RO.loadVar _ _

/-- One result. -/
def resE (P : Program) (G : Hp) (e : Env) (H : Hp) : ResultVar → (Value → Prop) → Prop
  | .tmp t, k => k (e t)
  | .cell a t, k => wpH P G (do loadVar t (← asAddr (e a))) H (fun v _ => k v) (fun _ _ => False)
def resEs (P : Program) (G : Hp) (e : Env) (H : Hp) : List ResultVar → List Value → (List Value → Prop) → Prop
  | [], acc, k => k acc
  | r :: rs, acc, k => resE P G e H r fun v => resEs P G e H rs (acc ++ [v]) k
def tuple1 (l : List Value) : Value := match l with | [v] => v | l => .tuple l.toArray
/-- Where a body ends. -/
def endH (P : Program) (G : Hp) (rs : List ResultVar) (R : Ending → Hp → Prop) : Post
  | .normal, e, H | .ret, e, H => resEs P G e H rs [] fun vs => R (.returned (tuple1 vs)) H
  | .panic chain, e, H => R (.panicked chain) H
  | _, _, _ => False
theorem run_resE {P : Program} {G : Hp} {e : Env} {H : Hp} {n : Nat} {a : Act} {w : World} (hr : Rel n e a) (o : Ok G H w) (r : ResultVar) (k : Value → Prop) (h : resE P G e H r k) :
    ∃ v, (match r with | .tmp t => (pure (a.tmps.getD t undef) : Sem Value) | .cell x t => do loadVar t (← asAddr (a.tmps.getD x undef))).run P w = .ok v w ∧ k v := by
  cases r with
  | tmp t => exact ⟨_, rfl, by rw [hr.get]; exact h⟩
  | cell x t =>
    have h : wpH P G (do loadVar t (← asAddr (e x))) H (fun v _ => k v) (fun _ _ => False) := h
    rw [← hr.get] at h
    have := wpH_sound P G _ _ _ _ w h o
    unfold Fine at this
    split at this
    · rename_i v w' hrun
      obtain ⟨H', hk, _, _⟩ := this
      have e1 := RO.run P _ (RO.bind _ _ (RO.asAddr _) fun _ => RO.loadVar _ _) _ _ _ hrun
      subst e1
      exact ⟨v, hrun, hk⟩
    · exact (this.elim fun _ q => q.1).elim
    · exact this.elim
theorem run_resEs {P : Program} {G : Hp} {e : Env} {H : Hp} {n : Nat} {a : Act} {w : World} (hr : Rel n e a) (o : Ok G H w) : ∀ (rs : List ResultVar) (acc : List Value) (k : List Value → Prop), resEs P G e H rs acc k →
    ∃ vs, (rs.mapM fun (r : ResultVar) => match r with | .tmp t => (pure (a.tmps.getD t undef) : Sem Value) | .cell x t => do loadVar t (← asAddr (a.tmps.getD x undef))).run P w = .ok vs w ∧ k (acc ++ vs)
  | [], acc, k, h => ⟨[], rfl, by have h : k acc := h; simpa using h⟩
  | r :: rs, acc, k, h => by
    obtain ⟨v, h1, h2⟩ := run_resE hr o r _ h
    obtain ⟨vs, h3, h4⟩ := run_resEs hr o rs _ _ h2
    refine ⟨v :: vs, ?_, by simpa using h4⟩
    rw [List.mapM_cons, Sem.run_bind, h1, Result.andThen_ok, Sem.run_bind, h3]
    rfl
/-- A frame on its way out, with marks. -/
theorem leaves_marks {P : Program} {G : Hp} {fn : Func} {tmps : Array Value} {R : Ending → World → Prop} {H0 H : Hp} {w0 : World} : ∀ (rs : List Nat) (u : FrameMode) (w : World), u ≠ .run → rs.Nodup → (∀ r ∈ rs, w0.heap.size ≤ r ∧ (H r = none ∧ G r = none) ∧ w.heap[r]? = some (.deferred (some []))) → Ok G H w → Ext H0 H w0 w →
    (∀ w', Ok G H w' → Ext H0 H w0 w' → LeavesIn Fence.wide 0 P fn tmps R [] u w') →
    LeavesInM Fence.wide 0 P fn tmps R (rs.map fun r => { target := .collected r, args := #[] }) u w := by
  intro rs
  induction rs with
  | nil => intro u w hu _ _ o x h; exact h w o x
  | cons r rs ih =>
    intro u w hu hn hr o x h
    rw [List.map_cons]
    refine ⟨hu, .inl ⟨r, { w with heap := w.heap.setIfInBounds r (.deferred none) }, rfl, ?_, ?_⟩⟩
    · obtain ⟨_, _, q⟩ := hr r (by simp)
      unfold Instr.takeDeferred
      simp only [bind, Sem.bind, getObj, setObj, Sem.run, q, pure]
    · obtain ⟨hn1, hn2⟩ := List.nodup_cons.1 hn
      obtain ⟨hw0, ⟨hH, hG⟩, hq⟩ := hr r (by simp)
      have hne : ∀ b, r ≠ b → (w.heap.setIfInBounds r (.deferred none))[b]? = w.heap[b]? := fun b hb => Array.getElem?_setIfInBounds_ne hb
      have o' : Ok G H { w with heap := w.heap.setIfInBounds r (.deferred none) } := by
        refine ⟨fun b ob hb => ?_, fun b ob hb => ?_, o.dj⟩
        · exact (hne b (by rintro rfl; rw [hH] at hb; cases hb)).trans (o.own _ _ hb)
        · exact (hne b (by rintro rfl; rw [hG] at hb; cases hb)).trans (o.ro _ _ hb)
      have x' : Ext H0 H w0 { w with heap := w.heap.setIfInBounds r (.deferred none) } :=
        ⟨x.os, x.tape, x.output, by show w0.heap.size ≤ (w.heap.setIfInBounds r _).size; rw [Array.size_setIfInBounds]; exact x.size,
          fun b hb hn => (hne b (by omega)).trans (x.keep b hb hn), x.dom⟩
      refine ih u _ hu hn2 ?_ o' x' h
      intro r' hr'
      obtain ⟨q1, q2, q3⟩ := hr r' (by simp [hr'])
      exact ⟨q1, q2, (hne r' (by rintro rfl; exact hn1 hr')).trans q3⟩
theorem calls_of_den {P : Program} {G : Hp} {f : FuncId} {fn : Func} {c : Code} {args : Array Value} {H : Hp} {R : Ending → Hp → Prop}
    (hf : P.funcs[f]? = some fn) (hb : fn.body = some c) (hn : args.size ≤ fn.ntmps) (hd : dsts fn.ntmps c = true)
    (h : den P G c (endH P G fn.results.toList R) (fun t => args.toList.getD t undef) H) : CallsH P G f args H R := by
  intro w o
  have r : Rel fn.ntmps (fun t => args.toList.getD t undef) { tmps := args ++ Array.replicate (fn.ntmps - args.size) undef, defers := [] } := by
    refine ⟨by simp; omega, fun t => ?_⟩
    simp only [Array.getD_eq_getD_getElem?, Array.getElem?_append, Array.getElem?_replicate, List.getD_eq_getElem?_getD, Array.getElem?_toList]
    split
    · rfl
    · rename_i q
      rw [Array.getElem?_eq_none (by omega)]
      split <;> rfl
  refine (callsIn_wide (n := 0)).1 (callsIn_of_wp_marks hf hb trivial (wpIn_mono (den_sound (ro := none) c _ _ _ _ w h hd (.inl rfl) r o ⟨.refl _ _, .nil _ _ _ _⟩) ?_) rfl)
  rintro z a w' ⟨e', H', r', o', x, hq⟩
  obtain ⟨rs, e1, e2, e3⟩ := x.marks
  have fin : resEs P G e' H' fn.results.toList [] (fun vs => R (.returned (tuple1 vs)) H') → LeavesInM Fence.wide 0 P fn a.tmps (fun e w' => ∃ H', R e H' ∧ Ok G H' w' ∧ Ext H H' w w') a.defers .returning w' := by
    intro hq
    rw [e1]
    refine leaves_marks rs _ _ (by simp) e2 e3 o' x.ext fun w'' o'' x'' => ?_
    obtain ⟨vs, h1, h2⟩ := run_resEs r' o'' _ _ _ hq
    refine ⟨tuple1 vs, ?_, H', by simpa using h2, o'', x''⟩
    unfold results
    rw [Sem.run_bind, Array.mapM_eq_mapM_toList, Sem.run_map]
    refine Eq.trans (congrArg (fun r => Result.andThen (Result.andThen r _) _) h1) ?_
    simp only [Result.andThen_ok, Sem.run_pure]
    congr 1
    unfold tuple1
    match vs with
    | [] => rfl
    | [v] => rfl
    | a :: b :: l => simp
  cases z with
  | normal => exact fin hq
  | ret => exact fin hq
  | panic c =>
    show LeavesInM Fence.wide 0 P fn a.tmps _ a.defers (.panicking c) w'
    rw [e1]
    exact leaves_marks rs _ _ (by simp) e2 e3 o' x.ext fun w'' o'' x'' => ⟨H', hq, o'', x''⟩
  | _ => exact hq.elim
/-- Where a round ends. -/
def roundQ (P : Program) (G : Hp) (l : Nat) (R : Ending → Hp → Prop) : Post
  | .normal, _, H => wpH P G (Instr.endRound l none) H (fun v H' => R (.returned v) H') (fun _ _ => False)
  | .ret, _, H => wpH P G (Instr.endRound l (some .ret)) H (fun v H' => R (.returned v) H') (fun _ _ => False)
  | .exit id, _, H => wpH P G (Instr.endRound l (some (.exit id))) H (fun v H' => R (.returned v) H') (fun _ _ => False)
  | .goto t, _, H => wpH P G (Instr.endRound l (some (.goto t))) H (fun v H' => R (.returned v) H') (fun _ _ => False)
  | .panic _, _, _ => False
/-- A round, out of the loop's two codes. -/
theorem round_of_den {P : Program} {G : Hp} {l : Nat} {f : FuncId} {tmps : Array Value} {assign body : Code} {H : Hp} {R : Ending → Hp → Prop}
    (d1 : dsts tmps.size assign = true) (d2 : dsts tmps.size body = true) (p1 : plain assign = true) (p2 : plain body = true)
    (h : den P G assign (thenH (fun e H => wpH P G (Instr.beginRound l) H (fun _ H' => den P G body (roundQ P G l R) e H') (fun _ _ => False)) fun _ _ _ => False) (fun t => tmps.getD t undef) H) :
    NxH P G (.round l f tmps assign body) H R := by
  intro w o
  have r : Rel tmps.size (fun t => tmps.getD t undef) { tmps := tmps, defers := [] } := ⟨rfl, fun _ => rfl⟩
  refine roundIn_of_wpIn (F := Fence.wide) trivial (wpIn_mono (den_sound (ro := some l) assign _ _ _ _ w h d1 (.inr p1) r o ⟨.refl _ _, .nil _ _ _ _⟩) ?_)
  rintro z a w' ⟨e', H', r', o', x, hq⟩
  cases z with
  | normal =>
    obtain ⟨_, w2, H2, hrun, hb, o2, x2⟩ := run_ok hq o'
    refine ⟨w2, hrun, wpIn_mono (den_sound (ro := some l) body _ _ _ _ w2 hb d2 (.inr p2) r' o2 (x.trans x2)) ?_⟩
    rintro z a w3 ⟨e3, H3, r3, o3, x3, hq3⟩
    cases z with
    | outgrown => exact hq3.elim
    | panic c => exact hq3.elim
    | normal => obtain ⟨v, w4, H4, hrun4, h4, o4, x4⟩ := run_ok hq3 o3; exact ⟨v, w4, hrun4, H4, h4, o4, x3.ext.trans x4⟩
    | ret => obtain ⟨v, w4, H4, hrun4, h4, o4, x4⟩ := run_ok hq3 o3; exact ⟨v, w4, hrun4, H4, h4, o4, x3.ext.trans x4⟩
    | exit id => obtain ⟨v, w4, H4, hrun4, h4, o4, x4⟩ := run_ok hq3 o3; exact ⟨v, w4, hrun4, H4, h4, o4, x3.ext.trans x4⟩
    | goto t => obtain ⟨v, w4, H4, hrun4, h4, o4, x4⟩ := run_ok hq3 o3; exact ⟨v, w4, hrun4, H4, h4, o4, x3.ext.trans x4⟩
  | outgrown => exact hq.elim
  | panic c => exact hq.elim
  | ret => exact hq.elim
  | exit id => exact hq.elim
  | goto t => exact hq.elim
end Go.Sl
