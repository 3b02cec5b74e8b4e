/- What operations do, in closed forms; code in its clean form; and that it stands for the machine's. -/
import Derived.Test.YtanhmbdcdbcfmaaSched
set_option linter.unusedVariables false
set_option linter.unusedSimpArgs false
namespace Go.Sl
open Go

/-! ### code, clean -/
def isRd : Op → Bool
  | .move _ | .assign _ | .pick .. | .nilCheck _ | .load .. | .field .. | .fieldAddr .. | .index .. | .indexAddr .. | .slice .. | .extract .. | .build .. | .binOp .. | .unOp .. | .makeInterface .. | .makeFunc ..
  | .lookup .. => true
  | .call { callee := .builtin .len, .. } | .call { callee := .builtin .min, .. } | .call { callee := .builtin .max, .. } | .call { callee := .builtin .cap, .. } => true
  | _ => false
section
variable (P : Program) (G : Hp)
def cStep (o : Oper) (e : Env) (H : Hp) (next : Env → Hp → Prop) : Prop :=
  if isRd o.op then ∃ v, rd P (H.un G) (execOp e.ev o) = some (.value v) ∧ next (e.put o.dst v) H
  else opV P G (execOp e.ev o) H fun v H' => next (e.put o.dst v) H'
def cList (ops : Array Oper) (Q : Post) : List Oper → Env → Hp → Prop
  | [], e, H => Q .normal e H
  | o :: rest, e, H => if wantE ops e o then cStep P G o e H (cList ops Q rest) else cList ops Q rest (e.put o.dst undef) H
def cl : Code → Post → Env → Hp → Prop
  | .skip, Q, e, H => Q .normal e H
  | .region _ ops draw, Q, e, H =>
    if draw then ∃ an gc, (drawB (P.follows .mixedOrders) ops (kinds an) gc && noteB ops (kinds an) (Region.before ops) an) = true ∧ qv P G ops Q ops.toList an 0 e H [(ops.size, H)]
    else cList P G ops Q ops.toList e H
  | .seq x y, Q, e, H => cl x (thenH (cl y Q) Q) e H
  | .cond c x y, Q, e, H => ∃ t, e.ev c = .bool t ∧ (t = true → cl x Q e H) ∧ (t = false → cl y Q e H)
  | .block id c, Q, e, H => cl c (blockH id Q) e H
  | .loop c, Q, e, H => ∃ (I : Env → Hp → Prop) (μ : Env → Hp → Nat), I e H ∧ ∀ e H, I e H → cl c (thenH (fun e' H' => I e' H' ∧ μ e' H' < μ e H) Q) e H
  | .rangeFunc g ps x y, Q, e, H => denRF P G g ps x y Q e H
  | .exit id, Q, e, H => Q (.exit id) e H
  | .label _, Q, e, H => Q .normal e H
  | .goto l, Q, e, H => Q (.goto l) e H
  | .ret, Q, e, H => Q .ret e H
  | _, _, _, _ => False
end
section
variable {P : Program} {G : Hp}
theorem cList_den {ops : Array Oper} {Q : Post} (l : List Oper) : ∀ {e : Env} {H : Hp}, cList P G ops Q l e H → denList P G ops Q l e H := by
  induction l with
  | nil => intro e H h; exact h
  | cons o l ih =>
    intro e H h
    unfold cList at h
    unfold denList
    split
    · rename_i hw
      rw [if_pos hw] at h
      refine denOp_of_opV ?_
      unfold cStep at h
      split at h
      · obtain ⟨v, h1, h2⟩ := h
        exact opV_rd h1 (ih h2)
      · exact opV_mono h fun v H' h => ih h
    · rename_i hw
      rw [if_neg hw] at h
      exact ih h
theorem jumpQ_mono {Q Q' : Post} {e : Env} {H : Hp} {j : Option Code} (hq : ∀ o e H, Q o e H → Q' o e H) (h : jumpQ Q e H j) : jumpQ Q' e H j := by
  cases j with
  | none => exact hq _ _ _ h
  | some c => cases c <;> first | exact hq _ _ _ h | exact h
theorem denRF_mono {g : Operand} {ps : Array Tmp} {a b : Code} {Q Q' : Post} {e : Env} {H : Hp} (hq : ∀ o e H, Q o e H → Q' o e H) (h : denRF P G g ps a b Q e H) : denRF P G g ps a b Q' e H := by
  intro l r fn tmps h1 h2 h3 h4 h5 h6 h7 h8
  refine wpH_mono _ (h l r fn tmps h1 h2 h3 h4 h5 h6 h7 h8) ?_ (fun _ _ h => h)
  intro nx H1 hn
  cases nx with
  | enter f args =>
    refine CallsH.mono hn ?_
    intro z H2 hz
    cases z with
    | returned v => exact wpH_mono _ hz (fun j H3 hj => jumpQ_mono hq hj) (fun _ _ h => h)
    | panicked c => exact hq _ _ _ hz
    | outgrown => exact hz
  | _ => exact hn
theorem den_mono {c : Code} : ∀ {Q Q' : Post} {e : Env} {H : Hp}, (∀ o e H, Q o e H → Q' o e H) → cl P G c Q e H → cl P G c Q' e H := by
  induction c with
  | skip => intro Q Q' e H hq h; exact hq _ _ _ h
  | region id ops draw =>
    intro Q Q' e H hq h
    unfold cl at h ⊢
    cases draw with
    | false =>
      simp only [Bool.false_eq_true, if_false] at h ⊢
      generalize ops.toList = l at h ⊢
      induction l generalizing e H with
      | nil => exact hq _ _ _ h
      | cons o l ih =>
        unfold cList at h ⊢
        split
        · rename_i hw
          rw [if_pos hw] at h
          unfold cStep at h ⊢
          split
          · rename_i z
            rw [if_pos z] at h
            obtain ⟨v, h1, h2⟩ := h
            exact ⟨v, h1, ih h2⟩
          · rename_i z
            rw [if_neg z] at h
            exact opV_mono h fun v H' h => ih h
        · rename_i hw
          rw [if_neg hw] at h
          exact ih h
    | true =>
      simp only [if_true] at h ⊢
      obtain ⟨an, gc, h1, h2⟩ := h
      refine ⟨an, gc, h1, ?_⟩
      clear h1
      generalize ops.toList = l at h2 ⊢
      generalize [(ops.size, H)] = hs at h2 ⊢
      generalize 0 = i at h2 ⊢
      induction l generalizing e H hs i an with
      | nil => unfold qv at h2 ⊢; exact hq _ _ _ h2
      | cons o l ih =>
        cases an with
        | nil => exact h2.elim
        | cons a an =>
          obtain ⟨k, ns⟩ := a
          unfold qv at h2 ⊢
          split
          · rename_i hw
            rw [if_pos hw] at h2
            split
            · obtain ⟨v, h3, h4⟩ := h2; exact ⟨v, h3, ih _ _ _ h4⟩
            · obtain ⟨v, h3, h4⟩ := h2; exact ⟨v, h3, ih _ _ _ h4⟩
            · obtain ⟨ob, f, h3, h4⟩ := h2
              refine ⟨ob, f, h3, fun b q1 q2 => ?_⟩
              obtain ⟨v, h5, h6⟩ := h4 b q1 q2
              exact ⟨v, h5, ih _ _ _ h6⟩
            · rename_i z1 z2 z3
              refine opV_mono (K := fun v H' =>
          (∀ k ∈ ns, wantE ops e (opAt ops k) = true → rd P (H'.un G) (execOp e.ev (opAt ops k)) = some (.value (match (opAt ops k).dst with | some d => e d | none => undef))) ∧
          qv P G ops Q l an (i + 1) (e.put o.dst v) H' ((i, H') :: hs)) ?_ fun v H' h => ⟨h.1, ih _ _ _ h.2⟩
              match k, z1, z2, z3, h2 with
              | k + 3, _, _, _, h2 => exact h2
          · rename_i hw
            rw [if_neg hw] at h2
            exact ih _ _ _ h2
  | seq c d ihc ihd =>
    intro Q Q' e H hq h
    refine ihc (Q := thenH (cl P G d Q) Q) ?_ h
    intro o e H ho
    cases o <;> first | exact ihd hq ho | exact hq _ _ _ ho
  | cond q c d ihc ihd => intro Q Q' e H hq h; obtain ⟨t, h1, h2, h3⟩ := h; exact ⟨t, h1, fun z => ihc hq (h2 z), fun z => ihd hq (h3 z)⟩
  | block id c ih =>
    intro Q Q' e H hq h
    refine ih (Q := blockH id Q) ?_ h
    intro o e H ho
    cases o with
    | exit id' =>
      unfold blockH at ho ⊢
      simp only at ho ⊢
      split
      · rename_i z; rw [if_pos z] at ho; exact hq _ _ _ ho
      · rename_i z; rw [if_neg z] at ho; exact hq _ _ _ ho
    | _ => exact hq _ _ _ ho
  | loop c ih =>
    intro Q Q' e H hq h
    obtain ⟨I, μ, h0, hr⟩ := h
    refine ⟨I, μ, h0, fun e H hI => ih (Q := thenH (fun e' H' => I e' H' ∧ μ e' H' < μ e H) Q) ?_ (hr e H hI)⟩
    intro o e H ho
    cases o <;> first | exact ho | exact hq _ _ _ ho
  | rangeFunc g ps a b _ _ => intro Q Q' e H hq h; exact denRF_mono hq h
  | exit id => intro Q Q' e H hq h; exact hq _ _ _ h
  | label l => intro Q Q' e H hq h; exact hq _ _ _ h
  | goto l => intro Q Q' e H hq h; exact hq _ _ _ h
  | ret => intro Q Q' e H hq h; exact hq _ _ _ h
  | _ => intro Q Q' e H hq h; exact h
theorem denList_mono {ops : Array Oper} {Q Q' : Post} (hq : ∀ o e H, Q o e H → Q' o e H) (l : List Oper) : ∀ {e : Env} {H : Hp}, denList P G ops Q l e H → denList P G ops Q' l e H := by
  induction l with
  | nil => intro e H h; exact hq _ _ _ h
  | cons o l ih =>
    intro e H h
    unfold denList at h ⊢
    split
    · rename_i hw
      rw [if_pos hw] at h
      refine wpH_mono _ h ?_ (fun v H h => hq _ _ _ h)
      intro nx H' hn
      cases nx with
      | value v => exact ih hn
      | skip => exact ih hn
      | enter f args =>
        refine CallsH.mono hn ?_
        intro z H'' hz
        cases z with
        | returned v => exact ih hz
        | panicked c => exact hq _ _ _ hz
        | outgrown => exact hz
      | round l f tmps a b =>
        refine NxH.mono hn ?_
        intro z H'' hz
        cases z with
        | returned v => exact ih hz
        | panicked c => exact hq _ _ _ hz
        | outgrown => exact hz
      | row rw args =>
        refine NxH.mono hn ?_
        intro z H'' hz
        cases z with
        | returned v => exact ih hz
        | panicked c => exact hq _ _ _ hz
        | outgrown => exact hz
      | _ => exact hn
    · rename_i hw
      rw [if_neg hw] at h
      exact ih h
theorem denIdx_mono {ops : Array Oper} {Q Q' : Post} (hq : ∀ o e H, Q o e H → Q' o e H) (l : List Nat) : ∀ {e : Env} {H : Hp}, denIdx P G ops Q l e H → denIdx P G ops Q' l e H := by
  induction l with
  | nil => intro e H h; exact hq _ _ _ h
  | cons i l ih =>
    intro e H h
    unfold denIdx at h ⊢
    cases hi : ops[i]? with
    | none => simp only [hi] at h ⊢; exact ih h
    | some o =>
      simp only [hi] at h ⊢
      split
      · rename_i hw
        rw [if_pos hw] at h
        refine wpH_mono _ h ?_ (fun v H h => hq _ _ _ h)
        intro nx H' hn
        cases nx with
        | value v => exact ih hn
        | skip => exact ih hn
        | enter f args =>
          refine CallsH.mono hn ?_
          intro z H'' hz
          cases z with
          | returned v => exact ih hz
          | panicked c => exact hq _ _ _ hz
          | outgrown => exact hz
        | round l f tmps a b =>
          refine NxH.mono hn ?_
          intro z H'' hz
          cases z with
          | returned v => exact ih hz
          | panicked c => exact hq _ _ _ hz
          | outgrown => exact hz
        | row rw args =>
          refine NxH.mono hn ?_
          intro z H'' hz
          cases z with
          | returned v => exact ih hz
          | panicked c => exact hq _ _ _ hz
          | outgrown => exact hz
        | _ => exact hn
      · rename_i hw
        rw [if_neg hw] at h
        exact ih h
theorem denc_mono {c : Code} : ∀ {Q Q' : Post} {e : Env} {H : Hp}, (∀ o e H, Q o e H → Q' o e H) → den P G c Q e H → den P G c Q' e H := by
  induction c with
  | skip => intro Q Q' e H hq h; exact hq _ _ _ h
  | region id ops draw =>
    intro Q Q' e H hq h
    unfold den at h ⊢
    cases draw with
    | false => simp only [Bool.false_eq_true, if_false] at h ⊢; exact denList_mono hq _ h
    | true => simp only [if_true] at h ⊢; exact fun r t => denIdx_mono hq _ (h r t)
  | seq c d ihc ihd =>
    intro Q Q' e H hq h
    refine ihc (Q := thenH (den P G d Q) Q) ?_ h
    intro o e H ho
    cases o <;> first | exact ihd hq ho | exact hq _ _ _ ho
  | cond q c d ihc ihd => intro Q Q' e H hq h; obtain ⟨t, h1, h2, h3⟩ := h; exact ⟨t, h1, fun z => ihc hq (h2 z), fun z => ihd hq (h3 z)⟩
  | block id c ih =>
    intro Q Q' e H hq h
    refine ih (Q := blockH id Q) ?_ h
    intro o e H ho
    cases o with
    | exit id' =>
      unfold blockH at ho ⊢
      simp only at ho ⊢
      split
      · rename_i z; rw [if_pos z] at ho; exact hq _ _ _ ho
      · rename_i z; rw [if_neg z] at ho; exact hq _ _ _ ho
    | _ => exact hq _ _ _ ho
  | loop c ih =>
    intro Q Q' e H hq h
    obtain ⟨I, μ, h0, hr⟩ := h
    refine ⟨I, μ, h0, fun e H hI => ih (Q := thenH (fun e' H' => I e' H' ∧ μ e' H' < μ e H) Q) ?_ (hr e H hI)⟩
    intro o e H ho
    cases o <;> first | exact ho | exact hq _ _ _ ho
  | rangeFunc g ps a b _ _ => intro Q Q' e H hq h; exact denRF_mono hq h
  | exit id => intro Q Q' e H hq h; exact hq _ _ _ h
  | label l => intro Q Q' e H hq h; exact hq _ _ _ h
  | goto l => intro Q Q' e H hq h; exact hq _ _ _ h
  | ret => intro Q Q' e H hq h; exact hq _ _ _ h
  | _ => intro Q Q' e H hq h; exact h
theorem cl_den {c : Code} : ∀ {Q : Post} {e : Env} {H : Hp}, cl P G c Q e H → den P G c Q e H := by
  induction c with
  | region id ops draw =>
    intro Q e H h
    unfold cl at h
    unfold den
    cases draw with
    | false => simp only [Bool.false_eq_true, if_false] at h ⊢; exact cList_den _ h
    | true =>
      simp only [if_true] at h ⊢
      obtain ⟨an, gc, h1, h2⟩ := h
      rw [Bool.and_eq_true] at h1
      exact fun r => denDraw_of an gc h1.1 h1.2 r h2
  | seq c d ihc ihd =>
    intro Q e H h
    show den P G c (thenH (den P G d Q) Q) e H
    refine denc_mono (Q := thenH (cl P G d Q) Q) ?_ (ihc h)
    intro o e H ho
    cases o <;> first | exact ihd ho | exact ho
  | cond q c d ihc ihd => intro Q e H h; obtain ⟨t, h1, h2, h3⟩ := h; exact ⟨t, h1, fun z => ihc (h2 z), fun z => ihd (h3 z)⟩
  | block id c ih => intro Q e H h; exact ih (Q := blockH id Q) h
  | loop c ih =>
    intro Q e H h
    obtain ⟨I, μ, h0, hr⟩ := h
    exact ⟨I, μ, h0, fun e H hI => ih (hr e H hI)⟩
  | _ => intro Q e H h; exact h
/-- A round, out of the loop's two codes, clean. -/
theorem round_of_cl {l : Nat} {f : FuncId} {tmps : Array Value} {assign body : Code} {H : Hp} {R : Ending → Hp → Prop}
    (d1 : dsts tmps.size assign = true) (d2 : dsts tmps.size body = true) (p1 : plain assign = true) (p2 : plain body = true)
    (h : cl P G assign (thenH (fun e H => wpH P G (Instr.beginRound l) H (fun _ H' => cl P G body (roundQ P G l R) e H') (fun _ _ => False)) fun _ _ _ => False) (fun t => tmps.getD t undef) H) :
    NxH P G (.round l f tmps assign body) H R := by
  refine round_of_den d1 d2 p1 p2 (cl_den (den_mono ?_ h))
  intro o e H hq
  cases o with
  | normal => exact wpH_mono _ hq (fun _ _ h => cl_den h) (fun _ _ h => h)
  | _ => exact hq
end
/-- The way in: a call's clean body. -/
theorem enter {P : Program} {G : Hp} {f : FuncId} {fn : Func} {c : Code} {args : Array Value} {H : Hp} {R : Ending → Hp → Prop} {rs : List ResultVar}
    (hf : P.funcs[f]? = some fn) (hb : fn.body = some c) (hn : args.size ≤ fn.ntmps) (hd : dsts fn.ntmps c = true) (hr : fn.results = rs.toArray)
    (h : cl P G c (endH P G rs R) (fun t => args.toList.getD t undef) H) : CallsH P G f args H R :=
  calls_of_den hf hb hn hd (by rw [hr]; exact cl_den h)
end Go.Sl
