/- The steps of a clean body, as equations. -/
import Derived.Test.YtanhmbdcdbcfmaaBuild
set_option linter.unusedVariables false
set_option linter.unusedSimpArgs false
namespace Go.Sl
open Go
theorem Env.put_at (e : Env) (d : Tmp) (v : Value) (t : Tmp) : (Env.put e (some d) v) t = if t = d then v else e t := (rfl)
theorem Env.put_none (e : Env) (v : Value) : Env.put e none v = e := (rfl)
@[simp] theorem ev_tmp (e : Env) (t : Tmp) : e.ev (.tmp t) = e t := (rfl)
@[simp] theorem ev_const (e : Env) (v : Value) : e.ev (.const v) = v := (rfl)
@[simp] theorem ev_func (e : Env) (f : FuncId) : e.ev (.func f) = .func (.func f) #[] #[] := (rfl)
theorem cl_seq {P : Program} {G : Hp} {x y : Code} {Q : Post} {e : Env} {H : Hp} : cl P G (.seq x y) Q e H = cl P G x (thenH (cl P G y Q) Q) e H := (rfl)
theorem cl_region {P : Program} {G : Hp} {i : Nat} {ops : Array Oper} {Q : Post} {e : Env} {H : Hp} : cl P G (.region i ops false) Q e H = cList P G ops Q ops.toList e H := (rfl)
theorem cl_ret {P : Program} {G : Hp} {Q : Post} {e : Env} {H : Hp} : cl P G .ret Q e H = Q .ret e H := (rfl)
theorem cl_skip {P : Program} {G : Hp} {Q : Post} {e : Env} {H : Hp} : cl P G .skip Q e H = Q .normal e H := (rfl)
theorem cl_block {P : Program} {G : Hp} {i : Nat} {x : Code} {Q : Post} {e : Env} {H : Hp} : cl P G (.block i x) Q e H = cl P G x (blockH i Q) e H := (rfl)
theorem cl_exit {P : Program} {G : Hp} {i : Nat} {Q : Post} {e : Env} {H : Hp} : cl P G (.exit i) Q e H = Q (.exit i) e H := (rfl)
/-- A fork of the ways: nothing is looked at behind it till its test is known. -/
def Gate (c : Prop) (A B : Unit → Prop) : Prop := (c → A ()) ∧ (¬ c → B ())
@[congr] theorem Gate_congr {c c' : Prop} {A B : Unit → Prop} (h : c = c') : Gate c A B = Gate c' A B := by rw [h]
theorem Gate_true {A B : Unit → Prop} : Gate True A B = A () := by simp [Gate]
theorem Gate_false {A B : Unit → Prop} : Gate False A B = B () := by simp [Gate]
theorem Gate_not {c : Prop} {A B : Unit → Prop} : Gate (¬ c) A B = Gate c B A := by
  unfold Gate
  refine propext ⟨fun ⟨h1, h2⟩ => ⟨fun q => h2 (fun z => z q), h1⟩, fun ⟨h1, h2⟩ => ⟨h2, fun q => h1 (Classical.byContradiction q)⟩⟩
theorem Gate.intro {c : Prop} {A B : Unit → Prop} (h : c → A ()) (k : ¬ c → B ()) : Gate c A B := ⟨h, k⟩
theorem Gate.yes {c : Prop} {A B : Unit → Prop} (q : c) (h : A ()) : Gate c A B := ⟨fun _ => h, fun z => absurd q z⟩
theorem Gate.no {c : Prop} {A B : Unit → Prop} (q : ¬ c) (h : B ()) : Gate c A B := ⟨fun z => absurd z q, fun _ => h⟩
def apU (K : Value → Prop) (a : Value) (_ : Unit) : Prop := K a
theorem apU_eq {K : Value → Prop} {a : Value} {u : Unit} : apU K a u = K a := (rfl)
theorem Ex_pick {t : Bool} {a b : Value} {K : Value → Prop} : Ex (rPick (.bool t) a b) K = Gate (t = true) (apU K a) (apU K b) := by
  cases t <;> simp [rPick, Ex, Gate, apU]
def BGate (v : Value) (A B : Unit → Prop) : Prop := ∃ t, v = .bool t ∧ (t = true → A ()) ∧ (t = false → B ())
@[congr] theorem BGate_congr {v v' : Value} {A B : Unit → Prop} (h : v = v') : BGate v A B = BGate v' A B := by rw [h]
theorem BGate_bool {t : Bool} {A B : Unit → Prop} : BGate (.bool t) A B = Gate (t = true) A B := by
  refine propext ⟨?_, ?_⟩
  · rintro ⟨t', h, h1, h2⟩
    cases h
    exact ⟨h1, fun q => h2 (by simpa using q)⟩
  · rintro ⟨h1, h2⟩
    exact ⟨t, rfl, h1, fun q => h2 (by simp [q])⟩
def clU (P : Program) (G : Hp) (c : Code) (Q : Post) (e : Env) (H : Hp) (_ : Unit) : Prop := cl P G c Q e H
theorem clU_eq {P : Program} {G : Hp} {c : Code} {Q : Post} {e : Env} {H : Hp} {u : Unit} : clU P G c Q e H u = cl P G c Q e H := (rfl)
theorem cl_cond {P : Program} {G : Hp} {c : Operand} {x y : Code} {Q : Post} {e : Env} {H : Hp} : cl P G (.cond c x y) Q e H = BGate (e.ev c) (clU P G x Q e H) (clU P G y Q e H) := (rfl)
theorem thenH_normal {n : Env → Hp → Prop} {Q : Post} {e : Env} {H : Hp} : thenH n Q .normal e H = n e H := (rfl)
theorem thenH_ret {n : Env → Hp → Prop} {Q : Post} {e : Env} {H : Hp} : thenH n Q .ret e H = Q .ret e H := (rfl)
theorem thenH_exit {n : Env → Hp → Prop} {Q : Post} {e : Env} {H : Hp} {i : Nat} : thenH n Q (.exit i) e H = Q (.exit i) e H := (rfl)
theorem blockH_normal {Q : Post} {e : Env} {H : Hp} {i : Nat} : blockH i Q .normal e H = Q .normal e H := (rfl)
theorem blockH_ret {Q : Post} {e : Env} {H : Hp} {i : Nat} : blockH i Q .ret e H = Q .ret e H := (rfl)
theorem blockH_exit {Q : Post} {e : Env} {H : Hp} {i j : Nat} : blockH i Q (.exit j) e H = if j = i then Q .normal e H else Q (.exit j) e H := (rfl)
theorem cList_nil {P : Program} {G : Hp} {ops : Array Oper} {Q : Post} {e : Env} {H : Hp} : cList P G ops Q [] e H = Q .normal e H := (rfl)
def cLK (P : Program) (G : Hp) (ops : Array Oper) (Q : Post) (l : List Oper) (e : Env) (d : Option Tmp) (H : Hp) (v : Value) : Prop := cList P G ops Q l (e.put d v) H
theorem cLK_eq {P : Program} {G : Hp} {ops : Array Oper} {Q : Post} {l : List Oper} {e : Env} {d : Option Tmp} {H : Hp} {v : Value} : cLK P G ops Q l e d H v = cList P G ops Q l (e.put d v) H := (rfl)
def cLX (P : Program) (G : Hp) (ops : Array Oper) (Q : Post) (l : List Oper) (e : Env) (d : Option Tmp) (v : Value) (H : Hp) : Prop := cList P G ops Q l (e.put d v) H
theorem cLX_eq {P : Program} {G : Hp} {ops : Array Oper} {Q : Post} {l : List Oper} {e : Env} {d : Option Tmp} {H : Hp} {v : Value} : cLX P G ops Q l e d v H = cList P G ops Q l (e.put d v) H := (rfl)
def cLU (P : Program) (G : Hp) (ops : Array Oper) (Q : Post) (l : List Oper) (e : Env) (H : Hp) (_ : Unit) : Prop := cList P G ops Q l e H
theorem cLU_eq {P : Program} {G : Hp} {ops : Array Oper} {Q : Post} {l : List Oper} {e : Env} {H : Hp} {u : Unit} : cLU P G ops Q l e H u = cList P G ops Q l e H := (rfl)
/-- An operation that only reads, without a guard. -/
theorem cList_rd {P : Program} {G : Hp} {ops : Array Oper} {Q : Post} {e : Env} {H : Hp} {d : Option Tmp} {op : Op} {ty : TypeId} {p : String} {af : Array Edge} {l : List Oper} (h : isRd op = true) :
    cList P G ops Q (⟨d, op, ty, p, af, none⟩ :: l) e H = Ex (rd P (H.un G) (execOp e.ev ⟨d, op, ty, p, af, none⟩)) (cLK P G ops Q l e d H) := by
  show (if wantE ops e _ then cStep P G _ e H _ else _) = _
  have : wantE ops e ⟨d, op, ty, p, af, none⟩ = true := (rfl)
  rw [if_pos this]
  unfold cStep
  rw [if_pos h]
  rfl
theorem cList_x {P : Program} {G : Hp} {ops : Array Oper} {Q : Post} {e : Env} {H : Hp} {d : Option Tmp} {op : Op} {ty : TypeId} {p : String} {af : Array Edge} {l : List Oper} (h : isRd op = false) :
    cList P G ops Q (⟨d, op, ty, p, af, none⟩ :: l) e H = opV P G (execOp e.ev ⟨d, op, ty, p, af, none⟩) H (cLX P G ops Q l e d) := by
  show (if wantE ops e _ then cStep P G _ e H _ else _) = _
  have : wantE ops e ⟨d, op, ty, p, af, none⟩ = true := (rfl)
  rw [if_pos this]
  unfold cStep
  rw [if_neg (by rw [h]; decide)]
  rfl
/-- With a guard. -/
theorem cList_g {P : Program} {G : Hp} {ops : Array Oper} {Q : Post} {e : Env} {H : Hp} {d : Option Tmp} {op : Op} {ty : TypeId} {p : String} {af : Array Edge} {l : List Oper} {j : Nat} {b : Bool} :
    cList P G ops Q (⟨d, op, ty, p, af, some (j, b)⟩ :: l) e H =
      Gate (yieldE ops e j = some b) (cLU P G ops Q (⟨d, op, ty, p, af, none⟩ :: l) e H) (cLU P G ops Q l (e.put d undef) H) := by
  show (if wantE ops e _ then cStep P G _ e H _ else _) = _
  have h1 : wantE ops e ⟨d, op, ty, p, af, some (j, b)⟩ = (yieldE ops e j == some b) := (rfl)
  have h2 : cList P G ops Q (⟨d, op, ty, p, af, none⟩ :: l) e H = cStep P G ⟨d, op, ty, p, af, none⟩ e H (cList P G ops Q l) := (rfl)
  have h3 : cStep P G ⟨d, op, ty, p, af, some (j, b)⟩ e H (cList P G ops Q l) = cStep P G ⟨d, op, ty, p, af, none⟩ e H (cList P G ops Q l) := (rfl)
  rw [h1, h3]
  unfold cLU
  rw [h2]
  by_cases h : yieldE ops e j = some b
  · rw [if_pos (by simp [h]), eq_true h, Gate_true]
  · rw [if_neg (by simpa using h), eq_false h, Gate_false]
def yv (v : Value) : Option Bool := match v with | .bool b => some b | _ => none
theorem yieldE_eq {ops : Array Oper} {e : Env} {j : Nat} : yieldE ops e j = match (ops[j]?).bind (·.dst) with | some t => yv (e t) | none => none := (rfl)
theorem endH_ret {P : Program} {G : Hp} {rs : List ResultVar} {R : Ending → Hp → Prop} {e : Env} {H : Hp} : endH P G rs R .ret e H = resEs P G e H rs [] fun vs => R (.returned (tuple1 vs)) H := (rfl)
theorem endH_normal {P : Program} {G : Hp} {rs : List ResultVar} {R : Ending → Hp → Prop} {e : Env} {H : Hp} : endH P G rs R .normal e H = resEs P G e H rs [] fun vs => R (.returned (tuple1 vs)) H := (rfl)
theorem resEs_nil {P : Program} {G : Hp} {e : Env} {H : Hp} {acc : List Value} {k : List Value → Prop} : resEs P G e H [] acc k = k acc := (rfl)
theorem resEs_tmp {P : Program} {G : Hp} {e : Env} {H : Hp} {t : Tmp} {rs : List ResultVar} {acc : List Value} {k : List Value → Prop} : resEs P G e H (.tmp t :: rs) acc k = resEs P G e H rs (acc ++ [e t]) k := (rfl)


/-! ### a region that draws, step by step -/
def ExN (o : Option (Obj × (Nat → Option Next))) (K : Obj → (Nat → Option Next) → Prop) : Prop := ∃ ob f, o = some (ob, f) ∧ K ob f
@[congr] theorem ExN_congr {o o' : Option (Obj × (Nat → Option Next))} {K : Obj → (Nat → Option Next) → Prop} (h : o = o') : ExN o K = ExN o' K := by rw [h]
theorem ExN_some {ob : Obj} {f : Nat → Option Next} {K : Obj → (Nat → Option Next) → Prop} : ExN (some (ob, f)) K = K ob f :=
  propext ⟨fun ⟨_, _, h, k⟩ => by cases h; exact k, fun k => ⟨_, _, rfl, k⟩⟩
theorem cl_draw {P : Program} {G : Hp} {i : Nat} {ops : Array Oper} {Q : Post} {e : Env} {H : Hp} (an : List Note) (gc : List Nat)
    (h : (drawB (P.follows .mixedOrders) ops (kinds an) gc && noteB ops (kinds an) (Region.before ops) an) = true) (k : qv P G ops Q ops.toList an 0 e H [(ops.size, H)]) : cl P G (.region i ops true) Q e H := ⟨an, gc, h, k⟩
theorem cl_drawi {P : Program} {G : Hp} {i : Nat} {ops : Array Oper} {Q : Post} {e : Env} {H : Hp} (j : Nat) (an : List Note) (gc : List Nat) (_ : (j == i) = true)
    (h : (drawB (P.follows .mixedOrders) ops (kinds an) gc && noteB ops (kinds an) (Region.before ops) an) = true) (k : qv P G ops Q ops.toList an 0 e H [(ops.size, H)]) : cl P G (.region i ops true) Q e H := ⟨an, gc, h, k⟩
section
variable {P : Program} {G : Hp} {ops : Array Oper} {Q : Post} {e : Env} {H : Hp} {d : Option Tmp} {op : Op} {ty : TypeId} {p : String} {af : Array Edge} {l : List Oper} {an : List Note} {i : Nat} {hs : List (Nat × Hp)} {ns : List Nat}
theorem qv_nil : qv P G ops Q [] an i e H hs = Q .normal e H := by unfold qv; rfl
def qK (P : Program) (G : Hp) (ops : Array Oper) (Q : Post) (l : List Oper) (an : List Note) (i : Nat) (e : Env) (d : Option Tmp) (H : Hp) (hs : List (Nat × Hp)) (v : Value) : Prop := qv P G ops Q l an i (e.put d v) H hs
theorem qK_eq {v : Value} : qK P G ops Q l an i e d H hs v = qv P G ops Q l an i (e.put d v) H hs := (rfl)
def qN (P : Program) (G : Hp) (ops : Array Oper) (Q : Post) (l : List Oper) (an : List Note) (i : Nat) (e : Env) (d : Option Tmp) (H : Hp) (hs : List (Nat × Hp)) (ob : Obj) (f : Nat → Option Next) (b : Nat) : Prop := Ex (f b) (qK P G ops Q l an i e d (H.set b ob) hs)
theorem qN_eq {ob : Obj} {f : Nat → Option Next} {b : Nat} : qN P G ops Q l an i e d H hs ob f b = Ex (f b) (qK P G ops Q l an i e d (H.set b ob) hs) := (rfl)
def qM (P : Program) (G : Hp) (ops : Array Oper) (Q : Post) (l : List Oper) (an : List Note) (i : Nat) (e : Env) (d : Option Tmp) (H : Hp) (hs : List (Nat × Hp)) (ob : Obj) (f : Nat → Option Next) : Prop := New H G (qN P G ops Q l an i e d H hs ob f)
theorem qM_eq {ob : Obj} {f : Nat → Option Next} : qM P G ops Q l an i e d H hs ob f = New H G (qN P G ops Q l an i e d H hs ob f) := (rfl)
def qX (P : Program) (G : Hp) (ops : Array Oper) (Q : Post) (l : List Oper) (an : List Note) (ns : List Nat) (i : Nat) (e : Env) (d : Option Tmp) (hs : List (Nat × Hp)) (v : Value) (H' : Hp) : Prop :=
          (∀ k ∈ ns, wantE ops e (opAt ops k) = true → rd P (H'.un G) (execOp e.ev (opAt ops k)) = some (.value (match (opAt ops k).dst with | some d => e d | none => undef))) ∧
          qv P G ops Q l an (i + 1) (e.put d v) H' ((i, H') :: hs)
theorem qX_nil {v : Value} {H' : Hp} : qX P G ops Q l an [] i e d hs v H' = qv P G ops Q l an (i + 1) (e.put d v) H' ((i, H') :: hs) := by unfold qX; simp
theorem qX_cons {v : Value} {H' : Hp} {n : Nat} : qX P G ops Q l an (n :: ns) i e d hs v H' = ((wantE ops e (opAt ops n) = true → rd P (H'.un G) (execOp e.ev (opAt ops n)) = some (.value (match (opAt ops n).dst with | some d => e d | none => undef))) ∧
    qX P G ops Q l an ns i e d hs v H') := by unfold qX; simp [and_assoc]
def qU (P : Program) (G : Hp) (ops : Array Oper) (Q : Post) (l : List Oper) (an : List Note) (i : Nat) (e : Env) (H : Hp) (hs : List (Nat × Hp)) (_ : Unit) : Prop := qv P G ops Q l an i e H hs
theorem qU_eq {u : Unit} : qU P G ops Q l an i e H hs u = qv P G ops Q l an i e H hs := (rfl)
theorem qv_s : qv P G ops Q (⟨d, op, ty, p, af, none⟩ :: l) ((0, ns) :: an) i e H hs = Ex (rd P Hp.emp (execOp e.ev ⟨d, op, ty, p, af, none⟩)) (qK P G ops Q l an (i + 1) e d H hs) := (rfl)
theorem qv_r : qv P G ops Q (⟨d, op, ty, p, af, none⟩ :: l) ((1, ns) :: an) i e H hs = Each (relA ns hs) (fun h => rd P (h.un G) (execOp e.ev ⟨d, op, ty, p, af, none⟩)) (qK P G ops Q l an (i + 1) e d H hs) := (rfl)
theorem qv_n : qv P G ops Q (⟨d, op, ty, p, af, none⟩ :: l) ((2, ns) :: an) i e H hs = ExN (nw P (execOp e.ev ⟨d, op, ty, p, af, none⟩)) (qM P G ops Q l an (i + 1) e d H hs) := (rfl)
theorem qv_x : qv P G ops Q (⟨d, op, ty, p, af, none⟩ :: l) ((3, ns) :: an) i e H hs = opV P G (execOp e.ev ⟨d, op, ty, p, af, none⟩) H (qX P G ops Q l an ns i e d hs) := (rfl)
theorem execOp_guard {ρ : Operand → Value} {g : Option (Nat × Bool)} : execOp ρ ⟨d, op, ty, p, af, g⟩ = execOp ρ ⟨d, op, ty, p, af, none⟩ := rfl
theorem qv_g {j : Nat} {b : Bool} {k : Nat} : qv P G ops Q (⟨d, op, ty, p, af, some (j, b)⟩ :: l) ((k, ns) :: an) i e H hs =
    Gate (yieldE ops e j = some b) (qU P G ops Q (⟨d, op, ty, p, af, none⟩ :: l) ((k, ns) :: an) i e H hs) (qU P G ops Q l an (i + 1) (e.put d undef) H hs) := by
  have h1 : ∀ (c : Bool) (A B : Unit → Prop), (if c = true then A () else B ()) = Gate (c = true) A B := by
    intro c A B; cases c <;> simp [Gate]
  have h2 : wantE ops e ⟨d, op, ty, p, af, some (j, b)⟩ = (yieldE ops e j == some b) := rfl
  have h3 : (if (yieldE ops e j == some b) = true then qv P G ops Q (⟨d, op, ty, p, af, none⟩ :: l) ((k, ns) :: an) i e H hs else qv P G ops Q l an (i + 1) (e.put d undef) H hs) =
      Gate (yieldE ops e j = some b) (qU P G ops Q (⟨d, op, ty, p, af, none⟩ :: l) ((k, ns) :: an) i e H hs) (qU P G ops Q l an (i + 1) (e.put d undef) H hs) := by
    have := h1 (yieldE ops e j == some b) (qU P G ops Q (⟨d, op, ty, p, af, none⟩ :: l) ((k, ns) :: an) i e H hs) (qU P G ops Q l an (i + 1) (e.put d undef) H hs)
    simp only [beq_iff_eq] at this
    unfold qU at *
    rw [← this]
    simp only [beq_iff_eq]
  rw [← h3]
  rcases k with _ | _ | _ | k
  all_goals
    rw [qv, h2]
    · rfl
    all_goals (intro q; omega)
theorem relA_nil : relA ns [] = [] := (rfl)
theorem relA_cons {j : Nat} {h : Hp} {t : List (Nat × Hp)} : relA ns ((j, h) :: t) = if ns.contains j then [h] else h :: relA ns t := (rfl)
end
@[congr] theorem qv_congr {P : Program} {G : Hp} {ops : Array Oper} {Q : Post} {e : Env} {H : Hp} {l : List Oper} {an : List Note} {i : Nat} {hs : List (Nat × Hp)} : qv P G ops Q l an i e H hs = qv P G ops Q l an i e H hs := rfl
@[congr] theorem cl_congr {P : Program} {G : Hp} {c : Code} {Q : Post} {e : Env} {H : Hp} : cl P G c Q e H = cl P G c Q e H := rfl
@[congr] theorem cList_congr {P : Program} {G : Hp} {ops : Array Oper} {Q : Post} {e : Env} {H : Hp} {l : List Oper} : cList P G ops Q l e H = cList P G ops Q l e H := rfl
@[congr] theorem thenH_congr {n : Env → Hp → Prop} {Q : Post} {o o' : Out} {e : Env} {H : Hp} (h : o = o') : thenH n Q o e H = thenH n Q o' e H := by rw [h]
@[congr] theorem blockH_congr {i : Nat} {Q : Post} {o o' : Out} {e : Env} {H : Hp} (h : o = o') : blockH i Q o e H = blockH i Q o' e H := by rw [h]
@[congr] theorem endH_congr {P : Program} {G : Hp} {rs : List ResultVar} {R : Ending → Hp → Prop} {o o' : Out} {e : Env} {H : Hp} (h : o = o') : endH P G rs R o e H = endH P G rs R o' e H := by rw [h]
theorem isRd_move {x} : isRd (.move x) = true := (rfl)
theorem isRd_assign {x} : isRd (.assign x) = true := (rfl)
theorem isRd_pick {a b c} : isRd (.pick a b c) = true := (rfl)
theorem isRd_nilCheck {x} : isRd (.nilCheck x) = true := (rfl)
theorem isRd_load {t x} : isRd (.load t x) = true := (rfl)
theorem isRd_field {t x f} : isRd (.field t x f) = true := (rfl)
theorem isRd_fieldAddr {t x f} : isRd (.fieldAddr t x f) = true := (rfl)
theorem isRd_index {t x i} : isRd (.index t x i) = true := (rfl)
theorem isRd_indexAddr {t x i} : isRd (.indexAddr t x i) = true := (rfl)
theorem isRd_slice {t x l h m} : isRd (.slice t x l h m) = true := (rfl)
theorem isRd_extract {x i} : isRd (.extract x i) = true := (rfl)
theorem isRd_build {t ps} : isRd (.build t ps) = true := (rfl)
theorem isRd_binOp {o t x y u} : isRd (.binOp o t x y u) = true := (rfl)
theorem isRd_unOp {o t x} : isRd (.unOp o t x) = true := (rfl)
theorem isRd_makeInterface {t x} : isRd (.makeInterface t x) = true := (rfl)
theorem isRd_makeFunc {f a b} : isRd (.makeFunc f a b) = true := (rfl)
theorem isRd_lookup {t x i c} : isRd (.lookup t x i c) = true := (rfl)
theorem isRd_store {t x y} : isRd (.store t x y) = false := (rfl)
theorem isRd_alloc {t} : isRd (.alloc t) = false := (rfl)
theorem isRd_box {t x} : isRd (.box t x) = false := (rfl)
theorem isRd_buildSlice {t n ps} : isRd (.buildSlice t n ps) = false := (rfl)
theorem isRd_convert {a b x} : isRd (.convert a b x) = false := (rfl)
theorem isRd_makeMap {t r} : isRd (.makeMap t r) = false := (rfl)
theorem isRd_makeSlice {t a b} : isRd (.makeSlice t a b) = false := (rfl)
theorem isRd_mapUpdate {t a b c} : isRd (.mapUpdate t a b c) = false := (rfl)
theorem isRd_insert {t a b c} : isRd (.insert t a b c) = false := (rfl)
theorem isRd_mapEntry {t a b} : isRd (.mapEntry t a b) = false := (rfl)
theorem isRd_entryStore {t a b c} : isRd (.entryStore t a b c) = false := (rfl)
theorem isRd_range {t x} : isRd (.range t x) = false := (rfl)
theorem isRd_next {x b} : isRd (.next x b) = false := (rfl)
theorem isRd_entry {x} : isRd (.entry x) = false := (rfl)
theorem isRd_typeAssert {a b c x} : isRd (.typeAssert a b c x) = false := (rfl)
theorem isRd_len {a t} : isRd (.call ⟨.builtin .len, a, t⟩) = true := (rfl)
theorem isRd_cap {a t} : isRd (.call ⟨.builtin .cap, a, t⟩) = true := (rfl)
theorem isRd_min {a t} : isRd (.call ⟨.builtin .min, a, t⟩) = true := (rfl)
theorem isRd_max {a t} : isRd (.call ⟨.builtin .max, a, t⟩) = true := (rfl)
theorem isRd_append {a t} : isRd (.call ⟨.builtin .append, a, t⟩) = false := (rfl)
theorem isRd_copy {a t} : isRd (.call ⟨.builtin .copy, a, t⟩) = false := (rfl)
theorem isRd_delete {a t} : isRd (.call ⟨.builtin .delete, a, t⟩) = false := (rfl)
theorem isRd_clear {a t} : isRd (.call ⟨.builtin .clear, a, t⟩) = false := (rfl)
theorem isRd_callv {f a t} : isRd (.call ⟨.value f, a, t⟩) = false := (rfl)

theorem bits_i64 : IntKind.bits .i64 = 64 := (rfl)
theorem bits_u64 : IntKind.bits .u64 = 64 := (rfl)
theorem bits_u8 : IntKind.bits .u8 = 8 := (rfl)
theorem bits_u16 : IntKind.bits .u16 = 16 := (rfl)
theorem bits_u32 : IntKind.bits .u32 = 32 := (rfl)
theorem opAt_eq {ops : Array Oper} {k : Nat} : opAt ops k = (ops[k]?).getD default := by unfold opAt; simp
theorem wantE_none {ops : Array Oper} {e : Env} {d : Option Tmp} {op : Op} {ty : TypeId} {p : String} {af : Array Edge} : wantE ops e ⟨d, op, ty, p, af, none⟩ = true := (rfl)
theorem wantE_some {ops : Array Oper} {e : Env} {d : Option Tmp} {op : Op} {ty : TypeId} {p : String} {af : Array Edge} {j : Nat} {b : Bool} : wantE ops e ⟨d, op, ty, p, af, some (j, b)⟩ = (yieldE ops e j == some b) := (rfl)
theorem yv_undef : yv undef = none := (rfl)
theorem yv_bool {b : Bool} : yv (.bool b) = some b := (rfl)
theorem someb_t {b : Bool} : (some b = some true) = (b = true) := by simp
theorem someb_f {b : Bool} : (some b = some false) = (b = false) := by simp
def nn (l : List Nat) : List Note := l.map fun k => (k, [])
theorem nn_nil : nn [] = [] := (rfl)
theorem nn_cons {k : Nat} {l : List Nat} : nn (k :: l) = (k, []) :: nn l := (rfl)
theorem sz1 {v : Value} : (#[v] : Array Value).size = 1 := (rfl)
theorem addr_mk (b off n : Nat) : (⟨b, off, none⟩ : Addr).add n = ⟨b, off + n, none⟩ := by
  unfold Addr.add
  split
  · rename_i h; subst h; rfl
  · rfl
theorem all_nil {K : Nat → Prop} : (∀ x ∈ ([] : List Nat), K x) = True := by simp
theorem tuple1_one {v : Value} : tuple1 [v] = v := (rfl)
theorem tuple1_nil : tuple1 [] = .tuple #[] := (rfl)
theorem tuple1_two {v w : Value} {l : List Value} : tuple1 (v :: w :: l) = .tuple (v :: w :: l).toArray := (rfl)
end Go.Sl
