/- Operations in closed forms: what each reads and tells, by its operands' values. -/
import Derived.Test.YtanhmbdcdbcfmaaEval
set_option linter.unusedVariables false
set_option linter.unusedSimpArgs false
namespace Go.Sl
open Go

/-! ### what a walk stops at -/
def Ex (o : Option Next) (K : Value → Prop) : Prop := ∃ v, o = some (.value v) ∧ K v
@[congr] theorem Ex_congr {o o' : Option Next} {K : Value → Prop} (h : o = o') : Ex o K = Ex o' K := by rw [h]
theorem Ex_some {v : Value} {K : Value → Prop} : Ex (some (.value v)) K = K v := by simp [Ex]
theorem Ex_ite {c : Prop} [Decidable c] {o : Option Next} {K : Value → Prop} : Ex (if c then o else none) K = (c ∧ Ex o K) := by
  by_cases h : c <;> simp [Ex, h]
theorem Ex_ite2 {c : Prop} [Decidable c] {o : Option Next} {K : Value → Prop} : Ex (if c then none else o) K = (¬ c ∧ Ex o K) := by
  by_cases h : c <;> simp [h, Ex]
def St (o : Option Hp) (K : Hp → Prop) : Prop := ∃ H, o = some H ∧ K H
@[congr] theorem St_congr {o o' : Option Hp} {K : Hp → Prop} (h : o = o') : St o K = St o' K := by rw [h]
theorem St_some {H : Hp} {K : Hp → Prop} : St (some H) K = K H := by simp [St]
theorem St.intro {o : Option Hp} {H : Hp} {K : Hp → Prop} (h : o = some H) (k : K H) : St o K := ⟨H, h, k⟩
def New (H G : Hp) (K : Nat → Prop) : Prop := ∀ b, H b = none → G b = none → K b
@[congr] theorem New_congr {H G : Hp} {K : Nat → Prop} : New H G K = New H G K := rfl
def Each (l : List Hp) (p : Hp → Option Next) (K : Value → Prop) : Prop := ∃ v, (∀ h ∈ l, p h = some (.value v)) ∧ K v
@[congr] theorem Each_congr {l l' : List Hp} {p : Hp → Option Next} {K : Value → Prop} (h : l = l') : Each l p K = Each l' p K := by rw [h]
theorem Each_one {h : Hp} {p : Hp → Option Next} {K : Value → Prop} : Each [h] p K = Ex (p h) K := by simp [Each, Ex]
theorem Each_two {h h' : Hp} {p : Hp → Option Next} {K : Value → Prop} : Each [h, h'] p K = Ex (p h) fun v => p h' = some (.value v) ∧ K v := by
  refine propext ⟨?_, ?_⟩
  · rintro ⟨v, h1, h2⟩; exact ⟨v, h1 h (by simp), h1 h' (by simp), h2⟩
  · rintro ⟨v, h1, h2, h3⟩; exact ⟨v, by simp [h1, h2], h3⟩
@[congr] theorem opV_congr {P : Program} {G : Hp} {s s' : Sem Next} {H : Hp} {K : Value → Hp → Prop} (h : s = s') : opV P G s H K = opV P G s' H K := by rw [h]
@[congr] theorem CallsH_congr {P : Program} {G : Hp} {f : FuncId} {args args' : Array Value} {H : Hp} {R : Ending → Hp → Prop} (h : args = args') : CallsH P G f args H R = CallsH P G f args' H R := by rw [h]

/-! ### the monad -/
section
variable {P : Program} {R G : Hp} {α β : Type}
theorem rd_bind (x : Sem α) (f : α → Sem β) : rd P R (x >>= f) = (rd P R x).bind fun a => rd P R (f a) := by
  show rd P R (Sem.bind x f) = _
  induction x with
  | pure a => rfl
  | load m a k ih =>
    simp only [Sem.bind, rd]
    cases R.cell a with
    | none => rfl
    | some v => exact ih v
  | shape r k ih =>
    simp only [Sem.bind, rd]
    cases R r with
    | none => rfl
    | some v => exact ih _
  | frozen a k ih =>
    simp only [Sem.bind, rd]
    cases R a.block with
    | none => rfl
    | some v => exact ih _
  | getObj r k ih =>
    simp only [Sem.bind, rd]
    cases R r with
    | none => rfl
    | some v =>
      simp only
      split
      · rfl
      · exact ih _
  | program k ih => exact ih _
  | mark m k ih => exact ih
  | _ => rfl
@[simp] theorem rd_pure (a : α) : rd P R (pure a : Sem α) = some a := (rfl)
@[simp] theorem rd_pure' (a : α) : rd P R (Sem.pure a) = some a := (rfl)
@[simp] theorem rd_program : rd P R program = some P := (rfl)
@[simp] theorem rd_stuck (w : String) : rd P R (stuck w : Sem α) = none := (rfl)
@[simp] theorem rd_unsupported (u : Unsupported) : rd P R (unsupported u : Sem α) = none := (rfl)
@[simp] theorem rd_goPanic (v : Value) : rd P R (goPanic v : Sem α) = none := (rfl)
@[simp] theorem rd_load (a : Addr) (m : Mode) : rd P R (load a m) = R.cell a := by
  unfold load rd
  cases R.cell a <;> rfl
theorem rd_ite (c : Prop) [Decidable c] (x y : Sem α) : rd P R (if c then x else y) = if c then rd P R x else rd P R y := by split <;> rfl
@[simp] theorem rd_boundsPanic (k : IntKind) (x y : Int) (c : BoundsCode) : rd P R (boundsPanic k x y c : Sem α) = none := by
  unfold boundsPanic
  dsimp only
  rw [rd_ite]
  split
  · rw [rd_bind, map_eq_pure_bind, rd_bind]
    rfl
  · rw [rd_bind, rd_pure]
    simp only [Option.bind_some]
    unfold runtimePanic
    rw [rd_bind]
    rfl
@[simp] theorem rd_typeInfo (t : TypeId) : rd P R (typeInfo t) = P.info? t := by
  unfold typeInfo
  rw [rd_bind]
  simp only [rd_program, Option.bind_some]
  split <;> simp_all
@[simp] theorem rd_underlying (t : TypeId) : rd P R (underlying t) = P.underlying t := by
  unfold underlying
  rw [rd_bind]
  simp only [rd_program, Option.bind_some]
  split <;> simp_all
def csz (P : Program) (t : TypeId) : Option Nat := (P.info? t).map (·.size)
def zro (P : Program) (t : TypeId) : Option Value := (P.info? t).bind (·.zero)
@[simp] theorem rd_sizeOf (t : TypeId) : rd P R (sizeOf t) = csz P t := by
  unfold sizeOf csz
  rw [rd_bind, rd_typeInfo]
  cases P.info? t <;> rfl
@[simp] theorem rd_zeroValue (t : TypeId) : rd P R (zeroValue t) = zro P t := by
  unfold zeroValue zro
  rw [rd_bind, rd_typeInfo]
  cases P.info? t with
  | none => rfl
  | some i =>
    simp only [Option.bind_some]
    cases i.zero <;> rfl
/-- A type's values: one cell (none), or so many. -/
def aggN (P : Program) (t : TypeId) : Option (Option Nat) :=
  match P.underlying t with
  | none => none
  | some (.struct _) | some (.array _ _) => (csz P t).map some
  | some _ => some none
def ldl (R : Hp) (a : Addr) (i : Nat) : Nat → Option (List Value)
  | 0 => some []
  | n + 1 => match R.cell (a.add i) with | none => none | some v => match ldl R a (i + 1) n with | none => none | some l => some (v :: l)
theorem rd_loadCellsFrom (a : Addr) : ∀ (n i : Nat) (acc : Array Value), rd P R (loadCellsFrom a i n acc) = (ldl R a i n).map fun l => acc ++ l.toArray
  | 0, i, acc => by simp [loadCellsFrom, ldl]
  | n + 1, i, acc => by
    unfold loadCellsFrom ldl
    rw [rd_bind, rd_load]
    cases R.cell (a.add i) with
    | none => rfl
    | some v =>
      simp only [Option.bind_some]
      rw [rd_loadCellsFrom a n (i + 1)]
      cases ldl R a (i + 1) n <;> simp
def ldV (P : Program) (R : Hp) (t : TypeId) (a : Addr) : Option Value :=
  match aggN P t with
  | none => none
  | some none => R.cell a
  | some (some n) => (ldl R a 0 n).map fun l => .agg l.toArray
def ldA (k : Option (Option Nat)) (R : Hp) (a : Addr) : Option Value := match k with
  | none => none
  | some none => R.cell a
  | some (some n) => (ldl R a 0 n).map fun l => .agg l.toArray
theorem ldV_eq {t : TypeId} {a : Addr} : ldV P R t a = ldA (aggN P t) R a := (rfl)
theorem ldA_one {a : Addr} : ldA (some none) R a = R.cell a := (rfl)
theorem ldA_agg {a : Addr} {n : Nat} : ldA (some (some n)) R a = (ldl R a 0 n).map fun l => .agg l.toArray := (rfl)
theorem rd_isAgg (t : TypeId) : rd P R (isAgg t) = (P.underlying t).map fun | .struct _ => true | .array _ _ => true | _ => false := by
  unfold isAgg
  rw [rd_bind, rd_underlying]
  cases P.underlying t with
  | none => rfl
  | some d => cases d <;> rfl
@[simp] theorem rd_loadVar (t : TypeId) (a : Addr) : rd P R (loadVar t a) = ldV P R t a := by
  unfold loadVar ldV aggN
  rw [rd_bind, rd_isAgg]
  cases hd : P.underlying t with
  | none => rfl
  | some d =>
    have agg : rd P R (do pure (Value.agg (← loadCells a (← sizeOf t)))) = (match (csz P t).map some with | none => none | some none => R.cell a | some (some n) => (ldl R a 0 n).map fun l => .agg l.toArray) := by
      rw [rd_bind, rd_sizeOf]
      cases csz P t with
      | none => rfl
      | some n =>
        simp only [Option.bind_some, Option.map_some]
        unfold loadCells
        rw [rd_bind, rd_loadCellsFrom]
        cases ldl R a 0 n <;> simp
    cases d <;> first | (simp only [Option.map_some, Option.bind_some, if_true]; exact agg) | (simp)
/-- A part of a value that has parts. -/
def prt (P : Program) (t : TypeId) (cs : Array Value) (off : Nat) : Option Value :=
  match aggN P t with
  | none => none
  | some none => cs[off]?
  | some (some n) => some (.agg (cs.extract off (off + n)))
def prA (k : Option (Option Nat)) (cs : Array Value) (off : Nat) : Option Value := match k with
  | none => none
  | some none => cs[off]?
  | some (some n) => some (.agg (cs.extract off (off + n)))
theorem prt_eq {t : TypeId} {cs : Array Value} {off : Nat} : prt P t cs off = prA (aggN P t) cs off := (rfl)
theorem prA_one {cs : Array Value} {off : Nat} : prA (some none) cs off = cs[off]? := (rfl)
theorem prA_agg {l : List Value} {off n : Nat} : prA (some (some n)) l.toArray off = some (.agg ((l.drop off).take n).toArray) := by
  simp [prA, List.extract_eq_take_drop]
@[simp] theorem rd_part (t : TypeId) (cs : Array Value) (off : Nat) : rd P R (part t cs off) = prt P t cs off := by
  unfold part prt aggN
  rw [rd_bind, rd_isAgg]
  cases hd : P.underlying t with
  | none => rfl
  | some d =>
    have agg : rd P R (do pure (Value.agg (cs.extract off (off + (← sizeOf t))))) = (match (csz P t).map some with | none => none | some none => cs[off]? | some (some n) => some (.agg (cs.extract off (off + n)))) := by
      rw [rd_bind, rd_sizeOf]
      cases csz P t <;> rfl
    have one : rd P R (match cs[off]? with | some v => pure v | none => stuck "part: no such cell") = cs[off]? := by
      cases cs[off]? <;> rfl
    cases d <;> first | (simp only [Option.map_some, Option.bind_some, if_true]; exact agg) | (simp only [Option.map_some, Option.bind_some, Bool.false_eq_true, if_false]; exact one)
end

/-! ### what operations that only read tell -/
def vl (s : Option Value) : Option Next := s.map .value
@[simp] theorem vl_some (v : Value) : vl (some v) = some (.value v) := (rfl)
@[simp] theorem vl_none : vl none = none := (rfl)
section
variable {P : Program} {R G : Hp} {e : Env} {d : Option Tmp} {ty : TypeId} {p : String} {af : Array Edge} {g : Option (Nat × Bool)}
theorem rd_vl (s : Sem Value) : rd P R (do pure (Next.value (← s))) = vl (rd P R s) := by
  rw [rd_bind]
  cases rd P R s <;> rfl
@[simp] theorem rd_move (x : Operand) : rd P R (execOp e.ev ⟨d, .move x, ty, p, af, g⟩) = some (.value (e.ev x)) := (rfl)
@[simp] theorem rd_assign (x : Operand) : rd P R (execOp e.ev ⟨d, .assign x, ty, p, af, g⟩) = some (.value (e.ev x)) := (rfl)
def rPick (c a b : Value) : Option Next := match c with | .bool t => some (.value (if t then a else b)) | _ => none
@[simp] theorem rd_pick (c a b : Operand) : rd P R (execOp e.ev ⟨d, .pick c a b, ty, p, af, g⟩) = rPick (e.ev c) (e.ev a) (e.ev b) := by
  show rd P R (do pure (Next.value (if ← asBool (e.ev c) then e.ev a else e.ev b))) = _
  rw [rd_bind]
  unfold asBool rPick
  cases e.ev c <;> rfl
theorem rPick_bool (t : Bool) (a b : Value) : rPick (.bool t) a b = some (.value (if t then a else b)) := (rfl)
theorem rPick_true (a b : Value) : rPick (.bool true) a b = some (.value a) := (rfl)
theorem rPick_false (a b : Value) : rPick (.bool false) a b = some (.value b) := (rfl)
def rNil (P : Program) (R : Hp) (v : Value) : Option Next := rd P R (execOp (fun _ => v) ⟨none, .nilCheck (.const v), 0, "", #[], none⟩)
@[simp] theorem rd_nilCheck (x : Operand) : rd P R (execOp e.ev ⟨d, .nilCheck x, ty, p, af, g⟩) = rNil P R (e.ev x) := (rfl)
@[simp] theorem rNil_ptr (a : Addr) : rNil P R (.pointer (some a)) = some (.value (.pointer (some a))) := (rfl)
@[simp] theorem rNil_func (f : FuncId) (a b : Array Value) : rNil P R (.func (.func f) a b) = some (.value (.func (.func f) a b)) := (rfl)
def rLoad (P : Program) (R : Hp) (t : TypeId) (v : Value) : Option Next := match v with | .pointer (some a) => vl (ldV P R t a) | _ => none
@[simp] theorem rd_opLoad (t : TypeId) (x : Operand) : rd P R (execOp e.ev ⟨d, .load t x, ty, p, af, g⟩) = rLoad P R t (e.ev x) := by
  show rd P R (do pure (Next.value (← Instr.loadAt t (e.ev x)))) = _
  rw [rd_vl]
  unfold Instr.loadAt rLoad
  rw [rd_bind]
  unfold Instr.sureAddr
  cases e.ev x with
  | pointer a => cases a with
    | none => rfl
    | some a => simp
  | _ => rfl
@[simp] theorem rLoad_ptr (t : TypeId) (a : Addr) : rLoad P R t (.pointer (some a)) = vl (ldV P R t a) := (rfl)
/-- A field: where it lies; its type. -/
def fOff (P : Program) (s : TypeId) (f : Nat) : Nat := match P.underlying s with | some (.struct fs) => ((fs[f]?).map (·.offset)).getD 0 | _ => 0
def fTy (P : Program) (s : TypeId) (f : Nat) : TypeId := match P.underlying s with | some (.struct fs) => ((fs[f]?).map (·.type)).getD 0 | _ => 0
def fIs (P : Program) (s : TypeId) (f : Nat) : Bool := match P.underlying s with | some (.struct fs) => (fs[f]?).isSome && ((csz P (fTy P s f)).any (· != 0)) | _ => false
theorem fIs_spec {s : TypeId} {f : Nat} (h : fIs P s f = true) : ∃ fs fd n, P.underlying s = some (.struct fs) ∧ fs[f]? = some fd ∧ csz P fd.type = some n ∧ n ≠ 0 ∧ fOff P s f = fd.offset ∧ fTy P s f = fd.type := by
  unfold fIs at h
  unfold fOff fTy
  cases hs : P.underlying s with
  | none => rw [hs] at h; cases h
  | some x =>
    rw [hs] at h
    cases x with
    | struct fs =>
      simp only [Bool.and_eq_true] at h
      obtain ⟨h1, h2⟩ := h
      obtain ⟨fd, hfd⟩ := Option.isSome_iff_exists.1 h1
      have ht : fTy P s f = fd.type := by unfold fTy; rw [hs]; simp [hfd]
      rw [ht] at h2
      cases hc : csz P fd.type with
      | none => rw [hc] at h2; cases h2
      | some n => rw [hc] at h2; exact ⟨fs, fd, n, rfl, hfd, hc, by simpa using h2, by simp [hfd], by simp [hfd]⟩
    | _ => cases h
def rFA (P : Program) (R : Hp) (s : TypeId) (v : Value) (f : Nat) : Option Next := vl (rd P R (Instr.fieldAt s v f))
@[simp] theorem rd_fieldAddr (s : TypeId) (x : Operand) (f : Nat) : rd P R (execOp e.ev ⟨d, .fieldAddr s x f, ty, p, af, g⟩) = rFA P R s (e.ev x) f := rd_vl _
theorem rFA_ptr {s : TypeId} {f : Nat} (a : Addr) (h : fIs P s f = true) : rFA P R s (.pointer (some a)) f = some (.value (.pointer (some (a.add (fOff P s f))))) := by
  obtain ⟨fs, fd, n, h1, h2, h3, h4, h5, h6⟩ := fIs_spec h
  unfold rFA Instr.fieldAt
  rw [rd_bind, rd_underlying, h1]
  simp only [Option.bind_some, h2]
  rw [rd_bind]
  show vl (Option.bind (some a) _) = _
  simp only [Option.bind_some]
  rw [rd_bind]
  unfold fieldPlace
  rw [rd_bind, rd_sizeOf, h3]
  simp only [Option.bind_some]
  rw [if_neg h4, h5]
  rfl
def rField (P : Program) (s : TypeId) (v : Value) (f : Nat) : Option Next := vl (rd P Hp.emp (Instr.field s v f))
theorem field_any (s : TypeId) (v : Value) (f : Nat) : rd P R (Instr.field s v f) = rd P Hp.emp (Instr.field s v f) := by
  unfold Instr.field
  rw [rd_bind, rd_bind, rd_underlying, rd_underlying]
  cases P.underlying s with
  | none => rfl
  | some x =>
    simp only [Option.bind_some]
    cases x with
    | struct fs =>
      simp only
      cases fs[f]? with
      | none => rfl
      | some fd =>
        simp only
        rw [rd_bind, rd_bind]
        cases v <;> first | rfl | (show (Option.bind (some _) _) = (Option.bind (some _) _); simp)
    | _ => rfl
@[simp] theorem rd_field (s : TypeId) (x : Operand) (f : Nat) : rd P R (execOp e.ev ⟨d, .field s x f, ty, p, af, g⟩) = rField P s (e.ev x) f := by
  show rd P R (do pure (Next.value (← Instr.field s (e.ev x) f))) = _
  rw [rd_vl, field_any]; rfl
theorem rField_agg {s : TypeId} {f : Nat} (cs : Array Value) (h : fIs P s f = true) : rField P s (.agg cs) f = vl (prt P (fTy P s f) cs (fOff P s f)) := by
  obtain ⟨fs, fd, n, h1, h2, h3, h4, h5, h6⟩ := fIs_spec h
  unfold rField Instr.field
  rw [rd_bind, rd_underlying, h1]
  simp only [Option.bind_some, h2]
  rw [rd_bind]
  show vl (Option.bind (some cs) _) = _
  simp only [Option.bind_some]
  rw [rd_part, h5, h6]
/-- A slice type: its element's size. -/
def slSz (P : Program) (t : TypeId) : Nat := match P.underlying t with | some (.slice e) => (csz P e).getD 0 | _ => 0
def slEl (P : Program) (t : TypeId) : TypeId := match P.underlying t with | some (.slice e) => e | _ => 0
def slIs (P : Program) (t : TypeId) : Bool := match P.underlying t with | some (.slice e) => (csz P e).isSome | _ => false
theorem slIs_spec {t : TypeId} (h : slIs P t = true) : P.underlying t = some (.slice (slEl P t)) ∧ csz P (slEl P t) = some (slSz P t) := by
  unfold slIs at h
  unfold slEl slSz
  cases hs : P.underlying t with
  | none => rw [hs] at h; cases h
  | some x =>
    rw [hs] at h
    cases x with
    | slice e =>
      simp only at h ⊢
      obtain ⟨n, hn⟩ := Option.isSome_iff_exists.1 h
      rw [hn]
      exact ⟨trivial, rfl⟩
    | _ => cases h
def rIA (P : Program) (R : Hp) (t : TypeId) (v i : Value) : Option Next := vl (rd P R (Instr.indexAt t v i))
@[simp] theorem rd_indexAddr (t : TypeId) (x i : Operand) : rd P R (execOp e.ev ⟨d, .indexAddr t x i, ty, p, af, g⟩) = rIA P R t (e.ev x) (e.ev i) := rd_vl _
theorem rIA_slice {t : TypeId} (a : Addr) (len cap : Nat) (k : IntKind) (i : Int) (h : slIs P t = true) :
    rIA P R t (.slice (some a) len cap) (.int k i) = if 0 ≤ i ∧ i < len then some (.value (.pointer (some (a.add (i.toNat * slSz P t))))) else none := by
  obtain ⟨h1, h2⟩ := slIs_spec h
  unfold rIA Instr.indexAt
  rw [rd_bind]
  show vl (Option.bind (some (k, i)) _) = _
  simp only [Option.bind_some]
  rw [rd_bind, rd_underlying, h1]
  simp only [Option.bind_some]
  rw [rd_bind]
  simp only [rd_pure, Option.bind_some]
  rw [rd_bind, rd_underlying, h1]
  simp only [Option.bind_some, Bool.and_false, rd_pure]
  by_cases hc : 0 ≤ i ∧ i < len
  · rw [if_pos hc, if_pos hc, rd_bind, rd_sizeOf, h2]; rfl
  · rw [if_neg hc, if_neg hc]
    simp
def rSl (P : Program) (R : Hp) (t : TypeId) (v : Value) (lo hi mx : Option Value) : Option Next := vl (rd P R (Instr.sliceAt t v lo hi mx))
@[simp] theorem rd_slice (t : TypeId) (x : Operand) (lo hi mx : Option Operand) : rd P R (execOp e.ev ⟨d, .slice t x lo hi mx, ty, p, af, g⟩) = rSl P R t (e.ev x) (lo.map e.ev) (hi.map e.ev) (mx.map e.ev) := rd_vl _
theorem rd_sliceBound (k : IntKind) (i : Int) (y : Nat) (c : BoundsCode) : rd P R (Instr.sliceBound (.int k i) y c) = if 0 ≤ i ∧ i ≤ y then some i.toNat else none := by
  unfold Instr.sliceBound
  rw [rd_bind]
  show (Option.bind (some (k, i)) _) = _
  simp only [Option.bind_some]
  rw [rd_ite]
  split <;> simp
theorem map_add0 (a : Option Addr) : a.map (·.add 0) = a := by cases a <;> simp [Addr.add]
theorem rSl_slice_hi {t : TypeId} (a : Option Addr) (len cap : Nat) (k : IntKind) (i : Int) (h : slIs P t = true) :
    rSl P R t (.slice a len cap) none (some (.int k i)) none = if 0 ≤ i ∧ i ≤ cap then some (.value (.slice a i.toNat cap)) else none := by
  obtain ⟨h1, h2⟩ := slIs_spec h
  unfold rSl Instr.sliceAt
  rw [rd_bind, rd_underlying, h1]
  simp only [Option.bind_some]
  unfold Instr.slice
  rw [rd_bind, rd_underlying, h1]
  simp only [Option.bind_some]
  rw [rd_bind]
  unfold Instr.sliceBounds
  simp only [rd_bind, rd_pure, Option.bind_some, if_true, rd_sliceBound, rd_sizeOf, h2]
  by_cases hc : 0 ≤ i ∧ i ≤ cap
  · rw [if_pos hc, if_pos hc]
    simp [map_add0]
  · rw [if_neg hc, if_neg hc]
    rfl
theorem rSl_slice_lo {t : TypeId} (a : Option Addr) (len cap : Nat) (k : IntKind) (i : Int) (h : slIs P t = true) :
    rSl P R t (.slice a len cap) (some (.int k i)) none none = if 0 ≤ i ∧ i ≤ len then some (.value (.slice (if cap = i.toNat then a else a.map (·.add (i.toNat * slSz P t))) (len - i.toNat) (cap - i.toNat))) else none := by
  obtain ⟨h1, h2⟩ := slIs_spec h
  unfold rSl Instr.sliceAt
  rw [rd_bind, rd_underlying, h1]
  simp only [Option.bind_some]
  unfold Instr.slice
  rw [rd_bind, rd_underlying, h1]
  simp only [Option.bind_some]
  rw [rd_bind]
  unfold Instr.sliceBounds
  simp only [rd_bind, rd_pure, Option.bind_some, if_true, rd_sliceBound, rd_sizeOf, h2]
  by_cases hc : 0 ≤ i ∧ i ≤ len
  · rw [if_pos hc, if_pos hc]
    rfl
  · rw [if_neg hc, if_neg hc]
    rfl
theorem rSl_slice_lohi {t : TypeId} (a : Option Addr) (len cap : Nat) (k k' : IntKind) (i j : Int) (h : slIs P t = true) :
    rSl P R t (.slice a len cap) (some (.int k i)) (some (.int k' j)) none = if 0 ≤ j ∧ j ≤ cap then if 0 ≤ i ∧ i ≤ j.toNat then some (.value (.slice (if cap = i.toNat then a else a.map (·.add (i.toNat * slSz P t))) (j.toNat - i.toNat) (cap - i.toNat))) else none else none := by
  obtain ⟨h1, h2⟩ := slIs_spec h
  unfold rSl Instr.sliceAt
  rw [rd_bind, rd_underlying, h1]
  simp only [Option.bind_some]
  unfold Instr.slice
  rw [rd_bind, rd_underlying, h1]
  simp only [Option.bind_some]
  rw [rd_bind]
  unfold Instr.sliceBounds
  simp only [rd_bind, rd_pure, Option.bind_some, if_true, rd_sliceBound, rd_sizeOf, h2]
  by_cases hc : 0 ≤ j ∧ j ≤ cap
  · rw [if_pos hc, if_pos hc]
    simp only [Option.bind_some]
    by_cases hc2 : 0 ≤ i ∧ i ≤ j.toNat
    · rw [if_pos hc2, if_pos hc2]
      rfl
    · rw [if_neg hc2, if_neg hc2]
      rfl
  · rw [if_neg hc, if_neg hc]
    rfl
/-- xs[:j:m]. -/
theorem rSl_slice_himx {t : TypeId} (a : Option Addr) (len cap : Nat) (k k' : IntKind) (j m : Int) (h : slIs P t = true) :
    rSl P R t (.slice a len cap) none (some (.int k j)) (some (.int k' m)) = if 0 ≤ m ∧ m ≤ cap then if 0 ≤ j ∧ j ≤ m.toNat then some (.value (.slice a j.toNat m.toNat)) else none else none := by
  obtain ⟨h1, h2⟩ := slIs_spec h
  unfold rSl Instr.sliceAt
  rw [rd_bind, rd_underlying, h1]
  simp only [Option.bind_some]
  unfold Instr.slice
  rw [rd_bind, rd_underlying, h1]
  simp only [Option.bind_some]
  rw [rd_bind]
  unfold Instr.sliceBounds
  simp only [rd_bind, rd_pure, Option.bind_some, if_true, rd_sliceBound, rd_sizeOf, h2]
  by_cases hc : 0 ≤ m ∧ m ≤ cap
  · rw [if_pos hc, if_pos hc]
    simp only [Option.bind_some]
    by_cases hc2 : 0 ≤ j ∧ j ≤ m.toNat
    · rw [if_pos hc2, if_pos hc2]
      simp [map_add0]
    · rw [if_neg hc2, if_neg hc2]
      rfl
  · rw [if_neg hc, if_neg hc]
    rfl
def rExt (v : Value) (i : Nat) : Option Next := match v with | .tuple vs => vl (vs[i]?) | _ => none
@[simp] theorem rd_extract (x : Operand) (i : Nat) : rd P R (execOp e.ev ⟨d, .extract x i, ty, p, af, g⟩) = rExt (e.ev x) i := by
  show rd P R (do pure (Next.value (← Instr.extract (e.ev x) i))) = _
  rw [rd_vl]
  unfold Instr.extract rExt
  cases e.ev x with
  | tuple vs => simp only; cases vs[i]? <;> rfl
  | _ => rfl
@[simp] theorem rExt_tuple (vs : Array Value) (i : Nat) : rExt (.tuple vs) i = vl (vs[i]?) := (rfl)
@[simp] theorem rd_makeFunc (fn : Fn) (a b : Array Operand) : rd P R (execOp e.ev ⟨d, .makeFunc fn a b, ty, p, af, g⟩) = some (.value (.func fn (a.map e.ev) (b.map e.ev))) := (rfl)
def rUn (op : UnOp) (v : Value) : Option Next := vl (rd default Hp.emp (Op.unary op v))
theorem rUn_not (b : Bool) : rUn .not (.bool b) = some (.value (.bool !b)) := rfl
theorem rUn_neg (k : IntKind) (n : Int) : rUn .neg (.int k n) = some (.value (.int k (k.wrap (0 - n)))) := rfl
@[simp] theorem rd_unOp_not (t : TypeId) (x : Operand) : rd P R (execOp e.ev ⟨d, .unOp .not t x, ty, p, af, g⟩) = rUn .not (e.ev x) := by
  show rd P R (do pure (Next.value (← Op.unary .not (e.ev x)))) = _
  rw [rd_vl]
  unfold rUn Op.unary
  cases e.ev x <;> rfl
@[simp] theorem rd_unOp_neg_int (t : TypeId) (x : Operand) (k : IntKind) (n : Int) (h : e.ev x = .int k n) : rd P R (execOp e.ev ⟨d, .unOp .neg t x, ty, p, af, g⟩) = some (.value (.int k (k.wrap (0 - n)))) := by
  show rd P R (do pure (Next.value (← Op.unary .neg (e.ev x)))) = _
  rw [h]; rfl
end
end Go.Sl
