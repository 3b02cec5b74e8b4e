/- More operations in closed forms: on numbers; those that write, or make memory; calls. -/
import Derived.Test.YtanhmbdcdbcfmaaOps
set_option linter.unusedVariables false
set_option linter.unusedSimpArgs false
namespace Go.Sl
open Go
section
variable {P : Program} {R G : Hp} {e : Env} {d : Option Tmp} {ty : TypeId} {p : String} {af : Array Edge} {g : Option (Nat × Bool)}
/-! ### two operands -/
def rBin (P : Program) (R : Hp) (op : BinOp) (t : TypeId) (x y : Operand) (a b : Value) : Option Next := vl (rd P R (do eqGuard op t x y a b; binOp op t a b))
@[simp] theorem rd_binOp (op : BinOp) (t u : TypeId) (x y : Operand) : rd P R (execOp e.ev ⟨d, .binOp op t x y u, ty, p, af, g⟩) = rBin P R op t x y (e.ev x) (e.ev y) := rd_vl _
section
variable {t : TypeId} {x y : Operand} {k : IntKind} {a b : Int}
theorem guard_int (op : BinOp) : rd P R (eqGuard op t x y (.int k a) (.int k b)) = some () := by
  unfold eqGuard
  cases op <;> rfl
theorem rBin_int (op : BinOp) : rBin P R op t x y (.int k a) (.int k b) = vl (rd P R (binOp op t (.int k a) (.int k b))) := by
  unfold rBin
  rw [rd_bind, guard_int]; rfl
@[simp] theorem rBin_add : rBin P R .add t x y (.int k a) (.int k b) = some (.value (.int k (k.wrap (a + b)))) := by
  rw [rBin_int]; simp [binOp, Op.intArith]
@[simp] theorem rBin_sub : rBin P R .sub t x y (.int k a) (.int k b) = some (.value (.int k (k.wrap (a - b)))) := by
  rw [rBin_int]; simp [binOp, Op.intArith]
@[simp] theorem rBin_mul : rBin P R .mul t x y (.int k a) (.int k b) = some (.value (.int k (k.wrap (a * b)))) := by
  rw [rBin_int]; simp [binOp, Op.intArith]
@[simp] theorem rBin_quo : rBin P R .quo t x y (.int k a) (.int k b) = if b = 0 then none else some (.value (.int k (k.wrap (a.tdiv b)))) := by
  rw [rBin_int]; simp only [binOp, Op.intDiv, ne_eq, not_true_eq_false, if_false]
  by_cases h : b = 0
  · rw [if_pos h, if_pos h]; rfl
  · rw [if_neg h, if_neg h]; rfl
@[simp] theorem rBin_rem : rBin P R .rem t x y (.int k a) (.int k b) = if b = 0 then none else some (.value (.int k (a.tmod b))) := by
  rw [rBin_int]; simp only [binOp, Op.intDiv, ne_eq, not_true_eq_false, if_false]
  by_cases h : b = 0
  · rw [if_pos h, if_pos h]; rfl
  · rw [if_neg h, if_neg h]; rfl
@[simp] theorem rBin_and : rBin P R .and t x y (.int k a) (.int k b) = some (.value (.int k (k.wrap (BitVec.ofInt k.bits a &&& BitVec.ofInt k.bits b).toNat))) := by
  rw [rBin_int]; simp [binOp, Op.intBits]
@[simp] theorem rBin_or : rBin P R .or t x y (.int k a) (.int k b) = some (.value (.int k (k.wrap (BitVec.ofInt k.bits a ||| BitVec.ofInt k.bits b).toNat))) := by
  rw [rBin_int]; simp [binOp, Op.intBits]
@[simp] theorem rBin_xor : rBin P R .xor t x y (.int k a) (.int k b) = some (.value (.int k (k.wrap (BitVec.ofInt k.bits a ^^^ BitVec.ofInt k.bits b).toNat))) := by
  rw [rBin_int]; simp [binOp, Op.intBits]
@[simp] theorem rBin_eql : rBin P R .eql t x y (.int k a) (.int k b) = some (.value (.bool (a == b))) := by
  rw [rBin_int]; simp [binOp, Op.intCmp]
@[simp] theorem rBin_neq : rBin P R .neq t x y (.int k a) (.int k b) = some (.value (.bool (a != b))) := by
  rw [rBin_int]; simp [binOp, Op.intCmp]
@[simp] theorem rBin_lss : rBin P R .lss t x y (.int k a) (.int k b) = some (.value (.bool (decide (a < b)))) := by
  rw [rBin_int]; simp [binOp, Op.intCmp]
@[simp] theorem rBin_leq : rBin P R .leq t x y (.int k a) (.int k b) = some (.value (.bool (decide (a ≤ b)))) := by
  rw [rBin_int]; simp [binOp, Op.intCmp]
@[simp] theorem rBin_gtr : rBin P R .gtr t x y (.int k a) (.int k b) = some (.value (.bool (decide (b < a)))) := by
  rw [rBin_int]; simp [binOp, Op.intCmp]
@[simp] theorem rBin_geq : rBin P R .geq t x y (.int k a) (.int k b) = some (.value (.bool (decide (b ≤ a)))) := by
  rw [rBin_int]; simp [binOp, Op.intCmp]
/-- Shifts: the count of whatever kind. -/
@[simp] theorem rBin_shl {k' : IntKind} : rBin P R .shl t x y (.int k a) (.int k' b) = if b < 0 then none else some (.value (.int k (k.wrap (a * 2 ^ (min b.toNat k.bits))))) := by
  unfold rBin
  rw [rd_bind]
  show vl (rd P R (Op.shift .shl k a k' b)) = _
  unfold Op.shift
  by_cases h : b < 0
  · rw [if_pos h, if_pos h]; rfl
  · rw [if_neg h, if_neg h]; rfl
@[simp] theorem rBin_shr {k' : IntKind} : rBin P R .shr t x y (.int k a) (.int k' b) = if b < 0 then none else some (.value (.int k (a.fdiv (2 ^ (min b.toNat k.bits))))) := by
  unfold rBin
  rw [rd_bind]
  show vl (rd P R (Op.shift .shr k a k' b)) = _
  unfold Op.shift
  by_cases h : b < 0
  · rw [if_pos h, if_pos h]; rfl
  · rw [if_neg h, if_neg h]; rfl
def ptIs (P : Program) (t : TypeId) : Bool := match P.underlying t with | some (.pointer _) => true | _ => false
def mpIs (P : Program) (t : TypeId) : Bool := match P.underlying t with | some (.map _ _) => true | _ => false
def boIs (P : Program) (t : TypeId) : Bool := match P.underlying t with | some .bool => true | _ => false
def fnIs (P : Program) (t : TypeId) : Bool := match P.underlying t with | some (.func _ _ _) => true | _ => false
theorem rBin_eqnil (v w : Value) (r : Bool) (hg : ∀ op, rd P R (eqGuard op t x y v w) = some ()) (hb : rd P R (Op.equal t v w) = some r) (h1 : binOp .eql t v w = do pure (.bool (← Op.equal t v w))) :
    rBin P R .eql t x y v w = some (.value (.bool r)) := by
  unfold rBin
  rw [rd_bind, hg, h1]
  simp only [Option.bind_some]
  rw [rd_bind, hb]; rfl
theorem rBin_nenil (v w : Value) (r : Bool) (hg : ∀ op, rd P R (eqGuard op t x y v w) = some ()) (hb : rd P R (Op.equal t v w) = some r) (h1 : binOp .neq t v w = do pure (.bool (!(← Op.equal t v w)))) :
    rBin P R .neq t x y v w = some (.value (.bool !r)) := by
  unfold rBin
  rw [rd_bind, hg, h1]
  simp only [Option.bind_some]
  rw [rd_bind, hb]; rfl
theorem equal_ptr_nil (h : ptIs P t = true) (q : Option Addr) : rd P R (Op.equal t (.pointer q) (.pointer none)) = some q.isNone := by
  unfold ptIs at h
  unfold Op.equal Op.maxDepth Op.equalIn
  rw [rd_bind, rd_underlying]
  cases hs : P.underlying t with
  | none => rw [hs] at h; cases h
  | some z =>
    rw [hs] at h
    cases z <;> first | (cases q <;> rfl) | cases h
theorem guard_ptr (op : BinOp) (q q' : Option Addr) : rd P R (eqGuard op t x y (.pointer q) (.pointer q')) = some () := by
  unfold eqGuard; cases op <;> rfl
@[simp] theorem rBin_ptr_nil (h : ptIs P t = true) (q : Option Addr) : rBin P R .eql t x y (.pointer q) (.pointer none) = some (.value (.bool q.isNone)) :=
  rBin_eqnil _ _ _ (fun op => guard_ptr op _ _) (equal_ptr_nil h q) (by cases q <;> rfl)
@[simp] theorem rBin_ptr_nnil (h : ptIs P t = true) (q : Option Addr) : rBin P R .neq t x y (.pointer q) (.pointer none) = some (.value (.bool !q.isNone)) :=
  rBin_nenil _ _ _ (fun op => guard_ptr op _ _) (equal_ptr_nil h q) (by cases q <;> rfl)
theorem equal_slice_nil (h : slIs P t = true) (q : Option Addr) (n c : Nat) : rd P R (Op.equal t (.slice q n c) (.slice none 0 0)) = some q.isNone := by
  obtain ⟨h1, h2⟩ := slIs_spec h
  unfold Op.equal Op.maxDepth Op.equalIn
  rw [rd_bind, rd_underlying, h1]
  cases q <;> rfl
theorem guard_slice (op : BinOp) (q q' : Option Addr) (n c n' c' : Nat) : rd P R (eqGuard op t x y (.slice q n c) (.slice q' n' c')) = some () := by
  unfold eqGuard; cases op <;> rfl
@[simp] theorem rBin_slice_nil (h : slIs P t = true) (q : Option Addr) (n c : Nat) : rBin P R .eql t x y (.slice q n c) (.slice none 0 0) = some (.value (.bool q.isNone)) :=
  rBin_eqnil _ _ _ (fun op => guard_slice op _ _ _ _ _ _) (equal_slice_nil h q n c) rfl
@[simp] theorem rBin_slice_nnil (h : slIs P t = true) (q : Option Addr) (n c : Nat) : rBin P R .neq t x y (.slice q n c) (.slice none 0 0) = some (.value (.bool !q.isNone)) :=
  rBin_nenil _ _ _ (fun op => guard_slice op _ _ _ _ _ _) (equal_slice_nil h q n c) rfl
theorem equal_bool (h : boIs P t = true) (q q' : Bool) : rd P R (Op.equal t (.bool q) (.bool q')) = some (q == q') := by
  unfold boIs at h
  unfold Op.equal Op.maxDepth Op.equalIn
  rw [rd_bind, rd_underlying]
  cases hs : P.underlying t with
  | none => rw [hs] at h; cases h
  | some z =>
    rw [hs] at h
    cases z <;> first | rfl | cases h
theorem guard_bool (op : BinOp) (q q' : Bool) : rd P R (eqGuard op t x y (.bool q) (.bool q')) = some () := by
  unfold eqGuard; cases op <;> rfl
@[simp] theorem rBin_eql_bool (h : boIs P t = true) (q q' : Bool) : rBin P R .eql t x y (.bool q) (.bool q') = some (.value (.bool (q == q'))) :=
  rBin_eqnil _ _ _ (fun op => guard_bool op _ _) (equal_bool h q q') rfl
@[simp] theorem rBin_neq_bool (h : boIs P t = true) (q q' : Bool) : rBin P R .neq t x y (.bool q) (.bool q') = some (.value (.bool !(q == q'))) :=
  rBin_nenil _ _ _ (fun op => guard_bool op _ _) (equal_bool h q q') rfl
theorem guard_str (op : BinOp) (q q' : ByteArray) : rd P R (eqGuard op t x y (.string q) (.string q')) = some () := by
  unfold eqGuard; cases op <;> rfl
@[simp] theorem rBin_eql_str (q q' : ByteArray) : rBin P R .eql t x y (.string q) (.string q') = some (.value (.bool (q.toList == q'.toList))) := by
  unfold rBin; rw [rd_bind, guard_str]; rfl
@[simp] theorem rBin_neq_str (q q' : ByteArray) : rBin P R .neq t x y (.string q) (.string q') = some (.value (.bool !(q.toList == q'.toList))) := by
  unfold rBin; rw [rd_bind, guard_str]; rfl
end

/-! ### len, min, max -/
theorem exec_builtin (ρ : Operand → Value) (b : Builtin) (args : Array Operand) (ts : Array TypeId) :
    execOp ρ ⟨d, .call ⟨.builtin b, args, ts⟩, ty, p, af, g⟩ = builtin b ts ty (args.map fun | .const _ => true | _ => false) (args.map ρ) := rfl
theorem map1 (ρ : Operand → Value) (x : Operand) : (#[x].map ρ) = #[ρ x] := by simp
theorem map2 (ρ : Operand → Value) (x y : Operand) : (#[x, y].map ρ) = #[ρ x, ρ y] := by simp
def rLen (P : Program) (R : Hp) (t : TypeId) (v : Value) : Option Next := vl (rd P R (Builtin.len_ #[t] 0 #[v]))
@[simp] theorem rd_len (t : TypeId) (x : Operand) : rd P R (execOp e.ev ⟨d, .call ⟨.builtin .len, #[x], #[t]⟩, ty, p, af, g⟩) = rLen P R t (e.ev x) := by
  rw [exec_builtin, map1]
  exact rd_vl (Builtin.len_ #[t] ty #[e.ev x])
theorem rLen_slice {t : TypeId} (h : slIs P t = true) (a : Option Addr) (n c : Nat) : rLen P R t (.slice a n c) = some (.value (.int .i64 n)) := by
  obtain ⟨h1, h2⟩ := slIs_spec h
  unfold rLen Builtin.len_
  show vl (rd P R (underlying t >>= _)) = _
  rw [rd_bind, rd_underlying, h1]; rfl
def stIs (P : Program) (t : TypeId) : Bool := match P.underlying t with | some .string => true | _ => false
theorem rLen_string {t : TypeId} (h : stIs P t = true) (s : ByteArray) : rLen P R t (.string s) = some (.value (.int .i64 s.size)) := by
  unfold stIs at h
  unfold rLen Builtin.len_
  show vl (rd P R (underlying t >>= _)) = _
  rw [rd_bind, rd_underlying]
  cases hs : P.underlying t with
  | none => rw [hs] at h; cases h
  | some z =>
    rw [hs] at h
    cases z <;> first | rfl | cases h
def rMin (l : List Value) : Option Next := vl (rd default Hp.emp (Builtin.min_ #[] 0 l.toArray))
def rMax (l : List Value) : Option Next := vl (rd default Hp.emp (Builtin.max_ #[] 0 l.toArray))
@[simp] theorem rd_min2 (t u : TypeId) (x y : Operand) : rd P R (execOp e.ev ⟨d, .call ⟨.builtin .min, #[x, y], #[t, u]⟩, ty, p, af, g⟩) = vl (rd P R (Builtin.min_ #[t, u] ty #[e.ev x, e.ev y])) := by
  rw [exec_builtin, map2]
  exact rd_vl (Builtin.min_ #[t, u] ty #[e.ev x, e.ev y])
@[simp] theorem rd_max2 (t u : TypeId) (x y : Operand) : rd P R (execOp e.ev ⟨d, .call ⟨.builtin .max, #[x, y], #[t, u]⟩, ty, p, af, g⟩) = vl (rd P R (Builtin.max_ #[t, u] ty #[e.ev x, e.ev y])) := by
  rw [exec_builtin, map2]
  exact rd_vl (Builtin.max_ #[t, u] ty #[e.ev x, e.ev y])
@[simp] theorem min2_int (k : IntKind) (a b : Int) (ts : Array TypeId) (u : TypeId) : rd P R (Builtin.min_ ts u #[.int k a, .int k b]) = some (.int k (if b < a then b else a)) := (rfl)
@[simp] theorem max2_int (k : IntKind) (a b : Int) (ts : Array TypeId) (u : TypeId) : rd P R (Builtin.max_ ts u #[.int k a, .int k b]) = some (.int k (if b > a then b else a)) := (rfl)

/-! ### wpH and its monad -/
theorem wpH_bind {α β : Type} (x : Sem α) (f : α → Sem β) : ∀ {H : Hp} {K : β → Hp → Prop} {E : Value → Hp → Prop}, wpH P G (x >>= f) H K E = wpH P G x H (fun a H' => wpH P G (f a) H' K E) E := by
  show ∀ {H : Hp} {K : β → Hp → Prop} {E : Value → Hp → Prop}, wpH P G (Sem.bind x f) H K E = _
  induction x with
  | pure a => intro H K E; rfl
  | load m a k ih => intro H K E; simp only [Sem.bind, wpH, ih]
  | store m a v k ih => intro H K E; simp only [Sem.bind, wpH, ih]
  | new o k ih => intro H K E; simp only [Sem.bind, wpH, ih]
  | shape r k ih => intro H K E; simp only [Sem.bind, wpH, ih]
  | freeze a n k ih => intro H K E; simp only [Sem.bind, wpH, ih]
  | frozen a k ih => intro H K E; simp only [Sem.bind, wpH, ih]
  | getObj r k ih => intro H K E; simp only [Sem.bind, wpH, ih]
  | setObj r o k ih => intro H K E; simp only [Sem.bind, wpH, ih]
  | choose q k ih => intro H K E; simp only [Sem.bind, wpH, ih]
  | sys c k ih => intro H K E; rfl
  | program k ih => intro H K E; simp only [Sem.bind, wpH, ih]
  | mark m k ih => intro H K E; simp only [Sem.bind, wpH, ih]
  | halt h => intro H K E; cases h <;> rfl
/-- A store, cell by cell. -/
def Hp.st1 (H : Hp) (a : Addr) (v : Value) : Option Hp :=
  if v.oneCell' = true ∧ (H.cell a).isSome = true ∧ H.cold a = true then some (Hp.upd (Hp.setc a v) H a.block) else none
def Hp.stl (H : Hp) (a : Addr) (i : Nat) : List Value → Option Hp
  | [] => some H
  | v :: l => match H.st1 (a.add i) v with | none => none | some H' => Hp.stl H' a (i + 1) l
theorem wpH_store (a : Addr) (v : Value) {H : Hp} {K : Unit → Hp → Prop} {E : Value → Hp → Prop} : wpH P G (store a v) H K E = ∃ H', H.st1 a v = some H' ∧ K () H' := by
  refine propext ⟨?_, ?_⟩
  · rintro ⟨h1, ⟨old, h2⟩, h3, h4⟩
    exact ⟨_, by unfold Hp.st1; rw [if_pos ⟨h1, by rw [h2]; rfl, h3⟩], h4⟩
  · rintro ⟨H', h1, h2⟩
    unfold Hp.st1 at h1
    split at h1
    · rename_i hc
      cases h1
      exact ⟨hc.1, Option.isSome_iff_exists.1 hc.2.1, hc.2.2, h2⟩
    · cases h1
theorem wpH_storeCells (a : Addr) : ∀ (l : List Value) (i : Nat) {H : Hp} {K : Unit → Hp → Prop} {E : Value → Hp → Prop}, wpH P G (storeCells a l i) H K E = ∃ H', H.stl a i l = some H' ∧ K () H'
  | [], i, H, K, E => by simp [storeCells, Hp.stl]; rfl
  | v :: l, i, H, K, E => by
    unfold storeCells Hp.stl
    rw [wpH_bind, wpH_store]
    refine propext ⟨?_, ?_⟩
    · rintro ⟨H', h1, h2⟩
      rw [wpH_storeCells a l (i + 1)] at h2
      rw [h1]; exact h2
    · rintro ⟨H', h1, h2⟩
      cases h3 : H.st1 (a.add i) v with
      | none => rw [h3] at h1; cases h1
      | some H1 => rw [h3] at h1; exact ⟨H1, rfl, by rw [wpH_storeCells a l (i + 1)]; exact ⟨H', h1, h2⟩⟩
theorem wpH_of_rd {α : Type} {s : Sem α} {a : α} {H : Hp} {K : α → Hp → Prop} {E : Value → Hp → Prop} (hs : RO s) (h : rd P (H.un G) s = some a) : wpH P G s H K E = K a H := by
  refine propext ⟨?_, fun k => wpH_rd s h k⟩
  induction s with
  | pure b => intro k; cases h; exact k
  | load m x k ih =>
    rintro ⟨v, h1, h2⟩
    unfold rd at h; rw [h1] at h
    exact ih v (hs v) h h2
  | shape x k ih =>
    rintro ⟨v, h1, h2⟩
    unfold rd at h; rw [h1] at h
    exact ih _ (hs _) h h2
  | frozen x k ih =>
    rintro ⟨v, h1, h2⟩
    unfold rd at h; rw [h1] at h
    exact ih _ (hs _) h h2
  | getObj x k ih =>
    rintro ⟨v, h1, h3, h2⟩
    unfold rd at h; rw [h1] at h
    simp only [h3, Bool.false_eq_true, if_false] at h
    exact ih _ (hs _) h h2
  | program k ih => intro k'; exact ih _ (hs _) h k'
  | mark m k ih => intro k'; exact ih hs h k'
  | halt x => cases h
  | _ => exact hs.elim
theorem wpH_underlying {t : TypeId} {u : TypeDesc} {H : Hp} {K : TypeDesc → Hp → Prop} {E : Value → Hp → Prop} (h : P.underlying t = some u) : wpH P G (underlying t) H K E = K u H :=
  wpH_of_rd (RO.underlying t) (by rw [rd_underlying, h])
theorem wpH_typeInfo {t : TypeId} {u : TypeInfo} {H : Hp} {K : TypeInfo → Hp → Prop} {E : Value → Hp → Prop} (h : P.info? t = some u) : wpH P G (typeInfo t) H K E = K u H :=
  wpH_of_rd (RO.typeInfo t) (by rw [rd_typeInfo, h])
theorem wpH_sizeOf {t : TypeId} {n : Nat} {H : Hp} {K : Nat → Hp → Prop} {E : Value → Hp → Prop} (h : csz P t = some n) : wpH P G (sizeOf t) H K E = K n H := by
  unfold sizeOf csz at *
  cases hi : P.info? t with
  | none => rw [hi] at h; cases h
  | some i => rw [hi] at h; cases h; rw [wpH_bind, wpH_typeInfo hi]; rfl
theorem wpH_zeroValue {t : TypeId} {v : Value} {H : Hp} {K : Value → Hp → Prop} {E : Value → Hp → Prop} (h : zro P t = some v) : wpH P G (zeroValue t) H K E = K v H := by
  unfold zeroValue zro at *
  cases hi : P.info? t with
  | none => rw [hi] at h; cases h
  | some i =>
    rw [hi] at h
    rw [wpH_bind, wpH_typeInfo hi]
    simp only [Option.bind_some] at h
    rw [h]; rfl

/-! ### what writes -/
def opStore (P : Program) (G : Hp) (t : TypeId) (a v : Value) (H : Hp) (K : Value → Hp → Prop) : Prop := wpH P G (Instr.storeAt t a v) H (fun _ H' => K undef H') (fun _ _ => False)
@[simp] theorem opV_store (t : TypeId) (x y : Operand) {H : Hp} {K : Value → Hp → Prop} : opV P G (execOp e.ev ⟨d, .store t x y, ty, p, af, g⟩) H K = opStore P G t (e.ev x) (e.ev y) H K := by
  show wpH P G (do Instr.storeAt t (e.ev x) (e.ev y); pure Next.skip) H _ _ = _
  rw [wpH_bind]; rfl
theorem opStore_ptr {t : TypeId} (a : Addr) (v : Value) {H : Hp} {K : Value → Hp → Prop} :
    opStore P G t (.pointer (some a)) v H K = (csz P t = some v.cells.size ∧ St (H.stl a 0 v.cells.toList) (K undef)) := by
  unfold opStore Instr.storeAt
  rw [wpH_bind]
  show wpH P G (storeVar t a v) H _ _ = _
  unfold storeVar
  rw [wpH_bind]
  cases h : csz P t with
  | none =>
    refine propext ⟨fun k => ?_, fun k => by cases k.1⟩
    unfold sizeOf csz at *
    rw [wpH_bind] at k
    cases hi : P.info? t with
    | some i => rw [hi] at h; cases h
    | none =>
      unfold typeInfo at k
      rw [wpH_bind] at k
      have k : wpH P G (match P.info? t with | some i => pure i | none => stuck "no such type") H _ _ := k
      rw [hi] at k
      exact k.elim
  | some n =>
    rw [wpH_sizeOf h]
    by_cases hv : v.cells.size = n
    · rw [if_neg (by simpa using hv), hv]
      simp only [true_and]
      exact wpH_storeCells a _ 0
    · rw [if_pos hv]
      refine propext ⟨fun k => k.elim, fun k => ?_⟩
      have := k.1
      simp only [Option.some.injEq] at this
      exact absurd this.symm hv
theorem cells_int {k : IntKind} {n : Int} : (Value.int k n).cells = #[.int k n] := (rfl)
theorem cells_bool {n : Bool} : (Value.bool n).cells = #[.bool n] := (rfl)
theorem cells_string {n : ByteArray} : (Value.string n).cells = #[.string n] := (rfl)
theorem cells_pointer {n : Option Addr} : (Value.pointer n).cells = #[.pointer n] := (rfl)
theorem cells_slice {n : Option Addr} {l c : Nat} : (Value.slice n l c).cells = #[.slice n l c] := (rfl)
theorem cells_map {n : Option Nat} : (Value.map n).cells = #[.map n] := (rfl)
theorem cells_func {f : Fn} {a b : Array Value} : (Value.func f a b).cells = #[.func f a b] := (rfl)
theorem cells_nilFunc : Value.nilFunc.cells = #[.nilFunc] := (rfl)
theorem cells_iface {t : TypeId} {v : Value} : (Value.iface t v).cells = #[.iface t v] := (rfl)
theorem cells_agg {cs : Array Value} : (Value.agg cs).cells = cs := (rfl)
/-! ### what makes memory -/
/-- What goes on with a new block. -/
def nwK (K : Value → Hp → Prop) (H : Hp) (f : Nat → Value) (ob : Obj) (b : Nat) : Prop := K (f b) (H.set b ob)
theorem nwK_eq {K : Value → Hp → Prop} {H : Hp} {f : Nat → Value} {ob : Obj} {b : Nat} : nwK K H f ob b = K (f b) (H.set b ob) := (rfl)
@[simp] theorem opV_box (t : TypeId) (x : Operand) {H : Hp} {K : Value → Hp → Prop} : opV P G (execOp e.ev ⟨d, .box t x, ty, p, af, g⟩) H K = New H G (nwK K H (fun b => .pointer (some ⟨b, 0, none⟩)) (.cells (e.ev x).cells t (0, 0))) := (rfl)
theorem opV_alloc {t : TypeId} {z : Value} (h : zro P t = some z) {H : Hp} {K : Value → Hp → Prop} : opV P G (execOp e.ev ⟨d, .alloc t, ty, p, af, g⟩) H K = New H G fun b => K (.pointer (some ⟨b, 0, none⟩)) (H.set b (.cells z.cells t (0, 0))) := by
  show wpH P G (do pure (Next.value (← Instr.alloc t true (.tuple #[])))) H _ _ = _
  rw [wpH_bind]
  unfold Instr.alloc
  rw [wpH_bind, wpH_zeroValue h]
  rfl
@[simp] theorem opV_makeMap (t : TypeId) {H : Hp} {K : Value → Hp → Prop} : opV P G (execOp e.ev ⟨d, .makeMap t none, ty, p, af, g⟩) H K = New H G (nwK K H (fun b => .map (some b)) (.map #[] 0)) := (rfl)
@[simp] theorem nw_box (t : TypeId) (x : Operand) : nw P (execOp e.ev ⟨d, .box t x, ty, p, af, g⟩) = some (.cells (e.ev x).cells t (0, 0), fun b => some (.value (.pointer (some ⟨b, 0, none⟩)))) := (rfl)
@[simp] theorem nw_makeMap (t : TypeId) : nw P (execOp e.ev ⟨d, .makeMap t none, ty, p, af, g⟩) = some (.map #[] 0, fun b => some (.value (.map (some b)))) := (rfl)
/-! ### calls -/
def goes (P : Program) (k : FuncId) : Bool := match P.funcs[k]? with | some fn => !(fn.name == "runtime.NumGoroutine") && fn.body.isSome | none => false
theorem wpH_callFunc {k : FuncId} {args : Array Value} {H : Hp} {K : Next → Hp → Prop} {E : Value → Hp → Prop} (h : goes P k = true) : wpH P G (callFunc k args) H K E = K (.enter k args) H := by
  unfold goes at h
  unfold callFunc
  rw [wpH_bind]
  show wpH P G (match P.funcs[k]? with | none => _ | some fn => _) H K E = _
  cases hk : P.funcs[k]? with
  | none => rw [hk] at h; cases h
  | some fn =>
    rw [hk] at h
    simp only [Bool.and_eq_true, Bool.not_eq_true'] at h
    simp only [h.1, Bool.false_eq_true, if_false]
    have : fn.body.isNone = false := by cases hb : fn.body <;> simp_all
    simp only [this, Bool.false_eq_true, if_false]
    rfl
def opCall (P : Program) (G : Hp) (f : Value) (args : List Value) (H : Hp) (K : Value → Hp → Prop) : Prop :=
  match f with
  | .func (.func k) first cap => CallsH P G k (first ++ args.toArray ++ cap) H (retK K)
  | _ => False
theorem opV_call {f : Operand} {args : Array Operand} {ts : Array TypeId} {H : Hp} {K : Value → Hp → Prop} {k : FuncId} {first cap : Array Value} (hf : e.ev f = .func (.func k) first cap) (h : goes P k = true) :
    opV P G (execOp e.ev ⟨d, .call ⟨.value f, args, ts⟩, ty, p, af, g⟩) H K = opCall P G (.func (.func k) first cap) (args.toList.map e.ev) H K := by
  unfold opV
  show wpH P G (do let d ← resolve e.ev ⟨.value f, args, ts⟩ ty; invoke d.target d.args) H _ _ = _
  rw [wpH_bind]
  unfold resolve
  simp only [hf]
  show wpH P G (invoke (.fn (.func k) cap) (first ++ args.map e.ev)) H _ _ = _
  show wpH P G (callFunc k (first ++ args.map e.ev ++ cap)) H _ _ = _
  rw [wpH_callFunc h]
  unfold opCall
  have : args.map e.ev = (args.toList.map e.ev).toArray := by rw [← Array.toList_map]
  rw [this]
@[simp] theorem opV_callf {k : FuncId} (h : goes P k = true) {args : Array Operand} {ts : Array TypeId} {H : Hp} {K : Value → Hp → Prop} :
    opV P G (execOp e.ev ⟨d, .call ⟨.value (.func k), args, ts⟩, ty, p, af, g⟩) H K = CallsH P G k (args.toList.map e.ev).toArray H (retK K) := by
  rw [opV_call (k := k) (first := #[]) (cap := #[]) rfl h]
  unfold opCall
  simp
@[congr] theorem opStore_congr {t : TypeId} {a a' v v' : Value} {H : Hp} {K : Value → Hp → Prop} (h : a = a') (h' : v = v') : opStore P G t a v H K = opStore P G t a' v' H K := by rw [h, h']
/-- The append of the model's, by its slices. -/
def opAppend (P : Program) (G : Hp) (t u : TypeId) (s x : Value) (H : Hp) (K : Value → Hp → Prop) : Prop := wpH P G (Builtin.append_ #[t, u] t #[s, x]) H K (fun _ _ => False)
@[congr] theorem opAppend_congr {t u : TypeId} {a a' v v' : Value} {H : Hp} {K : Value → Hp → Prop} (h : a = a') (h' : v = v') : opAppend P G t u a v H K = opAppend P G t u a' v' H K := by rw [h, h']
@[simp] theorem opV_append (t u : TypeId) (x y : Operand) {H : Hp} {K : Value → Hp → Prop} : opV P G (execOp e.ev ⟨d, .call ⟨.builtin .append, #[x, y], #[t, u]⟩, ty, p, af, g⟩) H K = opAppend P G t u (e.ev x) (e.ev y) H K := by
  rw [exec_builtin, map2]
  show wpH P G (do pure (Next.value (← Builtin.append_ #[t, u] ty #[e.ev x, e.ev y]))) H _ _ = _
  rw [wpH_bind]; rfl
end
end Go.Sl
