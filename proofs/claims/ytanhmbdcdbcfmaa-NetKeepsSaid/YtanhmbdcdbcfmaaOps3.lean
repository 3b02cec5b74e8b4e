/- More operations: slices built, conversions. -/
import Derived.Test.YtanhmbdcdbcfmaaLoop
set_option linter.unusedVariables false
set_option linter.unusedSimpArgs false
namespace Go.Sl
open Go
section
variable {P : Program} {R G : Hp} {e : Env} {d : Option Tmp} {ty : TypeId} {p : String} {af : Array Edge} {g : Option (Nat × Bool)}
theorem flatC_nil : flatC [] = [] := (rfl)
theorem flatC_cons {j : Nat} {v : Value} {r : List (Nat × Value)} : flatC ((j, v) :: r) = v.cells.toList ++ flatC r := (rfl)
def nwB (P : Program) (t : TypeId) (n : Nat) (ps : List (Nat × Value)) : Option (Obj × (Nat → Option Next)) := nw P (do pure (Next.value (← Instr.buildSlice t n ps.toArray)))
theorem nw_buildSlice (t : TypeId) (n : Nat) (ps : List (Nat × Operand)) : nw P (execOp e.ev ⟨d, .buildSlice t n ps.toArray, ty, p, af, g⟩) = nwB P t n (ps.map fun q => (q.1, e.ev q.2)) := by
  show nw P (do pure (Next.value (← Instr.buildSlice t n (ps.toArray.map fun (i, x) => (i, e.ev x))))) = _
  unfold nwB
  congr 3
  simp
def opB (P : Program) (G : Hp) (t : TypeId) (n : Nat) (ps : List (Nat × Value)) (H : Hp) (K : Value → Hp → Prop) : Prop := wpH P G (Instr.buildSlice t n ps.toArray) H K (fun _ _ => False)
@[congr] theorem opB_congr {t : TypeId} {n : Nat} {ps ps' : List (Nat × Value)} {H : Hp} {K : Value → Hp → Prop} (h : ps = ps') : opB P G t n ps H K = opB P G t n ps' H K := by rw [h]
theorem opV_buildSlice (t : TypeId) (n : Nat) (ps : List (Nat × Operand)) {H : Hp} {K : Value → Hp → Prop} :
    opV P G (execOp e.ev ⟨d, .buildSlice t n ps.toArray, ty, p, af, g⟩) H K = opB P G t n (ps.map fun q => (q.1, e.ev q.2)) H K := by
  show wpH P G (do pure (Next.value (← Instr.buildSlice t n (ps.toArray.map fun (i, x) => (i, e.ev x))))) H _ _ = _
  rw [wpH_bind]
  unfold opB
  have : (ps.toArray.map fun (i, x) => (i, e.ev x)) = (ps.map fun q => (q.1, e.ev q.2)).toArray := by simp
  rw [this]
  rfl
theorem sizeOf_eq {t : TypeId} {n : Nat} (h : csz P t = some n) : ∃ i, P.info? t = some i ∧ i.size = n := by
  unfold csz at h
  cases hi : P.info? t with
  | none => rw [hi] at h; cases h
  | some i => rw [hi] at h; exact ⟨i, rfl, by simpa using h⟩
theorem bldS {t : TypeId} {n : Nat} {ps : List (Nat × Value)} (h : (apI P t).isSome = true) (h1 : Nat.ble (n * slSz P t) 16777216 = true) (h2 : fullB (slSz P t) 0 ps = some n) :
    slIs P t = true ∧ (∃ z, zro P (slEl P t) = some z) ∧ ∀ zero : Array Value, Instr.fill (fun i => some (i * slSz P t, slSz P t)) ((Array.range (n * slSz P t)).map (zero[· % zero.size]!)) ps = some (flatC ps).toArray := by
  obtain ⟨⟨e', sz, nb⟩, ha⟩ := Option.isSome_iff_exists.1 h
  obtain ⟨i, z, a1, a2, a3, a4, rfl, a6, a7, a8, a9⟩ := apI_spec ha
  have e1 : slEl P t = e' := by unfold slEl; rw [a1]
  have e2 : csz P e' = some sz := by unfold csz; rw [a2]; simp [a4]
  have e3 : slSz P t = sz := by unfold slSz; rw [a1]; simp [e2]
  refine ⟨by unfold slIs; rw [a1]; simp [e2], ⟨z, by rw [e1]; unfold zro; rw [a2]; simp [a3]⟩, fun zero => ?_⟩
  rw [fill_full ps h2 (by simp)]
  simp
theorem opB_full {t : TypeId} {n : Nat} {ps : List (Nat × Value)} {H : Hp} {K : Value → Hp → Prop} (h : (apI P t).isSome = true) (h1 : Nat.ble (n * slSz P t) 16777216 = true) (h2 : fullB (slSz P t) 0 ps = some n) :
    opB P G t n ps H K = New H G (nwK K H (fun b => .slice (some ⟨b, 0, none⟩) n n) (.cells (flatC ps).toArray (slEl P t) (0, 0))) := by
  obtain ⟨q1, ⟨z, q2⟩, q3⟩ := bldS h h1 h2
  obtain ⟨q4, q5⟩ := slIs_spec q1
  unfold opB Instr.buildSlice
  rw [wpH_bind, wpH_underlying q4]
  try simp only []
  rw [wpH_bind, wpH_sizeOf q5]
  rw [if_neg (by have := Nat.le_of_ble_eq_true h1; omega)]
  by_cases hz : n * slSz P t = 0
  · rw [if_pos hz]
    simp only [pure_bind]
    rw [q3]
    rfl
  · rw [if_neg hz]
    simp only [bind_assoc, pure_bind]
    rw [wpH_bind, wpH_zeroValue q2]
    rw [q3]
    rfl
/-- Of the program alone. -/
def PO {α : Type} : Sem α → Prop
  | .pure _ => True
  | .program k => ∀ v, PO (k v)
  | .mark _ k => PO k
  | .halt _ => True
  | _ => False
theorem PO.nw {α β : Type} (s : Sem α) (f : α → Sem β) {a : α} : PO s → rd P R s = some a → Go.Sl.nw P (s >>= f) = Go.Sl.nw P (f a) := by
  show PO s → _ → Go.Sl.nw P (Sem.bind s f) = _
  induction s with
  | pure b => intro _ h; cases h; rfl
  | program k ih => intro hs h; exact ih _ (hs _) h
  | mark m k ih => intro hs h; exact ih hs h
  | halt x => intro _ h; cases h
  | _ => intro hs; exact hs.elim
theorem PO.bind {α β : Type} (s : Sem α) (f : α → Sem β) : PO s → (∀ a, PO (f a)) → PO (s >>= f) := by
  show PO s → _ → PO (Sem.bind s f)
  induction s with
  | pure a => intro _ h; exact h a
  | program k ih => intro hs h v; exact ih v (hs v) h
  | mark m k ih => intro hs h; exact ih hs h
  | halt x => intro _ _; trivial
  | _ => intro hs; exact hs.elim
theorem PO.typeInfo (t : TypeId) : PO (typeInfo t) := by
  unfold Go.typeInfo
  refine PO.bind _ _ (fun _ => trivial) fun p => ?_
  split <;> trivial
theorem PO.underlying (t : TypeId) : PO (underlying t) := by
  unfold Go.underlying
  refine PO.bind _ _ (fun _ => trivial) fun p => ?_
  split <;> trivial
theorem PO.sizeOf (t : TypeId) : PO (sizeOf t) := PO.bind _ _ (PO.typeInfo t) fun _ => trivial
theorem PO.zeroValue (t : TypeId) : PO (zeroValue t) := PO.bind _ _ (PO.typeInfo t) fun i => by cases i.zero <;> trivial
theorem nwB_full {t : TypeId} {n : Nat} {ps : List (Nat × Value)} (h : (apI P t).isSome = true) (h1 : Nat.ble (n * slSz P t) 16777216 = true) (h2 : fullB (slSz P t) 0 ps = some n) :
    nwB P t n ps = some (.cells (flatC ps).toArray (slEl P t) (0, 0), fun b => some (.value (.slice (some ⟨b, 0, none⟩) n n))) := by
  obtain ⟨q1, ⟨z, q2⟩, q3⟩ := bldS h h1 h2
  obtain ⟨q4, q5⟩ := slIs_spec q1
  unfold nwB Instr.buildSlice
  simp only [bind_assoc]
  rw [PO.nw (R := Hp.emp) _ _ (PO.underlying t) (by rw [rd_underlying, q4])]
  simp only [bind_assoc]
  rw [PO.nw (R := Hp.emp) _ _ (PO.sizeOf _) (by rw [rd_sizeOf, q5])]
  rw [if_neg (by have := Nat.le_of_ble_eq_true h1; omega)]
  by_cases hz : n * slSz P t = 0
  · rw [if_pos hz]
    simp only [pure_bind]
    rw [q3]
    rfl
  · rw [if_neg hz]
    simp only [bind_assoc, pure_bind]
    rw [PO.nw (R := Hp.emp) _ _ (PO.zeroValue _) (by rw [rd_zeroValue, q2])]
    rw [q3]
    rfl
/-! ### a variable -/
def opAl (o : Option Value) (t : TypeId) (H G : Hp) (K : Value → Hp → Prop) : Prop := match o with | some z => New H G fun b => K (.pointer (some ⟨b, 0, none⟩)) (H.set b (.cells z.cells t (0, 0))) | none => False
@[congr] theorem opAl_congr {o o' : Option Value} {t : TypeId} {H G : Hp} {K : Value → Hp → Prop} (h : o = o') : opAl o t H G K = opAl o' t H G K := by rw [h]
theorem opAl_some {z : Value} {t : TypeId} {H G : Hp} {K : Value → Hp → Prop} : opAl (some z) t H G K = New H G (nwK K H (fun b => .pointer (some ⟨b, 0, none⟩)) (.cells z.cells t (0, 0))) := (rfl)
theorem opV_allocS {t : TypeId} {H : Hp} {K : Value → Hp → Prop} : opV P G (execOp e.ev ⟨d, .alloc t, ty, p, af, g⟩) H K = opAl (zro P t) t H G K := by
  cases h : zro P t with
  | some z => rw [opV_alloc h]; rfl
  | none =>
    show wpH P G (do pure (Next.value (← Instr.alloc t true (.tuple #[])))) H _ _ = False
    rw [wpH_bind]
    unfold Instr.alloc
    rw [wpH_bind]
    unfold zeroValue
    rw [wpH_bind]
    unfold typeInfo
    rw [wpH_bind]
    unfold zro at h
    show wpH P G (match P.info? t with | some i => pure i | none => stuck "no such type") H _ _ = False
    cases hi : P.info? t with
    | none => rfl
    | some i =>
      rw [hi] at h
      show wpH P G (match i.zero with | some v => pure v | none => unsupported (.resourceLimit "a value of more than 2^22 cells")) H _ _ = False
      cases hz : i.zero with
      | none => rfl
      | some v => simp [hz] at h
def nwAl (o : Option Value) (t : TypeId) : Option (Obj × (Nat → Option Next)) := match o with | some z => some (.cells z.cells t (0, 0), fun b => some (.value (.pointer (some ⟨b, 0, none⟩)))) | none => none
theorem nwAl_some {z : Value} {t : TypeId} : nwAl (some z) t = some (.cells z.cells t (0, 0), fun b => some (.value (.pointer (some ⟨b, 0, none⟩)))) := (rfl)
theorem nw_allocS {t : TypeId} {z : Value} (h : zro P t = some z) : nw P (execOp e.ev ⟨d, .alloc t, ty, p, af, g⟩) = some (.cells z.cells t (0, 0), fun b => some (.value (.pointer (some ⟨b, 0, none⟩)))) := by
  show nw P (do pure (Next.value (← Instr.alloc t true (.tuple #[])))) = _
  unfold Instr.alloc
  simp only [bind_assoc]
  rw [PO.nw (R := Hp.emp) _ _ (PO.zeroValue _) (by rw [rd_zeroValue, h])]
  rfl
theorem nw_alloc' {t : TypeId} (h : (zro P t).isSome = true) : nw P (execOp e.ev ⟨d, .alloc t, ty, p, af, g⟩) = nwAl (zro P t) t := by
  obtain ⟨z, hz⟩ := Option.isSome_iff_exists.1 h
  rw [nw_allocS hz, hz]; rfl
/-! ### conversions -/
theorem inIs_eq {t : TypeId} (h : (inIs P t).isSome = true) : ∃ k, P.underlying t = some (.int k) ∧ inIs P t = some k := by
  unfold inIs at h ⊢
  split at h
  · rename_i k hk; exact ⟨k, hk, rfl⟩
  · cases h
theorem stIs_eq {t : TypeId} (h : stIs P t = true) : P.underlying t = some .string := by
  unfold stIs at h
  split at h
  · rename_i hk; exact hk
  · cases h
def rConv (P : Program) (R : Hp) (s t : TypeId) (v : Value) : Option Next := vl (rd P R (convert s t v))
theorem rd_convert (s t : TypeId) (x : Operand) : rd P R (execOp e.ev ⟨d, .convert s t x, ty, p, af, g⟩) = rConv P R s t (e.ev x) := by
  show rd P R (do pure (Next.value (← convert s t (e.ev x)))) = _
  exact rd_vl _
def opConv (P : Program) (G : Hp) (s t : TypeId) (v : Value) (H : Hp) (K : Value → Hp → Prop) : Prop := wpH P G (convert s t v) H K (fun _ _ => False)
@[congr] theorem opConv_congr {s t : TypeId} {v v' : Value} {H : Hp} {K : Value → Hp → Prop} (h : v = v') : opConv P G s t v H K = opConv P G s t v' H K := by rw [h]
theorem opV_convert (s t : TypeId) (x : Operand) {H : Hp} {K : Value → Hp → Prop} : opV P G (execOp e.ev ⟨d, .convert s t x, ty, p, af, g⟩) H K = opConv P G s t (e.ev x) H K := by
  show wpH P G (do pure (Next.value (← convert s t (e.ev x)))) H _ _ = _
  rw [wpH_bind]; rfl
def exK (K : Value → Hp → Prop) (H : Hp) (v : Value) : Prop := K v H
theorem exK_eq {K : Value → Hp → Prop} {H : Hp} {v : Value} : exK K H v = K v H := (rfl)
def rcI (o : Option IntKind) (n : Int) : Option Next := match o with | some k => some (.value (.int k (k.wrap n))) | none => none
theorem rcI_some {k : IntKind} {n : Int} : rcI (some k) n = some (.value (.int k (k.wrap n))) := (rfl)
theorem rConv_int {s t : TypeId} {k : IntKind} {n : Int} (h : (inIs P s).isSome = true) (h' : (inIs P t).isSome = true) : rConv P R s t (.int k n) = rcI (inIs P t) n := by
  obtain ⟨k1, a1, a2⟩ := inIs_eq h
  obtain ⟨k2, b1, b2⟩ := inIs_eq h'
  unfold rConv convert
  rw [rd_bind, rd_underlying, a1]
  simp only [Option.bind_some]
  rw [rd_bind, rd_underlying, b1, b2]
  rfl
theorem opConv_int {s t : TypeId} {k : IntKind} {n : Int} (h : (inIs P s).isSome = true) (h' : (inIs P t).isSome = true) {H : Hp} {K : Value → Hp → Prop} :
    opConv P G s t (.int k n) H K = Ex (rcI (inIs P t) n) (exK K H) := by
  obtain ⟨k1, a1, a2⟩ := inIs_eq h
  obtain ⟨k2, b1, b2⟩ := inIs_eq h'
  unfold opConv convert
  rw [wpH_bind, wpH_underlying a1]
  try simp only []
  rw [wpH_bind, wpH_underlying b1, b2]
  simp only [rcI, Ex_some]
  rfl
theorem rConv_str {s t : TypeId} {q : ByteArray} (h : stIs P s = true) (h' : stIs P t = true) : rConv P R s t (.string q) = some (.value (.string q)) := by
  unfold rConv convert
  rw [rd_bind, rd_underlying, stIs_eq h]
  simp only [Option.bind_some]
  rw [rd_bind, rd_underlying, stIs_eq h']
  rfl
theorem opConv_str {s t : TypeId} {q : ByteArray} (h : stIs P s = true) (h' : stIs P t = true) {H : Hp} {K : Value → Hp → Prop} : opConv P G s t (.string q) H K = K (.string q) H := by
  unfold opConv convert
  rw [wpH_bind, wpH_underlying (stIs_eq h)]
  try simp only []
  rw [wpH_bind, wpH_underlying (stIs_eq h')]
  rfl
/-- A slice of bytes. -/
def bySl (P : Program) (t : TypeId) : Bool := match P.underlying t with | some (.slice e) => (match P.underlying e with | some (.int .u8) => true | _ => false) | _ => false
theorem bySl_eq {t : TypeId} (h : bySl P t = true) : ∃ e, P.underlying t = some (.slice e) ∧ P.underlying e = some (.int .u8) := by
  unfold bySl at h
  split at h
  · rename_i e' he
    split at h
    · rename_i h2; exact ⟨e', he, h2⟩
    · cases h
  · cases h
def rStr (P : Program) (R : Hp) (v : Value) : Option Next := vl (rd P R (Conv.bytesToString v))
theorem rConv_bs {s t : TypeId} {a : Option Addr} {n c : Nat} (h : bySl P s = true) (h' : stIs P t = true) : rConv P R s t (.slice a n c) = rStr P R (.slice a n c) := by
  obtain ⟨e', h1, h2⟩ := bySl_eq h
  unfold rConv convert rStr
  rw [rd_bind, rd_underlying, h1]
  simp only [Option.bind_some]
  rw [rd_bind, rd_underlying, stIs_eq h']
  simp only [Option.bind_some]
  rw [rd_bind, rd_underlying, h2]
  rfl
def bs (l : List UInt8) : ByteArray := ⟨l.toArray⟩
theorem strLoop (l : List UInt8) : ∀ (s : ByteArray), rd P R (forIn (l.map fun c => Value.int .u8 c.toNat) s (fun c r => do
      let .int .u8 n := c | stuck "bytesToString: byte expected"
      pure (ForInStep.yield (r.push (UInt8.ofNat n.toNat))))) = some ⟨s.data ++ l.toArray⟩ := by
  induction l with
  | nil => intro s; simp
  | cons c l ih =>
    intro s
    simp only [List.map_cons, List.forIn_cons, pure_bind]
    rw [ih]
    congr 1
    have : UInt8.ofNat ((c.toNat : Int).toNat) = c := by simp
    rw [this]
    show (⟨(s.push c).data ++ l.toArray⟩ : ByteArray) = ⟨s.data ++ (c :: l).toArray⟩
    congr 1
    show s.data.push c ++ l.toArray = _
    simp
theorem rStr_of {v : Value} {l : List UInt8} (h : rds R 1 v (bv l)) : rStr P R v = some (.value (.string (bs l))) := by
  obtain ⟨a, n, c, rfl, h2, h3, h4⟩ := h
  unfold rStr Conv.bytesToString
  rcases h4 with h4 | ⟨b, off, rfl, h5⟩
  · have : l = [] := by simpa [bv] using h4
    subst this
    have hn : n = 0 := by simpa [bv] using h2.symm
    subst hn
    cases a with
    | none => rfl
    | some a => rfl
  · simp only
    unfold loadCells
    rw [rd_bind, rd_loadCellsFrom]
    have hn : n = (bv l).length := by omega
    rw [hn, ldl_of h5 (bv l).length 0 (by omega)]
    simp only [List.drop_zero, List.take_length, Option.map_some, Option.bind_some, Array.empty_append, Array.forIn_toList.symm]
    rw [rd_bind]
    have q := strLoop (P := P) (R := R) l ByteArray.empty
    have e1 : (⟨ByteArray.empty.data ++ l.toArray⟩ : ByteArray) = bs l := by
      unfold bs; congr 1; simp
    rw [e1] at q
    exact congrArg (fun o => vl (Option.bind o fun s => rd P R (pure (Value.string s)))) q
theorem bs_toList (l : List UInt8) : (bs l).toList = l := by
  have go : ∀ (k : Nat) (m : List UInt8) (i : Nat) (r : List UInt8), l = m ++ r → m.length = i → r.length = k → ∀ acc, ByteArray.toList.loop (bs l) i acc = acc.reverse ++ r := by
    intro k
    induction k with
    | zero =>
      intro m i r h hi hr acc
      have : r = [] := List.eq_nil_of_length_eq_zero hr
      subst this
      unfold ByteArray.toList.loop
      rw [if_neg (by show ¬ i < l.length; rw [h]; simp; omega)]
      simp
    | succ k ih =>
      intro m i r h hi hr acc
      cases r with
      | nil => cases hr
      | cons c r =>
        unfold ByteArray.toList.loop
        have hlt : i < l.length := by rw [h]; simp; omega
        rw [if_pos (show i < (bs l).size from hlt)]
        have hg : (bs l).get! i = c := by
          show (l.toArray)[i]! = c
          rw [getElem!_pos _ _ (by simpa using hlt)]
          simp only [List.getElem_toArray, h]
          rw [List.getElem_append_right (by omega)]
          simp [hi]
        rw [hg, ih (m ++ [c]) (i + 1) r (by simp [h]) (by simp; omega) (by simpa using hr)]
        simp
  have := go l.length [] 0 l rfl rfl rfl []
  simpa [ByteArray.toList] using this
theorem mk_toList (l : List UInt8) : (ByteArray.mk l.toArray).toList = l := bs_toList l
theorem mk_size (l : List UInt8) : (ByteArray.mk l.toArray).size = l.length := (rfl)
theorem bs_size (l : List UInt8) : (bs l).size = l.length := (rfl)
theorem RO.forIn {α β : Type} (f : α → β → Sem (ForInStep β)) (hf : ∀ a b, RO (f a b)) (l : List α) : ∀ b, RO (forIn l b f) := by
  induction l with
  | nil => intro b; exact trivial
  | cons a l ih =>
    intro b
    rw [List.forIn_cons]
    refine RO.bind _ _ (hf a b) fun r => ?_
    cases r with
    | done b => trivial
    | yield b => exact ih b
theorem RO.bytesToString (v : Value) : RO (Conv.bytesToString v) := by
  unfold Conv.bytesToString
  split
  · trivial
  · unfold loadCells
    refine RO.bind _ _ (RO.loadCellsFrom _ _ _ _) fun cs => RO.bind _ _ ?_ fun _ => trivial
    rw [← Array.forIn_toList]
    refine RO.forIn _ (fun a b => ?_) _ _
    split <;> trivial
  · trivial
theorem wpH_RO {α : Type} (s : Sem α) {H : Hp} {K : α → Hp → Prop} (hs : RO s) : wpH P G s H K (fun _ _ => False) = ∃ a, rd P (H.un G) s = some a ∧ K a H := by
  refine propext ⟨?_, fun ⟨a, h, k⟩ => wpH_rd s h k⟩
  induction s with
  | pure b => intro k; exact ⟨b, rfl, k⟩
  | load m x k ih =>
    rintro ⟨v, h1, h2⟩
    obtain ⟨a, q1, q2⟩ := ih v (hs v) h2
    exact ⟨a, by unfold rd; rw [h1]; exact q1, q2⟩
  | shape x k ih =>
    rintro ⟨v, h1, h2⟩
    obtain ⟨a, q1, q2⟩ := ih _ (hs _) h2
    exact ⟨a, by unfold rd; rw [h1]; exact q1, q2⟩
  | frozen x k ih =>
    rintro ⟨v, h1, h2⟩
    obtain ⟨a, q1, q2⟩ := ih _ (hs _) h2
    exact ⟨a, by unfold rd; rw [h1]; exact q1, q2⟩
  | getObj x k ih =>
    rintro ⟨v, h1, h3, h2⟩
    obtain ⟨a, q1, q2⟩ := ih _ (hs _) h2
    exact ⟨a, by unfold rd; rw [h1]; simp only [h3]; exact q1, q2⟩
  | program k ih => intro k'; exact ih _ (hs _) k'
  | mark m k ih => intro k'; exact ih hs k'
  | halt x =>
    intro k
    cases x <;> exact k.elim
  | _ => exact hs.elim
theorem opConv_bs {s t : TypeId} {a : Option Addr} {n c : Nat} (h : bySl P s = true) (h' : stIs P t = true) {H : Hp} {K : Value → Hp → Prop} :
    opConv P G s t (.slice a n c) H K = Ex (rStr P (H.un G) (.slice a n c)) (exK K H) := by
  obtain ⟨e', h1, h2⟩ := bySl_eq h
  unfold opConv convert rStr
  rw [wpH_bind, wpH_underlying h1]
  try simp only []
  rw [wpH_bind, wpH_underlying (stIs_eq h')]
  try simp only []
  rw [wpH_bind, wpH_underlying h2]
  show wpH P G (Conv.bytesToString _) H K _ = _
  rw [wpH_RO _ (RO.bytesToString _)]
  unfold Ex exK
  cases rd P (H.un G) (Conv.bytesToString (.slice a n c)) with
  | none => simp
  | some v => simp
end
end Go.Sl
