/- Structs and arrays that are compared, cell by cell. -/
import Derived.Test.YtanhmbdcdbcfmaaOps3
set_option linter.unusedVariables false
set_option linter.unusedSimpArgs false
namespace Go.Sl
open Go
/-- What a cell is that may be compared: a bool, a number, a string. -/
inductive CK
  | b | i | s
def eqFs (sz : TypeId → Option Nat) (g : TypeId → Option (List CK)) : List Field → Nat → Option (List CK)
  | [], _ => some []
  | f :: fs, off => if f.name = "_" ∨ f.offset ≠ off then none else
    match g f.type, sz f.type with
    | some a, some n => if a.length = n then (eqFs sz g fs (off + n)).map (a ++ ·) else none
    | _, _ => none
def eqk (P : Program) : Nat → TypeId → Option (List CK)
  | 0, _ => none
  | d + 1, t => match P.underlying t with
    | some .bool => some [.b]
    | some (.int _) => some [.i]
    | some .string => some [.s]
    | some (.struct fs) => if P.stoodInHeld t then none else eqFs (csz P) (eqk P d) fs.toList 0
    | some (.array n e) => match eqk P d e, csz P e with
      | some a, some m => if a.length = m then some (List.replicate n a).flatten else none
      | _, _ => none
    | _ => none
/-- A type's cells, if its values are compared cell by cell. -/
def eqF (P : Program) (t : TypeId) : Option (List CK) := if P.eqGuardType P.depth t then none else match aggN P t with | some (some _) => eqk P 20 t | _ => none
def ckq : CK → Value → Value → Option Bool
  | .b, .bool a, .bool c => some (a == c)
  | .i, .int k a, .int k' c => if k = k' then some (a == c) else none
  | .s, .string a, .string c => some (a.toList == c.toList)
  | _, _, _ => none
def eqL : List CK → List Value → List Value → Option Bool
  | [], [], [] => some true
  | k :: ks, x :: xs, y :: ys => match ckq k x y with
    | some b => (eqL ks xs ys).map fun r => b && r
    | none => none
  | _, _, _ => none
theorem eqL_nil : eqL [] [] [] = some true := (rfl)
theorem eqL_b {ks : List CK} {a c : Bool} {xs ys : List Value} : eqL (.b :: ks) (.bool a :: xs) (.bool c :: ys) = (eqL ks xs ys).map fun r => (a == c) && r := (rfl)
theorem eqL_i {ks : List CK} {k : IntKind} {a c : Int} {xs ys : List Value} : eqL (.i :: ks) (.int k a :: xs) (.int k c :: ys) = (eqL ks xs ys).map fun r => (a == c) && r := by
  have : ckq .i (.int k a) (.int k c) = some (a == c) := by
    show (if k = k then _ else _) = _
    rw [if_pos rfl]
  show (match ckq .i (.int k a) (.int k c) with
    | some b => (eqL ks xs ys).map fun r => b && r
    | none => none) = _
  rw [this]
theorem eqL_s {ks : List CK} {a c : ByteArray} {xs ys : List Value} : eqL (.s :: ks) (.string a :: xs) (.string c :: ys) = (eqL ks xs ys).map fun r => (a.toList == c.toList) && r := (rfl)
theorem eqL_uncons {k : CK} {ks : List CK} {xs ys : List Value} {r : Bool} (h : eqL (k :: ks) xs ys = some r) : ∃ x xs' y ys' b r', xs = x :: xs' ∧ ys = y :: ys' ∧ ckq k x y = some b ∧ eqL ks xs' ys' = some r' ∧ r = (b && r') := by
  cases xs with
  | nil => cases h
  | cons x xs =>
    cases ys with
    | nil => cases h
    | cons y ys =>
      unfold eqL at h
      cases hq : ckq k x y with
      | none => rw [hq] at h; cases h
      | some b =>
        rw [hq] at h
        simp only [Option.map_eq_some_iff] at h
        obtain ⟨r', h1, rfl⟩ := h
        exact ⟨x, xs, y, ys, b, r', rfl, rfl, hq, h1, rfl⟩
theorem eqL_nil_inv {xs ys : List Value} {r : Bool} (h : eqL [] xs ys = some r) : xs = [] ∧ ys = [] ∧ r = true := by
  cases xs with
  | nil => cases ys with
    | nil => cases h; exact ⟨rfl, rfl, rfl⟩
    | cons y ys => cases h
  | cons x xs => cases h
theorem eqL_cut : ∀ {a ks : List CK} {xs ys : List Value} {r : Bool}, eqL (a ++ ks) xs ys = some r →
    ∃ r1 r2, eqL a (xs.take a.length) (ys.take a.length) = some r1 ∧ eqL ks (xs.drop a.length) (ys.drop a.length) = some r2 ∧ r = (r1 && r2) := by
  intro a
  induction a with
  | nil => intro ks xs ys r h; exact ⟨true, r, by simp [eqL], by simpa using h, by simp⟩
  | cons c a ih =>
    intro ks xs ys r h
    obtain ⟨x, xs, y, ys, b, r', rfl, rfl, hq, h1, rfl⟩ := eqL_uncons h
    obtain ⟨r1, r2, g1, g2, rfl⟩ := ih h1
    exact ⟨b && r1, r2, by simp [eqL, g1, hq], by simpa using g2, by simp [Bool.and_assoc]⟩
theorem eqL_len : ∀ {ks : List CK} {xs ys : List Value} {r : Bool}, eqL ks xs ys = some r → xs.length = ks.length ∧ ys.length = ks.length := by
  intro ks
  induction ks with
  | nil => intro xs ys r h; obtain ⟨rfl, rfl, _⟩ := eqL_nil_inv h; exact ⟨rfl, rfl⟩
  | cons k ks ih =>
    intro xs ys r h
    obtain ⟨x, xs, y, ys, b, r', rfl, rfl, hq, h1, rfl⟩ := eqL_uncons h
    have := ih h1
    simp [this.1, this.2]
def shp (P : Program) (t : TypeId) (xs : List Value) : Option Value := match aggN P t with | some (some _) => some (.agg xs.toArray) | some none => xs.head? | none => none
theorem ba_eq {a c : ByteArray} : (a == c) = (a.toList == c.toList) := by
  have h : ∀ x : ByteArray, x = bs x.data.toList := fun x => rfl
  rw [h a, h c, bs_toList, bs_toList]
  show (a.data == c.data) = _
  rw [Bool.eq_iff_iff]
  simp only [beq_iff_eq]
  constructor
  · intro e; rw [e]
  · intro e
    cases a; cases c
    simp only at e
    exact Array.toList_inj.1 e
theorem eqL_b1 {xs ys : List Value} {r : Bool} (h : eqL [.b] xs ys = some r) : ∃ a c, xs = [.bool a] ∧ ys = [.bool c] ∧ r = (a == c) := by
  obtain ⟨x, xs, y, ys, b, r', rfl, rfl, hq, h1, rfl⟩ := eqL_uncons h
  obtain ⟨rfl, rfl, rfl⟩ := eqL_nil_inv h1
  cases x <;> cases y <;> first | (cases hq; exact ⟨_, _, rfl, rfl, by simp⟩) | cases hq
theorem eqL_s1 {xs ys : List Value} {r : Bool} (h : eqL [.s] xs ys = some r) : ∃ a c, xs = [.string a] ∧ ys = [.string c] ∧ r = (a.toList == c.toList) := by
  obtain ⟨x, xs, y, ys, b, r', rfl, rfl, hq, h1, rfl⟩ := eqL_uncons h
  obtain ⟨rfl, rfl, rfl⟩ := eqL_nil_inv h1
  cases x <;> cases y <;> first | (cases hq; exact ⟨_, _, rfl, rfl, by simp⟩) | cases hq
theorem eqL_i1 {xs ys : List Value} {r : Bool} (h : eqL [.i] xs ys = some r) : ∃ k a c, xs = [.int k a] ∧ ys = [.int k c] ∧ r = (a == c) := by
  obtain ⟨x, xs, y, ys, b, r', rfl, rfl, hq, h1, rfl⟩ := eqL_uncons h
  obtain ⟨rfl, rfl, rfl⟩ := eqL_nil_inv h1
  cases x with
  | int k a =>
    cases y with
    | int k' c =>
      replace hq : (if k = k' then some (a == c) else none) = some b := hq
      by_cases hk : k = k'
      · rw [if_pos hk] at hq; have hb := Option.some.inj hq; subst hk; exact ⟨_, _, _, rfl, rfl, by rw [← hb]; simp⟩
      · rw [if_neg hk] at hq; cases hq
    | _ => cases hq
  | _ => cases hq
section
variable {P : Program} {R G : Hp} {e : Env} {d : Option Tmp} {ty : TypeId} {p : String} {af : Array Edge} {g : Option (Nat × Bool)}
theorem eqk_leaf {n : Nat} {t : TypeId} {a : List CK} (h : eqk P n t = some a) (hl : aggN P t = some none) : a.length = 1 := by
  cases n with
  | zero => cases h
  | succ n =>
    unfold eqk at h
    unfold aggN at hl
    cases ht : P.underlying t with
    | none => rw [ht] at hl; cases hl
    | some T =>
      rw [ht] at h hl
      cases T <;> first
        | (cases h; rfl)
        | (cases h; done)
        | (simp only [Option.map_eq_some_iff] at hl; obtain ⟨_, _, q⟩ := hl; cases q)
theorem prt_shp {t : TypeId} {xs : List Value} {off n : Nat} (h : csz P t = some n) (hn : aggN P t = some none → n = 1) : prt P t xs.toArray off = shp P t ((xs.drop off).take n) := by
  rw [prt_eq]
  unfold shp
  cases ha : aggN P t with
  | none => rfl
  | some o =>
    cases o with
    | none =>
      rw [prA_one, hn ha]
      simp only [List.getElem?_toArray]
      rw [List.head?_take, if_neg (by decide), List.head?_drop]
    | some m =>
      have : m = n := by
        unfold aggN at ha
        split at ha
        · cases ha
        · rw [h] at ha; simpa using ha.symm
        · rw [h] at ha; simpa using ha.symm
        · cases ha
      subst this
      rw [prA_agg]
theorem shp_some {n m : Nat} {t : TypeId} {a : List CK} (ha : eqk P n t = some a) (hm : csz P t = some m) (hlen : a.length = m) {zs : List Value} (hz : zs.length = a.length) : ∃ z, shp P t zs = some z := by
  unfold shp
  cases hag : aggN P t with
  | none =>
    unfold aggN at hag
    split at hag
    · rename_i hu
      cases n with
      | zero => cases ha
      | succ n => unfold eqk at ha; rw [hu] at ha; cases ha
    · rw [hm] at hag; cases hag
    · rw [hm] at hag; cases hag
    · cases hag
  | some o =>
    cases o with
    | some q => exact ⟨_, rfl⟩
    | none =>
      have := eqk_leaf ha hag
      cases zs with
      | nil => simp at hz; omega
      | cons z l => exact ⟨z, rfl⟩
theorem eqA_ok {n D m : Nat} {t : TypeId} {a : List CK} (ih : ∀ {t : TypeId} {ks : List CK}, eqk P n t = some ks → ∀ {xs ys : List Value} {r : Bool} {x y : Value}, eqL ks xs ys = some r → shp P t xs = some x → shp P t ys = some y → rd P R (Op.equalIn D t x y) = some r)
    (ha : eqk P n t = some a) (hm : csz P t = some m) (hlen : a.length = m) {σ : Type} (s0 sF : σ) (body : Nat → σ → Sem (ForInStep σ)) (xs ys : List Value)
    (hb : ∀ (i : Nat) (x y : Value) (b : Bool), prt P t xs.toArray (i * m) = some x → prt P t ys.toArray (i * m) = some y → rd P R (Op.equalIn D t x y) = some b → rd P R (body i s0) = some (if b then .yield s0 else .done sF)) :
    ∀ (k i : Nat) (r : Bool), eqL (List.replicate k a).flatten (xs.drop (i * m)) (ys.drop (i * m)) = some r → rd P R (forIn (List.range' i k) s0 body) = some (if r then s0 else sF) := by
  intro k
  induction k with
  | zero => intro i r hr; obtain ⟨_, _, rfl⟩ := eqL_nil_inv hr; rfl
  | succ k ihk =>
    intro i r hr
    rw [List.replicate_succ, List.flatten_cons] at hr
    obtain ⟨r1, r2, g1, g2, rfl⟩ := eqL_cut hr
    rw [hlen] at g1 g2
    rw [List.drop_drop, List.drop_drop, ← Nat.succ_mul] at g2
    have hl1 := eqL_len g1
    have hn : aggN P t = some none → m = 1 := fun q => by rw [← hlen]; exact eqk_leaf ha q
    obtain ⟨x, hx⟩ := shp_some ha hm hlen hl1.1
    obtain ⟨y, hy⟩ := shp_some ha hm hlen hl1.2
    have hbody := hb i x y r1 (by rw [prt_shp hm hn]; exact hx) (by rw [prt_shp hm hn]; exact hy) (ih ha g1 hx hy)
    rw [List.range'_succ, List.forIn_cons, rd_bind, hbody]
    simp only [Option.bind_some]
    cases r1 with
    | true =>
      simp only [if_true, Bool.true_and]
      exact ihk _ _ g2
    | false => rfl
theorem eqFs_ok {n D : Nat} (ih : ∀ {t : TypeId} {ks : List CK}, eqk P n t = some ks → ∀ {xs ys : List Value} {r : Bool} {x y : Value}, eqL ks xs ys = some r → shp P t xs = some x → shp P t ys = some y → rd P R (Op.equalIn D t x y) = some r)
    {σ : Type} (s0 sF : σ) (body : Field → σ → Sem (ForInStep σ)) (xs ys : List Value)
    (hb : ∀ (f : Field) (x y : Value) (b : Bool), f.name ≠ "_" → prt P f.type xs.toArray f.offset = some x → prt P f.type ys.toArray f.offset = some y → rd P R (Op.equalIn D f.type x y) = some b → rd P R (body f s0) = some (if b then .yield s0 else .done sF)) :
    ∀ (fs : List Field) (off : Nat) (ks : List CK) (r : Bool), eqFs (csz P) (eqk P n) fs off = some ks → eqL ks (xs.drop off) (ys.drop off) = some r → rd P R (forIn fs s0 body) = some (if r then s0 else sF) := by
  intro fs
  induction fs with
  | nil =>
    intro off ks r h hr
    cases h
    obtain ⟨_, _, rfl⟩ := eqL_nil_inv hr
    rfl
  | cons f fs ihf =>
    intro off ks r h hr
    unfold eqFs at h
    split at h
    · cases h
    · rename_i hc
      simp only [not_or, Decidable.not_not] at hc
      obtain ⟨hname, hoff⟩ := hc
      split at h
      · rename_i a m ha hm
        split at h
        · rename_i hlen
          simp only [Option.map_eq_some_iff] at h
          obtain ⟨ks', hk', rfl⟩ := h
          obtain ⟨r1, r2, g1, g2, rfl⟩ := eqL_cut hr
          rw [hlen] at g1 g2
          rw [List.drop_drop, List.drop_drop] at g2
          have hl1 := eqL_len g1
          have hn : aggN P f.type = some none → m = 1 := fun q => by rw [← hlen]; exact eqk_leaf ha q
          obtain ⟨x, hx⟩ := shp_some ha hm hlen hl1.1
          obtain ⟨y, hy⟩ := shp_some ha hm hlen hl1.2
          have hbody := hb f x y r1 hname (by rw [hoff, prt_shp hm hn]; exact hx) (by rw [hoff, prt_shp hm hn]; exact hy) (ih ha g1 hx hy)
          rw [List.forIn_cons, rd_bind, hbody]
          simp only [Option.bind_some]
          cases r1 with
          | true =>
            simp only [if_true, Bool.true_and]
            exact ihf _ _ _ hk' g2
          | false => rfl
        · cases h
      · cases h
theorem equalIn_ok : ∀ (n : Nat) {D : Nat}, n ≤ D → ∀ {t : TypeId} {ks : List CK}, eqk P n t = some ks → ∀ {xs ys : List Value} {r : Bool} {x y : Value}, eqL ks xs ys = some r → shp P t xs = some x → shp P t ys = some y → rd P R (Op.equalIn D t x y) = some r := by
  intro n
  induction n with
  | zero => intro D hD t ks h; cases h
  | succ n ih =>
    intro D hD t ks h xs ys r x y hr hx hy
    obtain ⟨D, rfl⟩ : ∃ D', D = D' + 1 := ⟨D - 1, by omega⟩
    unfold eqk at h
    unfold Op.equalIn
    rw [rd_bind, rd_underlying]
    unfold shp aggN at hx hy
    cases ht : P.underlying t with
    | none => rw [ht] at h; cases h
    | some T =>
      rw [ht] at h hx hy
      simp only [Option.bind_some]
      cases T with
      | bool =>
        cases h
        obtain ⟨a, c, rfl, rfl, rfl⟩ := eqL_b1 hr
        cases hx; cases hy; rfl
      | int k =>
        cases h
        obtain ⟨k', a, c, rfl, rfl, rfl⟩ := eqL_i1 hr
        cases hx; cases hy
        simp only [if_true]; rfl
      | string =>
        cases h
        obtain ⟨a, c, rfl, rfl, rfl⟩ := eqL_s1 hr
        cases hx; cases hy
        simp only [ba_eq]; rfl
      | struct fs =>
        simp only at h
        split at h
        · cases h
        · rename_i hst
          cases hcz : csz P t with
          | none => rw [hcz] at hx; cases hx
          | some m =>
            rw [hcz] at hx hy
            cases hx; cases hy
            simp only
            rw [rd_bind]
            show rd P R (if P.stoodInHeld t = true then _ else _) = _
            rw [if_neg hst, ← Array.forIn_toList, rd_bind]
            rw [eqFs_ok (D := D) (ih (by omega)) (none, ()) (some false, ()) _ xs ys ?_ fs.toList 0 ks r h (by simpa using hr)]
            · cases r <;> rfl
            · intro f x y b hn hx hy hb
              rw [if_pos hn, rd_bind, rd_part, hx]
              simp only [Option.bind_some]
              rw [rd_bind, rd_part, hy]
              simp only [Option.bind_some]
              rw [rd_bind, hb]
              simp only [Option.bind_some]
              cases b <;> rfl
      | array len elem =>
        simp only at h
        split at h
        · rename_i a m ha hm
          split at h
          · rename_i hlen
            simp only at hx hy
            cases hcz : csz P t with
            | none => rw [hcz] at hx; cases hx
            | some m' =>
            rw [hcz] at hx hy
            cases hx; cases hy
            simp only
            rw [rd_bind, rd_sizeOf, hm]
            simp only [Option.bind_some]
            rw [rd_bind, Std.Legacy.Range.forIn_eq_forIn_range']
            simp only [Std.Legacy.Range.size, Nat.sub_zero, Nat.add_sub_cancel, Nat.div_one]
            rw [eqA_ok (D := D) (ih (by omega)) ha hm hlen (none, ()) (some false, ()) _ xs ys ?_ len 0 r (by rw [Nat.zero_mul]; cases h; simpa using hr)]
            · cases r <;> rfl
            · intro i x y b hx hy hb
              rw [rd_bind, rd_part, hx]
              simp only [Option.bind_some]
              rw [rd_bind, rd_part, hy]
              simp only [Option.bind_some]
              rw [rd_bind, hb]
              simp only [Option.bind_some]
              cases b <;> rfl
          · cases h
        · cases h
      | _ => cases h
theorem guard_agg {t : TypeId} {ks : List CK} (h : eqF P t = some ks) (op : BinOp) (x y : Operand) (xs ys : Array Value) : rd P R (eqGuard op t x y (.agg xs) (.agg ys)) = some () := by
  unfold eqF at h
  split at h
  · cases h
  · rename_i hg
    have e : ∀ q : Bool, q = true → rd P R (do
        if !(← program).eqGuardType (← program).depth t then return
        if ← Op.eqGuardIn Op.maxDepth t (.agg xs) (.agg ys) then unsupported (.noEntry "binop/eql: two nil values of an interface type with methods, in a part of a struct or an array")) = some () := by
      intro q _
      rw [rd_bind]
      show rd P R (if (!P.eqGuardType P.depth t) = true then _ else _) = _
      rw [if_pos (by simpa using hg)]; rfl
    unfold eqGuard
    cases op <;> first | rfl | exact e true rfl
theorem equal_agg {t : TypeId} {ks : List CK} (h : eqF P t = some ks) {xs ys : List Value} {r : Bool} (hr : eqL ks xs ys = some r) : rd P R (Op.equal t (.agg xs.toArray) (.agg ys.toArray)) = some r := by
  unfold eqF at h
  split at h
  · cases h
  · split at h
    · rename_i m ha
      have hs : ∀ zs, shp P t zs = some (.agg zs.toArray) := fun zs => by unfold shp; rw [ha]
      exact equalIn_ok 20 (by unfold Op.maxDepth; omega) h hr (hs xs) (hs ys)
    · cases h
def eqR (o : Option Bool) (dflt : Option Next) : Option Next := match o with | some b => some (.value (.bool b)) | none => dflt
theorem eqR_some {b : Bool} {dflt : Option Next} : eqR (some b) dflt = some (.value (.bool b)) := (rfl)
def rBinA (P : Program) (R : Hp) (op : BinOp) (t : TypeId) (x y : Operand) (a b : Value) : Option Next := rBin P R op t x y a b
theorem rBin_eql_agg {t : TypeId} {ks : List CK} {x y : Operand} {xs ys : List Value} (h : eqF P t = some ks) :
    rBin P R .eql t x y (.agg xs.toArray) (.agg ys.toArray) = eqR (eqL ks xs ys) (rBinA P R .eql t x y (.agg xs.toArray) (.agg ys.toArray)) := by
  cases hq : eqL ks xs ys with
  | none => rfl
  | some r => exact rBin_eqnil _ _ _ (fun op => guard_agg h op _ _ _ _) (equal_agg h hq) rfl
theorem rBin_neq_agg {t : TypeId} {ks : List CK} {x y : Operand} {xs ys : List Value} (h : eqF P t = some ks) :
    rBin P R .neq t x y (.agg xs.toArray) (.agg ys.toArray) = eqR ((eqL ks xs ys).map fun r => !r) (rBinA P R .neq t x y (.agg xs.toArray) (.agg ys.toArray)) := by
  cases hq : eqL ks xs ys with
  | none => rfl
  | some r => exact rBin_nenil _ _ _ (fun op => guard_agg h op _ _ _ _) (equal_agg h hq) rfl
end
end Go.Sl
