/- Maps: a block with entries, in the order in which the keys came. -/
import Derived.Test.YtanhmbdcdbcfmaaEql
set_option linter.unusedVariables false
set_option linter.unusedSimpArgs false
namespace Go.Sl
open Go
section
variable {P : Program} {R G : Hp} {e : Env} {d : Option Tmp} {ty : TypeId} {p : String} {af : Array Edge} {g : Option (Nat × Bool)}
def rLook (P : Program) (R : Hp) (t : TypeId) (x i : Value) (c : Bool) : Option Next := vl (rd P R (Instr.lookup t x i c))
theorem rd_lookup {t : TypeId} {x i : Operand} {c : Bool} : rd P R (execOp e.ev ⟨d, .lookup t x i c, ty, p, af, g⟩) = rLook P R t (e.ev x) (e.ev i) c := rd_vl _
def opMapUp (P : Program) (G : Hp) (t : TypeId) (m k v : Value) (H : Hp) (K : Value → Hp → Prop) : Prop := wpH P G (Instr.mapUpdate t m k v) H (fun _ H' => K undef H') (fun _ _ => False)
theorem opV_mapUpdate {t : TypeId} {a b c : Operand} {H : Hp} {K : Value → Hp → Prop} : opV P G (execOp e.ev ⟨d, .mapUpdate t a b c, ty, p, af, g⟩) H K = opMapUp P G t (e.ev a) (e.ev b) (e.ev c) H K := by
  unfold opV opMapUp
  show wpH P G (do Instr.mapUpdate t (e.ev a) (e.ev b) (e.ev c); pure Next.skip) H _ _ = _
  rw [wpH_bind]
  rfl
theorem opV_insert {t : TypeId} {a b c : Operand} {H : Hp} {K : Value → Hp → Prop} : opV P G (execOp e.ev ⟨d, .insert t a b c, ty, p, af, g⟩) H K = opMapUp P G t (e.ev a) (e.ev b) (e.ev c) H K := by
  unfold opV opMapUp
  show wpH P G (do Instr.mapUpdate t (e.ev a) (e.ev b) (e.ev c); pure Next.skip) H _ _ = _
  rw [wpH_bind]
  rfl
theorem Each_three {h0 h1 h2 : Hp} {p : Hp → Option Next} {K : Value → Prop} : Each [h0, h1, h2] p K = Ex (p h0) fun v => p h1 = some (.value v) ∧ p h2 = some (.value v) ∧ K v := by
  unfold Each Ex
  simp only [List.mem_cons, List.not_mem_nil, or_false, forall_eq_or_imp, forall_eq, and_assoc]
theorem Each_four {h0 h1 h2 h3 : Hp} {p : Hp → Option Next} {K : Value → Prop} : Each [h0, h1, h2, h3] p K = Ex (p h0) fun v => p h1 = some (.value v) ∧ p h2 = some (.value v) ∧ p h3 = some (.value v) ∧ K v := by
  unfold Each Ex
  simp only [List.mem_cons, List.not_mem_nil, or_false, forall_eq_or_imp, forall_eq, and_assoc]
theorem Each_five {h0 h1 h2 h3 h4 : Hp} {p : Hp → Option Next} {K : Value → Prop} : Each [h0, h1, h2, h3, h4] p K = Ex (p h0) fun v => p h1 = some (.value v) ∧ p h2 = some (.value v) ∧ p h3 = some (.value v) ∧ p h4 = some (.value v) ∧ K v := by
  unfold Each Ex
  simp only [List.mem_cons, List.not_mem_nil, or_false, forall_eq_or_imp, forall_eq, and_assoc]
theorem Each_six {h0 h1 h2 h3 h4 h5 : Hp} {p : Hp → Option Next} {K : Value → Prop} : Each [h0, h1, h2, h3, h4, h5] p K = Ex (p h0) fun v => p h1 = some (.value v) ∧ p h2 = some (.value v) ∧ p h3 = some (.value v) ∧ p h4 = some (.value v) ∧ p h5 = some (.value v) ∧ K v := by
  unfold Each Ex
  simp only [List.mem_cons, List.not_mem_nil, or_false, forall_eq_or_imp, forall_eq, and_assoc]
/-- A result that lies in memory. -/
def rCell (P : Program) (R : Hp) (t : TypeId) (v : Value) : Option Next := vl (rd P R (do loadVar t (← asAddr v)))
def reK (P : Program) (G : Hp) (e : Env) (H : Hp) (rs : List ResultVar) (acc : List Value) (k : List Value → Prop) (v : Value) : Prop := resEs P G e H rs (acc ++ [v]) k
theorem reK_eq {H : Hp} {rs : List ResultVar} {acc : List Value} {k : List Value → Prop} {v : Value} : reK P G e H rs acc k v = resEs P G e H rs (acc ++ [v]) k := (rfl)
theorem resEs_cell {H : Hp} {x : Nat} {t : TypeId} {rs : List ResultVar} {acc : List Value} {k : List Value → Prop} : resEs P G e H (.cell x t :: rs) acc k = Ex (rCell P (H.un G) t (e x)) (reK P G e H rs acc k) := by
  show wpH P G (do loadVar t (← asAddr (e x))) H (fun v _ => resEs P G e H rs (acc ++ [v]) k) (fun _ _ => False) = _
  rw [wpH_RO _ (RO.bind _ _ (RO.asAddr _) fun _ => RO.loadVar _ _)]
  unfold Ex rCell
  cases rd P (H.un G) (do loadVar t (← asAddr (e x))) with
  | none => simp
  | some v => simp [reK]
theorem rCell_ptr {t : TypeId} {a : Addr} : rCell P R t (.pointer (some a)) = vl (ldV P R t a) := by
  unfold rCell
  rw [rd_bind]
  show vl (rd P R (loadVar t a)) = _
  rw [rd_loadVar]
/-- Arrays, built. -/
def fillA (sz : Nat) (cells : List Value) : List (Nat × Value) → Option (List Value)
  | [] => some cells
  | (i, v) :: rest => if v.cells.toList.length = sz ∧ i * sz + sz ≤ cells.length then fillA sz (splice cells (i * sz) v.cells.toList) rest else none
theorem fillA_eq (sz : Nat) : ∀ (ps : List (Nat × Value)) (cells : Array Value), Instr.fill (fun i => some (i * sz, sz)) cells ps = (fillA sz cells.toList ps).map List.toArray
  | [], cells => by simp [Instr.fill, fillA]
  | (i, v) :: rest, cells => by
    unfold Instr.fill fillA
    simp only
    by_cases h1 : v.cells.size = sz
    · by_cases h2 : i * sz + sz ≤ cells.size
      · rw [if_neg (by simp [h1]; omega), if_pos (by simp [h1]; exact h2), fillA_eq sz rest]
        congr 2
        have := foldl_set v.cells.toList cells (i * sz) 0 (by simp [h1]; omega)
        rw [Nat.add_zero] at this
        rw [← this]
        congr 1
        rw [← Array.foldl_toList, Array.toList_zipIdx]
      · rw [if_pos (by simp [h1]; omega), if_neg (by simp [h1]; omega)]; rfl
    · rw [if_pos (by simp [h1]), if_neg (by simp [h1])]; rfl
theorem fillA_nil {sz : Nat} {cells : List Value} : fillA sz cells [] = some cells := (rfl)
theorem fillA_cons {sz : Nat} {cells : List Value} {i : Nat} {v : Value} {rest : List (Nat × Value)} : fillA sz cells ((i, v) :: rest) = if v.cells.toList.length = sz ∧ i * sz + sz ≤ cells.length then fillA sz (splice cells (i * sz) v.cells.toList) rest else none := (rfl)
def abIs (P : Program) (t : TypeId) : Bool := match P.underlying t with | some (.array _ e) => (zro P t).isSome && (csz P e).isSome | _ => false
def abSz (P : Program) (t : TypeId) : Nat := match P.underlying t with | some (.array _ e) => (csz P e).getD 0 | _ => 0
theorem rBuild_arr {t : TypeId} {ps : List (Nat × Value)} (h : abIs P t = true) : rBuild P R t ps = vl ((fillA (abSz P t) (zcs P t) ps).map fun l => .agg l.toArray) := by
  unfold abIs at h
  unfold abSz zcs rBuild Instr.build
  rw [rd_bind, rd_zeroValue]
  cases hs : P.underlying t with
  | none => rw [hs] at h; cases h
  | some x =>
    rw [hs] at h
    cases x with
    | array n e =>
      simp only [Bool.and_eq_true] at h
      obtain ⟨h1, h2⟩ := h
      obtain ⟨z, hz⟩ := Option.isSome_iff_exists.1 h1
      obtain ⟨m, hm⟩ := Option.isSome_iff_exists.1 h2
      rw [hz]
      simp only [Option.bind_some]
      rw [rd_bind, rd_underlying, hs]
      simp only [Option.bind_some]
      rw [rd_bind, rd_sizeOf, hm]
      simp only [Option.bind_some, Option.getD_some]
      rw [fillA_eq]
      cases fillA m z.cells.toList ps with
      | none => rfl
      | some l => rfl
    | _ => cases h
/-- Arrays in memory. -/
def arIs (P : Program) (t : TypeId) : Bool := match P.underlying t with | some (.array _ e) => (csz P e).isSome | _ => false
def arLen (P : Program) (t : TypeId) : Nat := match P.underlying t with | some (.array n _) => n | _ => 0
def arSz (P : Program) (t : TypeId) : Nat := match P.underlying t with | some (.array _ e) => (csz P e).getD 0 | _ => 0
theorem arIs_spec {t : TypeId} (h : arIs P t = true) : ∃ e, P.underlying t = some (.array (arLen P t) e) ∧ csz P e = some (arSz P t) := by
  unfold arIs at h
  unfold arLen arSz
  cases hs : P.underlying t with
  | none => rw [hs] at h; cases h
  | some d =>
    rw [hs] at h
    cases d with
    | array n e =>
      simp only at h ⊢
      obtain ⟨z, hz⟩ := Option.isSome_iff_exists.1 h
      exact ⟨e, rfl, by rw [hz]; rfl⟩
    | _ => cases h
theorem rIA_arr {t : TypeId} (a : Addr) (k : IntKind) (i : Int) (h : arIs P t = true) :
    rIA P R t (.pointer (some a)) (.int k i) = if 0 ≤ i ∧ i < arLen P t then some (.value (.pointer (some (a.add (i.toNat * arSz P t))))) else none := by
  obtain ⟨el, h1, h2⟩ := arIs_spec h
  unfold rIA Instr.indexAt
  rw [rd_bind]
  show vl (Option.bind (some (k, i)) _) = _
  simp only [Option.bind_some]
  rw [rd_bind, rd_underlying, h1]
  simp only [Option.bind_some]
  rw [rd_bind, show rd P R (Instr.sureAddr (.pointer (some a))) = some a from rfl]
  simp only [Option.bind_some]
  rw [rd_bind, show rd P R (pure (some a, arLen P t, el)) = some (some a, arLen P t, el) from rfl]
  simp only [Option.bind_some]
  rw [rd_bind, rd_underlying, h1]
  simp only [Option.bind_some]
  by_cases hc : 0 ≤ i ∧ i < arLen P t
  · rw [if_pos hc, if_pos hc, rd_bind, rd_sizeOf, h2]; rfl
  · rw [if_neg hc, if_neg hc]
    split
    · rfl
    · simp
/-- A new slice of zeros. -/
def opMk (P : Program) (G : Hp) (t : TypeId) (l c : Value) (H : Hp) (K : Value → Hp → Prop) : Prop := wpH P G (Instr.makeSlice t l c) H K (fun _ _ => False)
theorem opV_makeSlice {t : TypeId} {x y : Operand} {H : Hp} {K : Value → Hp → Prop} : opV P G (execOp e.ev ⟨d, .makeSlice t x y, ty, p, af, g⟩) H K = opMk P G t (e.ev x) (e.ev y) H K := by
  unfold opV opMk
  show wpH P G (do pure (Next.value (← Instr.makeSlice t (e.ev x) (e.ev y)))) H _ _ = _
  rw [wpH_bind]
  rfl
@[congr] theorem opMk_congr {t : TypeId} {l l' c c' : Value} {H : Hp} {K : Value → Hp → Prop} (h1 : l = l') (h2 : c = c') : opMk P G t l c H K = opMk P G t l' c' H K := by rw [h1, h2]
/-- A call of a function that is a value. -/
def opCallV (P : Program) (G : Hp) (v : Value) (args : List Value) (H : Hp) (K : Value → Hp → Prop) : Prop := opV P G (do let d ← Deferred.ofValue v args.toArray; invoke d.target d.args) H K
theorem opV_callt {n : Nat} {args : List Operand} {ts : Array TypeId} {H : Hp} {K : Value → Hp → Prop} : opV P G (execOp e.ev ⟨d, .call ⟨.value (.tmp n), args.toArray, ts⟩, ty, p, af, g⟩) H K = opCallV P G (e n) (args.map e.ev) H K := by
  unfold opCallV
  show opV P G (do let d ← Deferred.ofValue (e n) (args.toArray.map e.ev); invoke d.target d.args) H K = _
  rw [List.map_toArray]
@[congr] theorem opCallV_congr {v v' : Value} {args args' : List Value} {H : Hp} {K : Value → Hp → Prop} (h1 : v = v') (h2 : args = args') : opCallV P G v args H K = opCallV P G v' args' H K := by rw [h1, h2]
theorem opCallV_func {k : FuncId} {first cap args : List Value} {H : Hp} {K : Value → Hp → Prop} (h : goes P k = true) : opCallV P G (.func (.func k) first.toArray cap.toArray) args H K = CallsH P G k (first ++ (args ++ cap)).toArray H (retK K) := by
  unfold opCallV opV
  show wpH P G (callFunc k (first.toArray ++ args.toArray ++ cap.toArray)) H _ _ = _
  rw [wpH_callFunc h]
  simp only [List.append_toArray, List.append_assoc]
theorem rd_mkFunc {fn : Fn} {a b : List Operand} : rd P R (execOp e.ev ⟨d, .makeFunc fn a.toArray b.toArray, ty, p, af, g⟩) = some (.value (.func fn (a.map e.ev).toArray (b.map e.ev).toArray)) := by
  rw [rd_makeFunc, List.map_toArray, List.map_toArray]
@[congr] theorem opMapUp_congr {t : TypeId} {m m' k k' v v' : Value} {H : Hp} {K : Value → Hp → Prop} (h1 : m = m') (h2 : k = k') (h3 : v = v') : opMapUp P G t m k v H K = opMapUp P G t m' k' v' H K := by rw [h1, h2, h3]
end
/-- A type of keys: how they look, and that they are compared. -/
structure KeyOk (P : Program) (kt : TypeId) {κ : Type} [DecidableEq κ] (enc : κ → Value) : Prop where
  und : ∃ T, P.underlying kt = some T ∧ ((∀ a b, Instr.sameNow T (enc a) (enc b) = some (decide (a = b))) ∨ (∀ a b, Instr.sameNow T (enc a) (enc b) = none))
  chk : ∀ R b k, rd P R (Instr.checkKey b 10000 kt (enc k)) = some ()
  eq : ∀ R a b, rd P R (Op.equal kt (enc a) (enc b)) = some (decide (a = b))
  bits : ∀ k, Instr.sameBits 10000 (enc k) (enc k) = true
/-- entries that stand for a list of keys and values -/
def mfits {κ α : Type} (enc : κ → Value) (val : α → Value) (es : List MapEntry) (m : List (κ × α)) : Prop := es.map (fun e => (e.key, e.val)) = m.map fun q => (enc q.1, val q.2)
def mp {κ α : Type} (enc : κ → Value) (val : α → Value) (b : Nat) (m : List (κ × α)) : Asn := fun H => ∃ es clock, mfits enc val es.toList m ∧ ob b (.map es clock) H
theorem sg.mapAt {κ α : Type} {val : α → Value} {G H : Hp} {L : List Asn} (h : sg G L H) (i : Nat) {enc : κ → Value} {b : Nat} {m : List (κ × α)} (hi : L[i]? = some (mp enc val b m)) :
    ∃ es clock, (H.un G) b = some (.map es clock) ∧ mfits enc val es.toList m := by
  have h1 := h.front i
  have : Go.Sl.front L i = mp enc val b m :: L.eraseIdx i := by unfold Go.Sl.front; rw [hi]
  rw [this] at h1
  obtain ⟨H1, _, ⟨es, clock, hf, ho⟩, _, hle⟩ := h1.get
  exact ⟨es, clock, hle _ _ (un_of ho), hf⟩
section
variable {κ : Type} [DecidableEq κ] {α : Type}
def mfind (k : κ) : List (κ × α) → Nat → Option (Nat × α)
  | [], _ => none
  | (a, v) :: m, i => if k = a then some (i, v) else mfind k m (i + 1)
def mget (m : List (κ × α)) (k : κ) : Option α := (mfind k m 0).map (·.2)
def mput (m : List (κ × α)) (k : κ) (v : α) : List (κ × α) := match mfind k m 0 with
  | some (i, _) => m.modify i fun _ => (k, v)
  | none => m ++ [(k, v)]
theorem mfind_shift (k : κ) (m : List (κ × α)) : ∀ i j : Nat, mfind k m (i + j) = (mfind k m i).map fun q => (q.1 + j, q.2) := by
  induction m with
  | nil => intro i j; rfl
  | cons a m ih =>
    intro i j
    obtain ⟨a, v⟩ := a
    unfold mfind
    split
    · rfl
    · rw [show i + j + 1 = (i + 1) + j by omega]; exact ih (i + 1) j
theorem mget_nil (k : κ) : mget ([] : List (κ × α)) k = none := rfl
theorem mfind_cons (k a : κ) (v : α) (m : List (κ × α)) : mfind k ((a, v) :: m) 0 = if k = a then some (0, v) else (mfind k m 0).map fun q => (q.1 + 1, q.2) := by
  rw [mfind]
  split
  · rfl
  · exact mfind_shift k m 0 1
theorem mget_cons (k a : κ) (v : α) (m : List (κ × α)) : mget ((a, v) :: m) k = if k = a then some v else mget m k := by
  unfold mget
  rw [mfind_cons]
  split
  · rfl
  · cases mfind k m 0 <;> rfl
theorem mput_cons (k a : κ) (v w : α) (m : List (κ × α)) : mput ((a, w) :: m) k v = if k = a then (k, v) :: m else (a, w) :: mput m k v := by
  unfold mput
  rw [mfind_cons]
  by_cases h : k = a
  · rw [if_pos h, if_pos h]; rfl
  · rw [if_neg h, if_neg h]
    cases mfind k m 0 <;> rfl
theorem mput_nil (k : κ) (v : α) : mput ([] : List (κ × α)) k v = [(k, v)] := rfl
theorem mget_mput (m : List (κ × α)) (k k' : κ) (v : α) : mget (mput m k v) k' = if k' = k then some v else mget m k' := by
  induction m with
  | nil => rw [mput_nil, mget_cons, mget_nil]
  | cons a m ih =>
    obtain ⟨a, w⟩ := a
    rw [mput_cons]
    by_cases h : k = a
    · subst h
      rw [if_pos rfl, mget_cons, mget_cons]
      split <;> rfl
    · rw [if_neg h, mget_cons, mget_cons, ih]
      by_cases h2 : k' = a
      · rw [if_pos h2, if_pos h2, if_neg (fun q => h (by rw [← q, h2]))]
      · rw [if_neg h2, if_neg h2]
variable {P : Program} {R G : Hp} {val : α → Value}
theorem findAsking_ok {kt : TypeId} {enc : κ → Value} (hk : KeyOk P kt enc) (k : κ) : ∀ (m : List (κ × α)) (es : List MapEntry) (i : Nat), mfits enc val es m → rd P R (Instr.findAsking kt (enc k) es i) = some ((mfind k m i).map fun q => (q.1, val q.2)) := by
  intro m
  induction m with
  | nil =>
    intro es i h
    unfold mfits at h
    simp only [List.map_nil, List.map_eq_nil_iff] at h
    subst h; rfl
  | cons a m ih =>
    intro es i h
    obtain ⟨a, v⟩ := a
    cases es with
    | nil => simp [mfits] at h
    | cons e es =>
      unfold mfits at h
      simp only [List.map_cons, List.cons.injEq, Prod.mk.injEq] at h
      obtain ⟨⟨h1, h2⟩, h3⟩ := h
      unfold Instr.findAsking mfind
      rw [rd_bind, h1, hk.eq]
      simp only [Option.bind_some]
      by_cases q : k = a
      · rw [if_pos q, if_pos (by simpa using q), h2]; rfl
      · rw [if_neg q, if_neg (by simpa using q)]; exact ih es (i + 1) h3
theorem findNow_ok {T : TypeDesc} {enc : κ → Value} (hk : ∀ a b, Instr.sameNow T (enc a) (enc b) = some (decide (a = b))) (k : κ) : ∀ (m : List (κ × α)) (es : List MapEntry) (i : Nat), mfits enc val es m → Instr.findNow T (enc k) es i = some ((mfind k m i).map fun q => (q.1, val q.2)) := by
  intro m
  induction m with
  | nil =>
    intro es i h
    unfold mfits at h
    simp only [List.map_nil, List.map_eq_nil_iff] at h
    subst h; rfl
  | cons a m ih =>
    intro es i h
    obtain ⟨a, v⟩ := a
    cases es with
    | nil => simp [mfits] at h
    | cons e es =>
      unfold mfits at h
      simp only [List.map_cons, List.cons.injEq, Prod.mk.injEq] at h
      obtain ⟨⟨h1, h2⟩, h3⟩ := h
      unfold Instr.findNow mfind
      rw [h1, hk]
      by_cases q : k = a
      · rw [if_pos q, decide_eq_true q, h2]; rfl
      · rw [if_neg q, decide_eq_false q]; exact ih es (i + 1) h3
theorem findNow_none {T : TypeDesc} {enc : κ → Value} (hk : ∀ a b, Instr.sameNow T (enc a) (enc b) = none) (k : κ) (m : List (κ × α)) (es : List MapEntry) (i : Nat) (h : mfits enc val es m) : Instr.findNow T (enc k) es i = some ((mfind k m i).map fun q => (q.1, val q.2)) ∨ Instr.findNow T (enc k) es i = none := by
  cases m with
  | nil =>
    unfold mfits at h
    simp only [List.map_nil, List.map_eq_nil_iff] at h
    subst h; exact .inl rfl
  | cons a m =>
    obtain ⟨a, v⟩ := a
    cases es with
    | nil => simp [mfits] at h
    | cons e es =>
      unfold mfits at h
      simp only [List.map_cons, List.cons.injEq, Prod.mk.injEq] at h
      right
      unfold Instr.findNow
      rw [h.1.1, hk]
theorem findKey_ok {kt : TypeId} {enc : κ → Value} (hk : KeyOk P kt enc) (k : κ) {m : List (κ × α)} {es : List MapEntry} (h : mfits enc val es m) : rd P R (Instr.findKey kt (enc k) es) = some ((mfind k m 0).map fun q => (q.1, val q.2)) := by
  obtain ⟨T, hT, hn⟩ := hk.und
  unfold Instr.findKey
  rw [rd_bind, rd_underlying, hT]
  simp only [Option.bind_some]
  rcases hn with hn | hn
  · rw [findNow_ok hn k m es 0 h]; rfl
  · rcases findNow_none hn k m es 0 h with q | q
    · rw [q]; rfl
    · rw [q]; exact findAsking_ok hk k m es 0 h
theorem rd_getObj {b : Nat} {o : Obj} (hb : R b = some o) (hc : Obj.isCells o = false) : rd P R (getObj b) = some o := by
  unfold getObj rd
  rw [hb]
  simp only [hc, Bool.false_eq_true, if_false]
  rfl
/-- What a map tells of a key. -/
theorem look_ok {t kt et : TypeId} {z : Value} {enc : κ → Value} (hk : KeyOk P kt enc) (ht : P.underlying t = some (.map kt et)) (hz : zro P et = some z) {b : Nat} {es : Array MapEntry} {clock : Nat} {m : List (κ × α)}
    (hb : R b = some (.map es clock)) (h : mfits enc val es.toList m) (k : κ) (c : Bool) :
    rLook P R t (.map (some b)) (enc k) c = some (.value (if c = true then .tuple #[((mget m k).map val).getD z, .bool (mget m k).isSome] else ((mget m k).map val).getD z)) := by
  unfold rLook Instr.lookup
  rw [rd_bind, rd_underlying, ht]
  simp only [Option.bind_some]
  rw [rd_bind, rd_getObj hb rfl]
  simp only [Option.bind_some]
  rw [rd_bind, show rd P R (pure es) = some es from rfl]
  simp only [Option.bind_some]
  rw [rd_bind, hk.chk]
  simp only [Option.bind_some]
  rw [rd_bind, findKey_ok hk k h]
  simp only [Option.bind_some]
  unfold mget
  cases hf : mfind k m 0 with
  | none =>
    simp only [Option.map_none, Option.getD_none, Option.isSome_none]
    rw [rd_bind, rd_zeroValue, hz]
    cases c <;> rfl
  | some q => cases c <;> rfl
theorem mfits_put {enc : κ → Value} {es : Array MapEntry} {m : List (κ × α)} (h : mfits enc val es.toList m) (k : κ) (v : α) {i : Nat} {w : α} (hi : mfind k m 0 = some (i, w)) :
    mfits enc val (es.modify i fun e => { e with key := enc k, val := val v }).toList (mput m k v) ∧ ∃ e, es[i]? = some e ∧ e.key = enc k := by
  unfold mput
  rw [hi]
  simp only [Array.toList_modify]
  have key : ∀ (m : List (κ × α)) (es : List MapEntry) (i : Nat) (w : α), mfits enc val es m → mfind k m 0 = some (i, w) → mfits enc val (es.modify i fun e => { e with key := enc k, val := val v }) (m.modify i fun _ => (k, v)) ∧ ∃ e, es[i]? = some e ∧ e.key = enc k := by
    intro m
    induction m with
    | nil => intro es i w _ hi; cases hi
    | cons a m ih =>
      intro es i w h hi
      obtain ⟨a, u⟩ := a
      cases es with
      | nil => simp [mfits] at h
      | cons e es =>
        have h0 := h
        unfold mfits at h
        simp only [List.map_cons, List.cons.injEq, Prod.mk.injEq] at h
        obtain ⟨⟨h1, h2⟩, h3⟩ := h
        rw [mfind_cons] at hi
        by_cases q : k = a
        · subst q
          rw [if_pos rfl] at hi
          cases hi
          exact ⟨by simp [mfits, List.modify_zero_cons] at h3 ⊢; exact h3, e, rfl, h1⟩
        · rw [if_neg q] at hi
          simp only [Option.map_eq_some_iff] at hi
          obtain ⟨⟨i', w'⟩, hi', hq⟩ := hi
          cases hq
          obtain ⟨g1, e', g2, g3⟩ := ih es i' w' h3 hi'
          refine ⟨?_, e', by simpa using g2, g3⟩
          unfold mfits at g1 ⊢
          rw [List.modify_succ_cons, List.modify_succ_cons, List.map_cons, List.map_cons, g1, h1, h2]
  obtain ⟨g1, e, g2, g3⟩ := key m es.toList i w h hi
  exact ⟨g1, e, by simpa using g2, g3⟩
theorem sg.mapUp {G H : Hp} {L : List Asn} {t kt et : TypeId} {enc : κ → Value} (hk : KeyOk P kt enc) (ht : P.underlying t = some (.map kt et)) {b : Nat} {m : List (κ × α)}
    (h : sg G (mp enc val b m :: L) H) (k : κ) (v : α) {K : Value → Hp → Prop} (hK : ∀ H', sg G (mp enc val b (mput m k v) :: L) H' → K undef H') : opMapUp P G t (.map (some b)) (enc k) (val v) H K := by
  obtain ⟨hd, H1, H2, rfl, hdj, ⟨es, clock, hfit, ho⟩, hL⟩ := h
  have hb : H1.un H2 b = some (.map es clock) := un_of ho
  have hb' : ((H1.un H2).un G) b = some (.map es clock) := un_of hb
  have fin : ∀ es' clock', mfits enc val es'.toList (mput m k v) → K undef (Hp.upd (fun _ => .map es' clock') (H1.un H2) b) := by
    intro es' clock' hf
    refine hK _ ⟨upd_disj hd, ?_⟩
    have := seps_upd (l := L) (H := H1.un H2) (b := b) (o := .map es clock) ⟨H1, H2, rfl, hdj, ho, hL⟩ (fun _ => .map es' clock')
    obtain ⟨H3, H4, e, hdj', ho', hL'⟩ := this
    exact ⟨H3, H4, e, hdj', ⟨es', clock', hf, ho'⟩, hL'⟩
  unfold opMapUp Instr.mapUpdate
  rw [wpH_bind]
  refine wpH_rd _ (by rw [rd_underlying]; exact ht) ?_
  simp only
  rw [wpH_bind]
  refine wpH_rd _ (rd_getObj hb' rfl) ?_
  simp only
  rw [wpH_bind]
  refine wpH_rd _ (hk.chk _ _ _) ?_
  rw [wpH_bind]
  refine wpH_rd _ (findKey_ok hk k hfit) ?_
  cases hf : mfind k m 0 with
  | none =>
    refine ⟨⟨_, hb, rfl⟩, fin _ _ ?_⟩
    unfold mput
    rw [hf]
    unfold mfits at hfit ⊢
    simp [hfit]
  | some q =>
    obtain ⟨i, w⟩ := q
    obtain ⟨g1, e, g2, g3⟩ := mfits_put hfit k v hf
    show wpH P G (do
      let key ← Instr.keyThatStays (((es[i]?).map (·.key)).getD (enc k)) (enc k)
      setObj b (.map (es.modify i fun e => { e with key, val := val v }) clock)) (H1.un H2) _ _
    rw [wpH_bind]
    refine wpH_rd (a := enc k) _ ?_ ?_
    · rw [g2]
      simp only [Option.map_some, Option.getD_some, g3]
      unfold Instr.keyThatStays
      rw [if_pos (hk.bits k)]; rfl
    · exact ⟨⟨_, hb, rfl⟩, fin _ _ g1⟩
theorem sg.look {G H : Hp} {L : List Asn} (h : sg G L H) (i : Nat) {enc : κ → Value} {b : Nat} {m : List (κ × α)} (hi : L[i]? = some (mp enc val b m)) {t kt et : TypeId} {z : Value} (hk : KeyOk P kt enc)
    (ht : P.underlying t = some (.map kt et)) (hz : zro P et = some z) (k : κ) (c : Bool) :
    rLook P (H.un G) t (.map (some b)) (enc k) c = some (.value (if c = true then .tuple #[((mget m k).map val).getD z, .bool (mget m k).isSome] else ((mget m k).map val).getD z)) := by
  obtain ⟨es, clock, hb, hf⟩ := h.mapAt i hi
  exact look_ok hk ht hz hb hf k c
end
theorem sg.mapNew {κ α : Type} {G H : Hp} {L : List Asn} (h : sg G L H) {b : Nat} (hb : H b = none) (hg : G b = none) (enc : κ → Value) (val : α → Value) : sg G (mp enc val b ([] : List (κ × α)) :: L) (H.set b (.map #[] 0)) :=
  (h.new hb hg _).shut [ob b (.map #[] 0)] fun F _ hs => ⟨#[], 0, rfl, seps_ob hs⟩
theorem keyInt {P : Program} {kt : TypeId} {n : IntKind} (h : P.underlying kt = some (.int n)) : KeyOk P kt (fun k : Int => .int n k) where
  und := ⟨_, h, .inl fun a b => by
    show (if n = n then some (a == b) else none) = _
    rw [if_pos rfl]; rfl⟩
  chk R b k := by
    unfold Instr.checkKey
    rw [rd_bind, rd_underlying, h]; rfl
  eq R a b := by
    unfold Op.equal Op.maxDepth Op.equalIn
    rw [rd_bind, rd_underlying, h]
    simp only [Option.bind_some]
    simp only [if_true]; rfl
  bits k := by unfold Instr.sameBits; simp
theorem keyAgg {P : Program} {kt : TypeId} {ks : List CK} {κ : Type} [DecidableEq κ] {enc : κ → List Value} (h : eqF P kt = some ks) (hi : ∀ a b, eqL ks (enc a) (enc b) = some (decide (a = b)))
    (chk : ∀ R b k, rd P R (Instr.checkKey b 10000 kt (.agg (enc k).toArray)) = some ()) (bits : ∀ k, Instr.sameBits 10000 (.agg (enc k).toArray) (.agg (enc k).toArray) = true) : KeyOk P kt (fun k => .agg (enc k).toArray) where
  und := by
    unfold eqF aggN at h
    split at h
    · cases h
    · cases ht : P.underlying kt with
      | none => rw [ht] at h; cases h
      | some T => exact ⟨T, rfl, .inr fun a b => by cases T <;> rfl⟩
  chk := chk
  eq R a b := equal_agg h (hi a b)
  bits := bits
/-- Zeros, of bytes. -/
theorem mk_bytes {P : Program} {G H : Hp} {t e : TypeId} {nb : Nat} (ht : apI P t = some (e, 1, nb)) (hz : zro P e = some (.int .u8 0)) (hb : nb = 1) {n : Nat} (h0 : 0 < n) (hn : n ≤ 1000000) {K : Value → Hp → Prop}
    (k : ∀ b, H b = none → G b = none → K (.slice (some ⟨b, 0, none⟩) n n) (H.set b (.cells (bv (List.replicate n 0)).toArray e (0, 0)))) : opMk P G t (.int .i64 n) (.int .i64 n) H K := by
  obtain ⟨i, z, h1, h2, h3, h4, h5, h6, h7, h8, h9⟩ := apI_spec ht
  subst hb
  unfold opMk Instr.makeSlice
  rw [wpH_bind]
  refine wpH_rd _ (by rw [rd_underlying]; exact h1) ?_
  simp only
  rw [wpH_bind]
  refine wpH_rd (a := (n : Int)) _ rfl ?_
  rw [wpH_bind]
  refine wpH_rd (a := (n : Int)) _ rfl ?_
  rw [wpH_bind]
  refine wpH_rd (a := i) _ (by rw [rd_typeInfo]; exact h2) ?_
  have hw : IntKind.i64.wrap (n : Int) = n := wrap_id (by omega) (by omega)
  rw [hw, h5, if_neg (by simp only [Bool.or_eq_true, decide_eq_true_eq, not_or]; refine ⟨⟨⟨?_, ?_⟩, ?_⟩, ?_⟩ <;> omega), wpH_bind]
  refine wpH_rd (a := ()) _ (by unfold askRoom; split <;> rfl) ?_
  rw [wpH_bind]
  refine wpH_rd (a := 1) _ (by rw [rd_sizeOf]; unfold csz; rw [h2]; simp [h4]) ?_
  rw [if_neg (by simp only [Int.toNat_natCast]; omega), wpH_bind]
  refine wpH_rd (a := .int .u8 0) _ (by rw [rd_zeroValue]; exact hz) ?_
  rw [wpH_bind]
  refine wpH_rd (a := #[.int .u8 0]) _ rfl ?_
  rw [wpH_bind]
  intro b hb hg
  have e1 : (Array.range ((n : Int).toNat * 1)).map (fun x => (#[Value.int .u8 0] : Array Value)[x % (#[Value.int .u8 0] : Array Value).size]!) = (bv (List.replicate n 0)).toArray := by
    apply Array.ext_getElem?
    intro j
    simp only [Int.toNat_natCast, Nat.mul_one, Array.getElem?_map, List.getElem?_toArray, bv, List.getElem?_map, List.getElem?_replicate, List.size_toArray, List.length_cons, List.length_nil, Nat.zero_add, Nat.mod_one]
    by_cases hj : j < n
    · rw [if_pos hj, Array.getElem?_range, if_pos hj]; rfl
    · rw [if_neg hj, Array.getElem?_range, if_neg hj]; rfl
  rw [e1]
  simp only [Int.toNat_natCast]
  exact k b hb hg
end Go.Sl
