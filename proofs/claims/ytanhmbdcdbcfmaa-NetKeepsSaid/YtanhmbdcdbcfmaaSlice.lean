/- Slices: what is read of one; one of the call's own; append. -/
import Derived.Test.YtanhmbdcdbcfmaaSep
import Derived.Laws.Append
set_option linter.unusedVariables false
set_option linter.unusedSimpArgs false
namespace Go.Sl
open Go
/-- Reads as these cells, sz for each element. -/
def rds (R : Hp) (sz : Nat) (v : Value) (xs : List Value) : Prop :=
  ∃ a len cap, v = .slice a len cap ∧ xs.length = len * sz ∧ len ≤ cap ∧ (xs = [] ∨ ∃ b off, a = some ⟨b, off, none⟩ ∧ ∀ j, j < xs.length → R.cell ⟨b, off + j, none⟩ = xs[j]?)
theorem rds.mono {R S : Hp} {sz : Nat} {v : Value} {xs : List Value} (h : rds R sz v xs) (k : R.le S) : rds S sz v xs := by
  obtain ⟨a, len, cap, h1, h2, h3, h4⟩ := h
  refine ⟨a, len, cap, h1, h2, h3, ?_⟩
  rcases h4 with h4 | ⟨b, off, h4, h5⟩
  · exact .inl h4
  · refine .inr ⟨b, off, h4, fun j hj => ?_⟩
    have := h5 j hj
    rw [List.getElem?_eq_getElem hj] at this ⊢
    exact Hp.le_cell k this
/-- One of the call's own. -/
def own (e : TypeId) (sz : Nat) (v : Value) (xs : List Value) : Asn := fun H =>
  (v = .slice none 0 0 ∧ xs = []) ∨ ∃ b off len cap cs fr, v = .slice (some ⟨b, off, none⟩) len cap ∧ H b = some (.cells cs e fr) ∧ cold cs fr ∧ len ≤ cap ∧ off + cap * sz ≤ cs.size ∧
    xs.length = len * sz ∧ ∀ j, j < xs.length → cs[off + j]? = xs[j]?
theorem own_rds {G H : Hp} {e : TypeId} {sz : Nat} {v : Value} {xs : List Value} (h : own e sz v xs H) : rds (H.un G) sz v xs := by
  rcases h with ⟨rfl, rfl⟩ | ⟨b, off, len, cap, cs, fr, rfl, h1, h2, h3, h4, h5, h6⟩
  · exact ⟨none, 0, 0, rfl, by simp, Nat.le_refl _, .inl rfl⟩
  · refine ⟨_, len, cap, rfl, h5, h3, .inr ⟨b, off, rfl, fun j hj => ?_⟩⟩
    rw [ucell_of h1]
    exact h6 j hj
/-- A piece that reads so. -/
def Rd (G : Hp) (X : Asn) (sz : Nat) (v : Value) (xs : List Value) : Prop := ∀ H, H.disj G → X H → rds (H.un G) sz v xs
theorem Rd_own {G : Hp} {e : TypeId} {sz : Nat} {v : Value} {xs : List Value} : Rd G (own e sz v xs) sz v xs := fun _ _ h => own_rds h
/-- Nothing of one's own. -/
def emp : Asn := fun _ => True
theorem Rd_ro {G : Hp} {sz : Nat} {v : Value} {xs : List Value} (h : rds G sz v xs) : Rd G emp sz v xs := fun H hd _ => h.mono fun b o hb => by
  unfold Hp.un
  rcases hd b with q | q
  · rw [q]; exact hb
  · rw [q] at hb; cases hb
theorem sg.rds {G H : Hp} {X : Asn} {L : List Asn} {sz : Nat} {v : Value} {xs : List Value} (h : sg G (X :: L) H) (r : Rd G X sz v xs) : rds (H.un G) sz v xs := by
  obtain ⟨H1, h1, h2, h3, h4⟩ := h.get
  exact (r H1 h1 h2).mono h4
theorem sg.emp_ {G H : Hp} {L : List Asn} (h : sg G L H) : sg G (emp :: L) H := by
  refine ⟨h.1, Hp.emp, H, (Hp.emp_un H).symm, fun b => .inl rfl, trivial, h.2⟩
/-- What is read, in cells. -/
theorem rds.slice {R : Hp} {sz : Nat} {v : Value} {xs : List Value} (h : rds R sz v xs) : ∃ a len cap, v = .slice a len cap ∧ xs.length = len * sz ∧ len ≤ cap := by
  obtain ⟨a, len, cap, h1, h2, h3, h4⟩ := h; exact ⟨a, len, cap, h1, h2, h3⟩
theorem ldl_of {R : Hp} {b off : Nat} {xs : List Value} (h : ∀ j, j < xs.length → R.cell ⟨b, off + j, none⟩ = xs[j]?) : ∀ (n i : Nat), i + n ≤ xs.length → ldl R ⟨b, off, none⟩ i n = some ((xs.drop i).take n)
  | 0, i, _ => by simp [ldl]
  | n + 1, i, hn => by
    unfold ldl
    rw [add_mk, h i (by omega), List.getElem?_eq_getElem (by omega)]
    try simp only []
    rw [ldl_of h n (i + 1) (by omega)]
    try simp only []
    congr 1
    rw [List.drop_eq_getElem_cons (show i < xs.length by omega), List.take_succ_cons]
/-! ### append -/
theorem rd_firstCells {P : Program} {R : Hp} {sz : Nat} {v : Value} {xs : List Value} (h : rds R sz v xs) {len : Nat} (hl : xs.length = len * sz) : rd P R (Builtin.firstCells sz len v) = some xs.toArray := by
  obtain ⟨a, n, cap, rfl, h2, h3, h4⟩ := h
  unfold Builtin.firstCells
  rcases h4 with rfl | ⟨b, off, rfl, h5⟩
  · cases a with
    | none => rfl
    | some a =>
      simp only [List.length_nil] at hl
      show rd P R (loadCellsFrom a 0 (len * sz) #[]) = _
      rw [← hl]; rfl
  · simp only
    unfold loadCells
    rw [rd_loadCellsFrom, ← hl, ldl_of h5 xs.length 0 (by omega)]
    simp
theorem rd_lenOf {P : Program} {R : Hp} {a : Option Addr} {n c : Nat} : rd P R (Builtin.lenOf (.slice a n c)) = some n := rfl
theorem putL_get (l : List Value) : ∀ (cs : Array Value) (off j : Nat), off + l.length ≤ cs.size → (putL cs off l)[j]? = if off ≤ j ∧ j < off + l.length then l[j - off]? else cs[j]? := by
  induction l with
  | nil => intro cs off j h; simp [putL]; intro h1 h2; omega
  | cons v l ih =>
    intro cs off j h
    simp only [List.length_cons] at h
    unfold putL
    rw [ih _ _ _ (by simp; omega)]
    rw [Array.getElem?_setIfInBounds]
    by_cases h1 : j = off
    · subst h1
      rw [if_neg (by omega), if_pos rfl, if_pos (by omega), if_pos (by simp)]
      simp
    · by_cases h2 : off + 1 ≤ j ∧ j < off + 1 + l.length
      · rw [if_pos h2, if_pos (by simp; omega)]
        obtain ⟨k, rfl⟩ : ∃ k, j = off + 1 + k := ⟨j - (off + 1), by omega⟩
        rw [show off + 1 + k - off = k + 1 by omega, show off + 1 + k - (off + 1) = k by omega]
        simp
      · rw [if_neg h2, if_neg (fun q => h1 q.symm), if_neg (by simp; omega)]
/-- append(s, xs...) upon a slice of the call's own. -/
theorem append_own {P : Program} {G H : Hp} {t u e : TypeId} {i : TypeInfo} {z : Value} {sz : Nat} {e' : TypeId} (ht : P.underlying t = some (.slice e)) (hu : P.underlying u = some (.slice e')) (hi : P.info? e = some i)
    (hs : i.size = sz) (hz : i.zero = some z) (hzs : z.cells.size = sz) {s x : Value} {xs ys : List Value} {L : List Asn} (h : sg G (own e sz s xs :: L) H) (hx : rds (H.un G) sz x ys)
    (h1 : ∀ v ∈ ys, v.oneCell' = true) (hpos : 0 < sz) (hlen : (xs.length + ys.length) * i.bytes ≤ 140737488355328) (hby : 0 < i.bytes) {K : Value → Hp → Prop} (k : ∀ v H', sg G (own e sz v (xs ++ ys) :: L) H' → K v H') :
    opAppend P G t u s x H K := by
  obtain ⟨s', sl, sc, rfl, hsl, hsc⟩ := (h.rds Rd_own).slice
  have hsr := h.rds (G := G) Rd_own
  obtain ⟨x', n, xc, rfl, hxl, hxc⟩ := hx.slice
  have hcs : csz P e = some sz := by unfold csz; rw [hi]; simp [hs]
  have hzr : zro P e = some z := by unfold zro; rw [hi]; simp [hz]
  unfold opAppend Builtin.append_
  simp only [List.getElem?_toArray, List.getElem?_cons_zero, List.getElem?_cons_succ]
  rw [wpH_bind, wpH_underlying ht]
  try simp only []
  rw [wpH_bind, wpH_sizeOf hcs]
  try simp only []
  rw [wpH_bind, wpH_underlying hu]
  simp only [pure_bind, Bool.false_eq_true, if_false]
  rw [wpH_bind]
  refine wpH_rd (P := P) _ (rd_lenOf (a := x') (c := xc)) ?_
  simp only [Bool.not_false, if_true]
  by_cases hfit : sl + n ≤ sc
  · simp only [hfit, if_true]
    rw [wpH_bind]
    refine wpH_rd (P := P) _ (rd_firstCells hx hxl) ?_
    -- in place
    rcases h with ⟨hd, H1, H2, rfl, hd2, hown, hL⟩
    rcases hown with ⟨q, rfl⟩ | ⟨b, off, len, cap, cs, fr, q, g1, g2, g3, g4, g5, g6⟩
    · cases q
      have hn0 : n = 0 := by omega
      subst hn0
      have : ys = [] := List.eq_nil_of_length_eq_zero (by simpa using hxl)
      subst this
      refine k _ _ ⟨hd, H1, H2, rfl, hd2, .inl ⟨rfl, rfl⟩, hL⟩
    · cases q
      have hall : sg G (ob b (.cells cs e fr) :: L) (H1.un H2) := ⟨hd, H1, H2, rfl, hd2, g1, hL⟩
      have hm : (sl + n) * sz ≤ sc * sz := Nat.mul_le_mul_right _ hfit
      have hadd : (sl + n) * sz = sl * sz + n * sz := Nat.add_mul ..
      obtain ⟨H', st1, st2⟩ := hall.stl (off := off + sl * sz) ys g2 h1 (by omega)
      show wpH P G (storeCells ((⟨b, off, none⟩ : Addr).add (sl * sz)) ys >>= _) _ _ _
      rw [wpH_bind, add_mk, wpH_storeCells]
      refine ⟨H', st1, ?_⟩
      refine k _ _ (st2.open_ (M := [own e sz (.slice (some ⟨b, off, none⟩) (sl + n) sc) (xs ++ ys)]) fun H hd hb => ⟨H, Hp.emp, (Hp.un_emp H).symm, fun b => .inr rfl, ?_, trivial⟩)
      refine .inr ⟨b, off, sl + n, sc, _, fr, rfl, hb, ?_, hfit, ?_, ?_, ?_⟩
      · unfold cold at g2 ⊢; rw [putL_size]; exact g2
      · rw [putL_size]; exact g4
      · rw [List.length_append]; omega
      · intro j hj
        rw [List.length_append] at hj
        rw [putL_get _ _ _ _ (by omega)]
        by_cases hjx : j < xs.length
        · rw [if_neg (by omega), g6 j hjx, List.getElem?_append_left hjx]
        · rw [if_pos (by omega), List.getElem?_append_right (by omega)]
          congr 1; omega
  · simp only [hfit, if_false]
    have hlt : sc < sl + n := by omega
    have hneed : (sl + n) * i.bytes ≤ 140737488355328 := by
      refine Nat.le_trans (Nat.mul_le_mul_right _ ?_) hlen
      rw [hsl, hxl, ← Nat.add_mul]
      exact Nat.le_mul_of_pos_right _ hpos
    have hneed2 : sl + n ≤ 140737488355328 := Nat.le_trans (Nat.le_mul_of_pos_right _ hby) hneed
    rw [wpH_bind, wpH_typeInfo hi]
    try simp only []
    rw [if_neg (by rintro ⟨q, _⟩; simp [IntKind.max, IntKind.signed, IntKind.bits] at q; omega)]
    rw [wpH_bind, wpH_typeInfo hi]
    try simp only []
    rw [if_neg (by have := growslice_fits hlt hneed; omega)]
    rw [wpH_bind]
    show wpH P G (.choose _ .pure) H _ _
    unfold wpH
    rw [if_neg (by simp [Question.forced])]
    intro tp
    have hcut : ∃ nc, (Question.appendCap (sl + n) sc e).cut tp = nc ∧ sl + n ≤ nc := ⟨_, rfl, by simp only [Question.cut]; omega⟩
    obtain ⟨nc, hnc, hle⟩ := hcut
    rw [hnc]
    show wpH P G (typeInfo e >>= _) H _ _
    rw [wpH_bind, wpH_typeInfo hi]
    rw [wpH_bind]
    have hroom : ∀ (m : Nat) (K' : Unit → Hp → Prop), K' () H → wpH P G (askRoom m) H K' (fun _ _ => False) := by
      intro m K' hk
      unfold askRoom
      split <;> exact hk
    refine hroom _ _ ?_
    rw [wpH_bind]
    refine wpH_rd (P := P) _ (rd_firstCells hsr hsl) ?_
    rw [wpH_bind]
    refine wpH_rd (P := P) _ (rd_firstCells hx hxl) ?_
    rw [wpH_bind, wpH_zeroValue hzr, wpH_bind]
    intro b hb hg
    refine k _ _ ((h.tail.new hb hg _).open_ (M := [own e sz (.slice (some ⟨b, 0, none⟩) (sl + n) nc) (xs ++ ys)]) fun H hd hb => ⟨H, Hp.emp, (Hp.un_emp H).symm, fun b => .inr rfl, ?_, trivial⟩)
    refine .inr ⟨b, 0, sl + n, nc, _, (0, 0), rfl, hb, .inl rfl, hle, ?_, ?_, ?_⟩
    · have hzc : (Builtin.zeroCells z.cells (nc - (sl + n))).size = (nc - (sl + n)) * sz := by unfold Builtin.zeroCells; simp [hzs]
      rw [Array.size_append, Array.size_append, hzc]
      simp only [List.size_toArray]
      rw [hsl, hxl, ← Nat.add_mul, ← Nat.add_mul]
      rw [show sl + n + (nc - (sl + n)) = nc by omega]
      omega
    · rw [List.length_append, Nat.add_mul]; omega
    · intro j hj
      rw [Nat.zero_add, Array.getElem?_append_left (by simpa using hj)]
      simp

/-- append(s, make([]T, n)...) upon a slice of the call's own. -/
theorem append_zeros {P : Program} {G H : Hp} {t u e : TypeId} {i : TypeInfo} {z : Value} {sz : Nat} {ku : IntKind} (ht : P.underlying t = some (.slice e)) (hu : P.underlying u = some (.int ku)) (hi : P.info? e = some i)
    (hs : i.size = sz) (hz : i.zero = some z) (hzs : z.cells.size = sz) (hz1 : ∀ v ∈ z.cells.toList, v.oneCell' = true) {s : Value} {n : Nat} {xs : List Value} {L : List Asn} (h : sg G (own e sz s xs :: L) H)
    (hpos : 0 < sz) (hlen : (xs.length + n * sz) * i.bytes ≤ 140737488355328) (hby : 0 < i.bytes) {K : Value → Hp → Prop} (k : ∀ v H' ys, ys.length = n * sz → sg G (own e sz v (xs ++ ys) :: L) H' → K v H') :
    opAppend P G t u s (.int .i64 n) H K := by
  obtain ⟨s', sl, sc, rfl, hsl, hsc⟩ := (h.rds Rd_own).slice
  have hsr := h.rds (G := G) Rd_own
  have hcs : csz P e = some sz := by unfold csz; rw [hi]; simp [hs]
  have hzr : zro P e = some z := by unfold zro; rw [hi]; simp [hz]
  have hnb : n * i.bytes ≤ 140737488355328 := by
    refine Nat.le_trans (Nat.mul_le_mul_right _ ?_) hlen
    have := Nat.le_mul_of_pos_right n hpos
    omega
  have hn : n ≤ 140737488355328 := Nat.le_trans (Nat.le_mul_of_pos_right _ hby) hnb
  have hw : IntKind.i64.wrap (n : Int) = n := by simp [IntKind.wrap, IntKind.bits, IntKind.signed]; omega
  have hzc : ∀ m, (Builtin.zeroCells z.cells m).size = m * sz := by intro m; unfold Builtin.zeroCells; simp [hzs]
  have hz0 : (Builtin.zeroCells z.cells n).toList = (if n * sz = 0 then #[] else Builtin.zeroCells z.cells n).toList := by
    split
    · rename_i q
      have : (Builtin.zeroCells z.cells n).size = 0 := by rw [hzc]; exact q
      rw [Array.size_eq_zero_iff.1 this]
    · rfl
  have rdz : ∀ (K' : Array Value → Hp → Prop) (H : Hp), K' (if n * sz = 0 then #[] else Builtin.zeroCells z.cells n) H →
      wpH P G (if n * sz = 0 then pure #[] else do pure (Builtin.zeroCells (← zeroValue e).cells n)) H K' (fun _ _ => False) := by
    intro K' H hk
    split
    · rename_i q; rw [if_pos q] at hk; exact hk
    · rename_i q; rw [if_neg q] at hk; rw [wpH_bind, wpH_zeroValue hzr]; exact hk
  have one : ∀ v ∈ (if n * sz = 0 then #[] else Builtin.zeroCells z.cells n).toList, v.oneCell' = true := by
    intro v hv
    rw [← hz0] at hv
    unfold Builtin.zeroCells at hv
    simp only [Array.toList_map, List.mem_map] at hv
    obtain ⟨j, hj, rfl⟩ := hv
    have hpz : 0 < z.cells.size := by omega
    have : j % z.cells.size < z.cells.size := Nat.mod_lt _ hpz
    have q : z.cells[j % z.cells.size]! = z.cells[j % z.cells.size]'this := getElem!_pos z.cells _ this
    rw [q]
    exact hz1 _ (by simp)
  have lenz : (if n * sz = 0 then #[] else Builtin.zeroCells z.cells n).toList.length = n * sz := by
    rw [← hz0, Array.length_toList, hzc]
  unfold opAppend Builtin.append_
  simp only [List.getElem?_toArray, List.getElem?_cons_zero, List.getElem?_cons_succ]
  rw [wpH_bind, wpH_underlying ht]
  try simp only []
  rw [wpH_bind, wpH_sizeOf hcs]
  try simp only []
  rw [wpH_bind, wpH_underlying hu]
  simp only [pure_bind, if_true]
  rw [wpH_bind]
  show wpH P G (asInt (.int .i64 n)) H _ _
  refine wpH_rd (P := P) (a := (n : Int)) _ rfl ?_
  rw [hw, if_neg (by omega)]
  rw [wpH_bind, wpH_typeInfo hi, if_neg (by
    intro q
    have h3 : ((n : Int) * (i.bytes : Int)) = ((n * i.bytes : Nat) : Int) := by rw [Int.natCast_mul]
    rw [h3] at q
    have h4 : (2 : Int) ^ 48 = 281474976710656 := rfl
    rw [h4] at q
    omega)]
  simp only [pure_bind, Int.toNat_natCast, Bool.not_true, Bool.false_eq_true, if_false]
  generalize hzz : (if n * sz = 0 then #[] else Builtin.zeroCells z.cells n) = zz at *
  by_cases hfit : sl + n ≤ sc
  · simp only [hfit, if_true]
    rw [wpH_bind]
    refine rdz _ _ ?_
    rcases h with ⟨hd, H1, H2, rfl, hd2, hown, hL⟩
    rcases hown with ⟨q, rfl⟩ | ⟨b, off, len, cap, cs, fr, q, g1, g2, g3, g4, g5, g6⟩
    · cases q
      have hn0 : n = 0 := by omega
      subst hn0
      refine k _ _ [] (by simp) ⟨hd, H1, H2, rfl, hd2, .inl ⟨rfl, rfl⟩, hL⟩
    · cases q
      have hall : sg G (ob b (.cells cs e fr) :: L) (H1.un H2) := ⟨hd, H1, H2, rfl, hd2, g1, hL⟩
      have hm : (sl + n) * sz ≤ sc * sz := Nat.mul_le_mul_right _ hfit
      have hadd : (sl + n) * sz = sl * sz + n * sz := Nat.add_mul ..
      obtain ⟨H', st1, st2⟩ := hall.stl (off := off + sl * sz) zz.toList g2 one (by omega)
      show wpH P G (storeCells ((⟨b, off, none⟩ : Addr).add (sl * sz)) zz.toList >>= _) _ _ _
      rw [wpH_bind, add_mk, wpH_storeCells]
      refine ⟨H', st1, ?_⟩
      refine k _ _ zz.toList lenz (st2.open_ (M := [own e sz (.slice (some ⟨b, off, none⟩) (sl + n) sc) (xs ++ zz.toList)]) fun H hd hb => ⟨H, Hp.emp, (Hp.un_emp H).symm, fun b => .inr rfl, ?_, trivial⟩)
      refine .inr ⟨b, off, sl + n, sc, _, fr, rfl, hb, ?_, hfit, ?_, ?_, ?_⟩
      · unfold cold at g2 ⊢; rw [putL_size]; exact g2
      · rw [putL_size]; exact g4
      · rw [List.length_append]; omega
      · intro j hj
        rw [List.length_append] at hj
        rw [putL_get _ _ _ _ (by omega)]
        by_cases hjx : j < xs.length
        · rw [if_neg (by omega), g6 j hjx, List.getElem?_append_left hjx]
        · rw [if_pos (by omega), List.getElem?_append_right (by omega)]
          congr 1; omega
  · simp only [hfit, if_false]
    have hlt : sc < sl + n := by omega
    have hneed : (sl + n) * i.bytes ≤ 140737488355328 := by
      refine Nat.le_trans (Nat.mul_le_mul_right _ ?_) hlen
      rw [hsl, ← Nat.add_mul]
      exact Nat.le_mul_of_pos_right _ hpos
    have hneed2 : sl + n ≤ 140737488355328 := Nat.le_trans (Nat.le_mul_of_pos_right _ hby) hneed
    rw [wpH_bind, wpH_typeInfo hi]
    rw [if_neg (by rintro ⟨q, _⟩; simp [IntKind.max, IntKind.signed, IntKind.bits] at q; omega)]
    rw [wpH_bind, wpH_typeInfo hi]
    rw [if_neg (by have := growslice_fits hlt hneed; omega)]
    rw [wpH_bind]
    show wpH P G (.choose _ .pure) H _ _
    unfold wpH
    rw [if_neg (by simp [Question.forced])]
    intro tp
    have hcut : ∃ nc, (Question.appendCap (sl + n) sc e).cut tp = nc ∧ sl + n ≤ nc := ⟨_, rfl, by simp only [Question.cut]; omega⟩
    obtain ⟨nc, hnc, hle⟩ := hcut
    rw [hnc]
    show wpH P G (typeInfo e >>= _) H _ _
    rw [wpH_bind, wpH_typeInfo hi]
    rw [wpH_bind]
    have hroom : ∀ (m : Nat) (K' : Unit → Hp → Prop), K' () H → wpH P G (askRoom m) H K' (fun _ _ => False) := by
      intro m K' hk
      unfold askRoom
      split <;> exact hk
    refine hroom _ _ ?_
    rw [wpH_bind]
    refine wpH_rd (P := P) _ (rd_firstCells hsr hsl) ?_
    rw [wpH_bind]
    refine rdz _ _ ?_
    rw [wpH_bind, wpH_zeroValue hzr, wpH_bind]
    intro b hb hg
    refine k _ _ zz.toList lenz ((h.tail.new hb hg _).open_ (M := [own e sz (.slice (some ⟨b, 0, none⟩) (sl + n) nc) (xs ++ zz.toList)]) fun H hd hb => ⟨H, Hp.emp, (Hp.un_emp H).symm, fun b => .inr rfl, ?_, trivial⟩)
    refine .inr ⟨b, 0, sl + n, nc, _, (0, 0), rfl, hb, .inl rfl, hle, ?_, ?_, ?_⟩
    · rw [Array.size_append, Array.size_append, hzc]
      simp only [List.size_toArray]
      rw [← Array.length_toList (xs := zz), lenz, hsl, ← Nat.add_mul, ← Nat.add_mul]
      rw [show sl + n + (nc - (sl + n)) = nc by omega]
      omega
    · rw [List.length_append, Nat.add_mul]; omega
    · intro j hj
      rw [Nat.zero_add, Array.getElem?_append_left (by simpa using hj)]
      simp [List.getElem?_append, Array.getElem?_append]
/-- What append wants of a slice type: the elements' type, how many cells, how many bytes. -/
def apI (P : Program) (t : TypeId) : Option (TypeId × Nat × Nat) := match P.underlying t with
  | some (.slice e) => match P.info? e with
    | some i => match i.zero with
      | some z => if (z.cells.size == i.size && Nat.blt 0 i.size && Nat.blt 0 i.bytes && z.cells.toList.all fun v => v.oneCell') then some (e, i.size, i.bytes) else none
      | none => none
    | none => none
  | _ => none
theorem apI_spec {P : Program} {t e : TypeId} {sz by_ : Nat} (h : apI P t = some (e, sz, by_)) : ∃ i z, P.underlying t = some (.slice e) ∧ P.info? e = some i ∧ i.zero = some z ∧ i.size = sz ∧ i.bytes = by_ ∧ z.cells.size = sz ∧ 0 < sz ∧ 0 < by_ ∧ ∀ v ∈ z.cells.toList, v.oneCell' = true := by
  unfold apI at h
  split at h
  · rename_i e' h1
    split at h
    · rename_i i h2
      split at h
      · rename_i z h3
        split at h
        · rename_i h4
          simp only [Option.some.injEq, Prod.mk.injEq] at h
          obtain ⟨rfl, rfl, rfl⟩ := h
          simp only [Bool.and_eq_true, beq_iff_eq, Nat.blt_eq, List.all_eq_true] at h4
          exact ⟨i, z, h1, h2, h3, rfl, rfl, h4.1.1.1, h4.1.1.2, h4.1.2, h4.2⟩
        · cases h
      · cases h
    · cases h
  · cases h
theorem append_sl {P : Program} {G H : Hp} {t u e : TypeId} {sz nb : Nat} (ht : apI P t = some (e, sz, nb)) (hu : slIs P u = true) {s x : Value} {xs ys : List Value} {L : List Asn}
    (h : sg G (own e sz s xs :: L) H) (hx : rds (H.un G) sz x ys)
    (h1 : ∀ v ∈ ys, v.oneCell' = true) (hlen : (xs.length + ys.length) * nb ≤ 140737488355328) {K : Value → Hp → Prop} (k : ∀ v H', sg G (own e sz v (xs ++ ys) :: L) H' → K v H') :
    opAppend P G t u s x H K := by
  obtain ⟨i, z, a1, a2, a3, a4, rfl, a6, a7, a8, a9⟩ := apI_spec ht
  exact append_own a1 (slIs_spec hu).1 a2 a4 a3 a6 h hx h1 a7 hlen a8 k
def inIs (P : Program) (t : TypeId) : Option IntKind := match P.underlying t with | some (.int k) => some k | _ => none
theorem append_mk {P : Program} {G H : Hp} {t u e : TypeId} {sz nb : Nat} {ku : IntKind} (ht : apI P t = some (e, sz, nb)) (hu : inIs P u = some ku) {s : Value} {n : Nat} {xs : List Value} {L : List Asn}
    (h : sg G (own e sz s xs :: L) H) (hlen : (xs.length + n * sz) * nb ≤ 140737488355328) {K : Value → Hp → Prop}
    (k : ∀ v H' ys, ys.length = n * sz → sg G (own e sz v (xs ++ ys) :: L) H' → K v H') : opAppend P G t u s (.int .i64 n) H K := by
  obtain ⟨i, z, a1, a2, a3, a4, rfl, a6, a7, a8, a9⟩ := apI_spec ht
  have hu' : P.underlying u = some (.int ku) := by
    unfold inIs at hu
    split at hu
    · rename_i k' hk; cases hu; exact hk
    · cases hu
  exact append_zeros a1 hu' a2 a4 a3 a6 a9 h a7 hlen a8 k
/-- A slice of the call's own, cut behind some. -/
theorem own_take {G H : Hp} {e : TypeId} {sz : Nat} {a : Option Addr} {len cap : Nat} {xs : List Value} {L : List Asn} (h : sg G (own e sz (.slice a len cap) xs :: L) H) (m : Nat) (hm : m ≤ len) :
    sg G (own e sz (.slice a m cap) (xs.take (m * sz)) :: L) H := by
  refine h.open_ (M := [own e sz (.slice a m cap) (xs.take (m * sz))]) fun H hd ho => ⟨H, Hp.emp, (Hp.un_emp H).symm, fun b => .inr rfl, ?_, trivial⟩
  rcases ho with ⟨q, rfl⟩ | ⟨b, off, len', cap', cs, fr, q, g1, g2, g3, g4, g5, g6⟩
  · cases q
    obtain rfl : m = 0 := by omega
    exact .inl ⟨rfl, by simp⟩
  · cases q
    have hms : m * sz ≤ len * sz := Nat.mul_le_mul_right _ hm
    refine .inr ⟨b, off, m, cap, cs, fr, rfl, g1, g2, by omega, g4, by rw [List.length_take]; omega, fun j hj => ?_⟩
    rw [List.length_take] at hj
    rw [g6 j (by omega), List.getElem?_take_of_lt (by omega)]
/-- Cut ahead of some. -/
theorem own_drop {G H : Hp} {e : TypeId} {sz : Nat} {a : Option Addr} {len cap : Nat} {xs : List Value} {L : List Asn} (h : sg G (own e sz (.slice a len cap) xs :: L) H) (m : Nat) (hm : m ≤ len) :
    sg G (own e sz (.slice (if cap = m then a else a.map (·.add (m * sz))) (len - m) (cap - m)) (xs.drop (m * sz)) :: L) H := by
  refine h.open_ (M := [own e sz _ (xs.drop (m * sz))]) fun H hd ho => ⟨H, Hp.emp, (Hp.un_emp H).symm, fun b => .inr rfl, ?_, trivial⟩
  rcases ho with ⟨q, rfl⟩ | ⟨b, off, len', cap', cs, fr, q, g1, g2, g3, g4, g5, g6⟩
  · cases q
    obtain rfl : m = 0 := by omega
    exact .inl ⟨by simp, by simp⟩
  · cases q
    obtain ⟨l', rfl⟩ : ∃ l', len = m + l' := ⟨len - m, by omega⟩
    obtain ⟨c', rfl⟩ : ∃ c', cap = m + c' := ⟨cap - m, by omega⟩
    rw [Nat.add_mul] at g4 g5
    rw [Nat.add_sub_cancel_left, Nat.add_sub_cancel_left]
    by_cases hc : m + c' = m
    · rw [if_pos hc]
      have h0 : xs.drop (m * sz) = [] := List.drop_eq_nil_of_le (by rw [g5]; have : l' = 0 := by omega
                                                                    subst this; omega)
      rw [h0]
      refine .inr ⟨b, off, l', c', cs, fr, rfl, g1, g2, by omega, by omega, ?_, fun j hj => by simp at hj⟩
      have : l' = 0 := by omega
      subst this; simp
    · rw [if_neg hc]
      refine .inr ⟨b, off + m * sz, l', c', cs, fr, by simp [add_mk], g1, g2, by omega, by omega, by rw [List.length_drop]; omega, fun j hj => ?_⟩
      rw [List.length_drop] at hj
      rw [List.getElem?_drop, Nat.add_assoc]
      exact g6 _ (by omega)

theorem sg.nil_ {G H : Hp} {L : List Asn} (h : sg G L H) (e : TypeId) (sz : Nat) : sg G (own e sz (.slice none 0 0) [] :: L) H :=
  ⟨h.1, Hp.emp, H, (Hp.emp_un H).symm, fun b => .inl rfl, .inl ⟨rfl, rfl⟩, h.2⟩
/-- The cells of a block that is the first piece. -/
theorem sg.c0 {G H : Hp} {b : Nat} {cs : Array Value} {t : TypeId} {fr : Nat × Nat} {L : List Asn} (h : sg G (ob b (.cells cs t fr) :: L) H) (off : Nat) : (H.un G).cell ⟨b, off, none⟩ = cs[off]? := ucell_of (seps_ob h.2) off
/-- The shape of a slice that is the i-th piece. -/
theorem sg.sl {G H : Hp} {L : List Asn} (h : sg G L H) (i : Nat) {X : Asn} {sz : Nat} {v : Value} {xs : List Value} (hi : L[i]? = some X) (r : Rd G X sz v xs) : ∃ a n c, v = .slice a n c ∧ xs.length = n * sz ∧ n ≤ c := by
  have h1 := h.front i
  unfold Sl.front at h1
  rw [hi] at h1
  exact (h1.rds r).slice
theorem sg.rdsi {G H : Hp} {L : List Asn} (h : sg G L H) (i : Nat) {X : Asn} {sz : Nat} {v : Value} {xs : List Value} (hi : L[i]? = some X) (r : Rd G X sz v xs) : Sl.rds (H.un G) sz v xs := by
  have h1 := h.front i
  unfold Sl.front at h1
  rw [hi] at h1
  exact h1.rds r
/-- Bytes, as cells. -/
def bv (l : List UInt8) : List Value := l.map fun c => .int .u8 c.toNat
theorem bv_length (l : List UInt8) : (bv l).length = l.length := by simp [bv]
theorem bv_append (l m : List UInt8) : bv (l ++ m) = bv l ++ bv m := by simp [bv]
theorem bv_take (l : List UInt8) (n : Nat) : bv (l.take n) = (bv l).take n := by simp [bv]
theorem bv_drop (l : List UInt8) (n : Nat) : bv (l.drop n) = (bv l).drop n := by simp [bv]
theorem bv_one (l : List UInt8) : ∀ v ∈ bv l, v.oneCell' = true := by
  intro v hv
  simp only [bv, List.mem_map] at hv
  obtain ⟨c, _, rfl⟩ := hv
  rfl
theorem wrap_id {n : Int} (h0 : -9223372036854775808 ≤ n) (h1 : n ≤ 9223372036854775807) : IntKind.i64.wrap n = n := by
  simp [IntKind.wrap, IntKind.bits, IntKind.signed]; omega
theorem wrap_u8 {n : Int} : IntKind.u8.wrap n = n % 256 := by
  simp [IntKind.wrap, IntKind.bits, IntKind.signed]
theorem wrap_u16 {n : Int} : IntKind.u16.wrap n = n % 65536 := by
  simp [IntKind.wrap, IntKind.bits, IntKind.signed]
theorem wrap_u32 {n : Int} : IntKind.u32.wrap n = n % 4294967296 := by
  simp [IntKind.wrap, IntKind.bits, IntKind.signed]
theorem wrap_u64_id {n : Int} (h0 : 0 ≤ n) (h1 : n < 18446744073709551616) : IntKind.u64.wrap n = n := by
  simp [IntKind.wrap, IntKind.bits, IntKind.signed]; omega
end Go.Sl
