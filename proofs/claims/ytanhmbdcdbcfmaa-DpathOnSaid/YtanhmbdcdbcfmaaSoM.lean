/- Entries of a table, sorted in place: two sorted ranges merged. -/
import Derived.Test.YtanhmbdcdbcfmaaSoR
set_option linter.unusedVariables false
set_option linter.unusedSimpArgs false
set_option maxRecDepth 10000
set_option maxHeartbeats 8000000
namespace Go.Proofs.Ytanhmbdcdbcfmaa.SoM
open Nat renaming reduceEqDiff → nq0, reduceAdd → nq1, reduceLeDiff → nq2, reduceBEq → nq3, reduceMul → nq4
open Int renaming reduceBEq → iq0, reduceEq → iq1, reduceLT → iq2, reduceLE → iq3, reduceAdd → iq4, reduceSub → iq5, reduceMul → iq6, reduceToNat → iq7, cast_ofNat_Int → iq8
open Go Go.Sl Go.Proofs Go.Proofs.Ytanhmbdcdbcfmaa.So Go.Proofs.Ytanhmbdcdbcfmaa.SoI Go.Proofs.Ytanhmbdcdbcfmaa.SoR
theorem TY : aggN Try.prog 3 = some none ∧
  aggN Try.prog 22 = some none ∧
  aggN Try.prog 196 = some (some 11) ∧
  aggN Try.prog 200 = some none ∧
  aggN Try.prog 260 = some none ∧
  apI Try.prog 22 = some (196, 11, 88) ∧
  bIs Try.prog 196 = true ∧
  csz Try.prog 3 = some 1 ∧
  csz Try.prog 22 = some 1 ∧
  csz Try.prog 196 = some 11 ∧
  csz Try.prog 200 = some 1 ∧
  csz Try.prog 260 = some 1 ∧
  eqF Try.prog 196 = some [.i, .i, .i, .i, .i, .i, .i, .i, .i, .i, .i] ∧
  fnIs Try.prog 200 = true ∧
  goes Try.prog 191 = true ∧
  goes Try.prog 198 = true ∧
  inIs Try.prog 3 = some .i64 ∧
  inIs Try.prog 260 = some .u64 ∧
  plcs Try.prog 196 = [(0, 1), (1, 1), (2, 1), (3, 1), (4, 1), (5, 1), (6, 1), (7, 4)] ∧
  slEl Try.prog 22 = 196 ∧
  slIs Try.prog 22 = true ∧
  slSz Try.prog 22 = 11 ∧
  zcs Try.prog 196 = [.int .i64 0, .int .i64 0, .int .u64 0, .int .i64 0, .int .i64 0, .int .i64 0, .int .i64 0, .int .i64 0, .int .i64 0, .int .i64 0, .int .i64 0] ∧
  zro Try.prog 3 = some (.int .i64 0) ∧
  zro Try.prog 22 = some (.slice none 0 0) ∧
  zro Try.prog 196 = some (.agg #[.int .i64 0, .int .i64 0, .int .u64 0, .int .i64 0, .int .i64 0, .int .i64 0, .int .i64 0, .int .i64 0, .int .i64 0, .int .i64 0, .int .i64 0]) ∧
  zro Try.prog 200 = some (.nilFunc) ∧
  zro Try.prog 260 = some (.int .u64 0) :=
  ⟨by kernel_rfl, by kernel_rfl, by kernel_rfl, by kernel_rfl, by kernel_rfl, by kernel_rfl, by kernel_rfl, by kernel_rfl, by kernel_rfl, by kernel_rfl, by kernel_rfl, by kernel_rfl, by kernel_rfl, by kernel_rfl, by kernel_rfl, by kernel_rfl, by kernel_rfl, by kernel_rfl, by kernel_rfl, by kernel_rfl, by kernel_rfl, by kernel_rfl, by kernel_rfl, by kernel_rfl, by kernel_rfl, by kernel_rfl, by kernel_rfl, by kernel_rfl⟩
def D191_5 : List Note := Go.Sl.nn [0, 0, 0, 0, 1, 0, 0, 0, 1, 3, 0]
def D191_11 : List Note := Go.Sl.nn [0, 0, 0, 0, 0, 0, 0, 0, 0, 1, 0, 0, 0, 1, 0, 3, 0, 3]
def D191_17 : List Note := Go.Sl.nn [0, 0, 0, 0, 1, 0, 0, 0, 1, 3, 0, 0]
def D191_23 : List Note := Go.Sl.nn [0, 0, 0, 0, 0, 0, 0, 0, 0, 1, 0, 0, 0, 1, 0, 3, 0, 3]
def D191_35 : List Note := Go.Sl.nn [0, 0, 0, 0, 0, 0, 1, 0, 0, 0, 1, 3, 0, 0]
def gk (l : List En) (i : Nat) : Int := ((l[i]?).map kk).getD 0
theorem gk_get {l : List En} {i : Nat} (h : i < l.length) : kk l[i] = gk l i := by unfold gk; rw [List.getElem?_eq_getElem h]; rfl
theorem seg_get {l X s Y : List En} (e : l = X ++ s ++ Y) {i : Nat} (hi : i < s.length) : gk l (X.length + i) = kk s[i] := by
  subst e
  unfold gk
  rw [List.append_assoc, List.getElem?_append_right (by omega), Nat.add_sub_cancel_left, List.getElem?_append_left hi, List.getElem?_eq_getElem hi]; rfl
theorem seg_mono {l X s Y : List En} (e : l = X ++ s ++ Y) (h : Srt kk s) : ∀ i j, X.length ≤ i → i ≤ j → j < X.length + s.length → gk l i ≤ gk l j := by
  intro i j h1 h2 h3
  obtain ⟨i', rfl⟩ : ∃ i', i = X.length + i' := ⟨i - X.length, by omega⟩
  obtain ⟨j', rfl⟩ : ∃ j', j = X.length + j' := ⟨j - X.length, by omega⟩
  rw [seg_get e (i := i') (by omega), seg_get e (i := j') (by omega)]
  exact h.get (by omega) (by omega)
theorem seg_mem {l X s Y : List En} (e : l = X ++ s ++ Y) {y : En} (hy : y ∈ s) : ∃ h, X.length ≤ h ∧ h < X.length + s.length ∧ kk y = gk l h := by
  obtain ⟨i, hi, rfl⟩ := List.getElem_of_mem hy
  exact ⟨X.length + i, by omega, by omega, (seg_get e hi).symm⟩
theorem rdI {R : Hp} {A : Option Addr} {n c i : Nat} {l : List En} (h : rds R 11 (.slice A n c) (l.flatMap En.l)) (hi : i < l.length) :
    ∃ b off, A = some ⟨b, off, none⟩ ∧ i < n ∧ ldl R ⟨b, off + i * 11, none⟩ 0 11 = some (l[i]).l :=
  rdE En.len (by decide) h (X := l.take i) (Y := l.drop (i + 1)) (by rw [← List.drop_eq_getElem_cons hi, List.take_append_drop]) (by rw [List.length_take]; omega)
theorem cmp_g {l : List En} {i j : Nat} (hi : i < l.length) (hj : j < l.length) : cmpV l[i] l[j] < 0 ↔ gk l i < gk l j := by rw [cmpV_lt, gk_get, gk_get]
theorem halfW {i j h : Nat} (hij : i + j ≤ 1000000) (hh : h = (i + j) / 2) : IntKind.i64.wrap ((IntKind.u64.wrap ((i + j : Nat) : Int)).fdiv (2 ^ min 1 64)) = (h : Int) := by
  rw [wrap_u64_id (by omega) (by omega)]
  have e : (2 : Int) ^ min 1 64 = 2 := by decide
  rw [e, Int.fdiv_eq_ediv_of_nonneg _ (by decide), wrap_id (by omega) (by omega)]
  omega
theorem hv_of {s t : List En} (h : s = [] ∨ t = []) (hs : Srt kk s) (ht : Srt kk t) : Srt kk (s ++ t) ∧ SE kk (s ++ t) (s ++ t) := by
  refine ⟨?_, SE.refl _⟩
  rcases h with rfl | rfl
  · exact ht
  · rw [List.append_nil]; exact hs
theorem nil_or {s t : List En} (h : s.length = 0 ∨ t.length = 0) : s = [] ∨ t = [] := h.imp List.length_eq_zero_iff.1 List.length_eq_zero_iff.1
theorem owe {A : Option Addr} {n c : Nat} {l l' : List En} (e : l = l') : [ow A n c l] = [ow A n c l'] := by rw [e]
theorem sgc {G H : Hp} {A : Option Addr} {n c : Nat} {l l' : List En} (h : sg G [ow A n c l] H) (e : l = l') : sg G [ow A n c l'] H := e ▸ h
def SymR (A : Option Addr) (n c : Nat) (p s t q : List En) (B : List Asn) : Prop := ∃ u, Srt kk u ∧ SE kk (s ++ t) u ∧ B = [ow A n c (p ++ u ++ q)]
theorem sym1 {G : Hp} {A : Option Addr} {n c a m b : Nat} {p s t q l : List En} (hk : goes Try.prog 98 = true) (e : l = p ++ s ++ t ++ q) (ha : p.length = a) (hm : a + s.length = m) (hb : m + t.length = b) (hs : s.length = 1) (ht : 0 < t.length) (hn : b ≤ 100000)
    (h1 : Srt kk s) (h2 : Srt kk t) : Con Try.prog G 191 [.slice A n c, .int .i64 a, .int .i64 m, .int .i64 b, lessF] [ow A n c l] (fun r B => SymR A n c p s t q B) := by
  obtain ⟨x, rfl⟩ := List.length_eq_one_iff.1 hs
  have hl : b ≤ l.length := by rw [e]; simp at hm ⊢; omega
  have mono := seg_mono (X := p ++ [x]) (s := t) (Y := q) e h2
  simp only [List.length_append, List.length_singleton] at mono hm
  refine Con.intro Try.func191 rfl (Nat.le_of_ble_eq_true (by kernel_rfl)) (by kernel_rfl) Try.results191 ?_
  intro H h
  have w1 : IntKind.i64.wrap ((m : Int) - (a : Int)) = 1 := by rw [wrap_id] <;> omega
  ((try simp only [S, TY, reduceCtorEq, nq0, nq1, nq2, nq3, nq4, iq0, iq1, iq2, iq3, iq4, iq5, iq6, iq7, iq8, w1]); (try (simp (disch := omega) only [W2, Int.cast_ofNat_Int]; (try simp only [S, TY, reduceCtorEq, nq0, nq1, nq2, nq3, nq4, iq0, iq1, iq2, iq3, iq4, iq5, iq6, iq7, iq8, w1]))); repeat ((first | (refine cl_drawi 5 D191_5 (List.range 11) (by decide) (by kernel_rfl) ?_; unfold D191_5) | (refine cl_drawi 11 D191_11 ([0, 1, 13, 14, 15, 2, 3, 4, 5, 6, 7, 8, 9, 10, 11, 12, 16, 17]) (by decide) (by kernel_rfl) ?_; unfold D191_11) | (refine cl_drawi 17 D191_17 (List.range 12) (by decide) (by kernel_rfl) ?_; unfold D191_17) | (refine cl_drawi 23 D191_23 ([0, 1, 13, 14, 15, 2, 3, 4, 5, 6, 7, 8, 9, 10, 11, 12, 16, 17]) (by decide) (by kernel_rfl) ?_; unfold D191_23) | (refine cl_drawi 35 D191_35 (List.range 14) (by decide) (by kernel_rfl) ?_; unfold D191_35)); simp only [S, TY, reduceCtorEq, nq0, nq1, nq2, nq3, nq4, iq0, iq1, iq2, iq3, iq4, iq5, iq6, iq7, iq8, w1]; (try (simp (disch := omega) only [W2, Int.cast_ofNat_Int]; (try simp only [S, TY, reduceCtorEq, nq0, nq1, nq2, nq3, nq4, iq0, iq1, iq2, iq3, iq4, iq5, iq6, iq7, iq8, w1])))))
  refine cl_loop (fun z e H => ∃ i j : Nat, z = j - i ∧ (m ≤ i ∧ i ≤ j ∧ j ≤ b) ∧ e 0 = .slice A n c ∧ e 1 = .int .i64 a ∧ e 4 = lessF ∧ e 10 = .int .i64 i ∧ e 11 = .int .i64 j ∧ (∀ h, m ≤ h → h < i → gk l h < gk l a) ∧ (∀ h, j ≤ h → h < b → gk l a ≤ gk l h) ∧
    sg G [ow A n c l] H) (fun z : Nat => z) (b - m) ⟨m, b, rfl, by omega, rfl, rfl, rfl, rfl, rfl, by omega, by omega, h⟩ ?_
  clear h
  rintro z e' H ⟨i, j, rfl, hij, q0, q1, q4, q10, q11, o1, o2, h⟩
  by_cases g1 : (i : Int) < j
  · have w2 : IntKind.i64.wrap ((i : Int) + (j : Int)) = ((i + j : Nat) : Int) := by rw [wrap_id] <;> omega
    obtain ⟨d, hd⟩ : ∃ d, d = (i + j) / 2 := ⟨_, rfl⟩
    have w3 := halfW (by omega) hd
    have w4 : IntKind.i64.wrap ((d : Int) + 1) = ((d + 1 : Nat) : Int) := by rw [wrap_id] <;> omega
    obtain ⟨bl, off, rfl, hdn, el⟩ := rdI (h.rdsi 0 rfl Rd_own) (i := d) (by omega)
    obtain ⟨_, _, z, han, el'⟩ := rdI (h.rdsi 0 rfl Rd_own) (i := a) (by omega)
    cases z
    have b1 : (0 : Int) ≤ (d : Nat) ∧ ((d : Nat) : Int) < n := by omega
    have b2 : (0 : Int) ≤ (a : Nat) ∧ ((a : Nat) : Int) < n := by omega
    ((try simp only [S, TY, reduceCtorEq, nq0, nq1, nq2, nq3, nq4, iq0, iq1, iq2, iq3, iq4, iq5, iq6, iq7, iq8, q0, q1, q4, q10, q11, g1, w2, w3, b1, b2, el, el', hk]); (try (simp (disch := omega) only [W2, Int.cast_ofNat_Int]; (try simp only [S, TY, reduceCtorEq, nq0, nq1, nq2, nq3, nq4, iq0, iq1, iq2, iq3, iq4, iq5, iq6, iq7, iq8, q0, q1, q4, q10, q11, g1, w2, w3, b1, b2, el, el', hk]))); repeat ((first | (refine cl_drawi 5 D191_5 (List.range 11) (by decide) (by kernel_rfl) ?_; unfold D191_5) | (refine cl_drawi 11 D191_11 ([0, 1, 13, 14, 15, 2, 3, 4, 5, 6, 7, 8, 9, 10, 11, 12, 16, 17]) (by decide) (by kernel_rfl) ?_; unfold D191_11) | (refine cl_drawi 17 D191_17 (List.range 12) (by decide) (by kernel_rfl) ?_; unfold D191_17) | (refine cl_drawi 23 D191_23 ([0, 1, 13, 14, 15, 2, 3, 4, 5, 6, 7, 8, 9, 10, 11, 12, 16, 17]) (by decide) (by kernel_rfl) ?_; unfold D191_23) | (refine cl_drawi 35 D191_35 (List.range 14) (by decide) (by kernel_rfl) ?_; unfold D191_35)); simp only [S, TY, reduceCtorEq, nq0, nq1, nq2, nq3, nq4, iq0, iq1, iq2, iq3, iq4, iq5, iq6, iq7, iq8, q0, q1, q4, q10, q11, g1, w2, w3, b1, b2, el, el', hk]; (try (simp (disch := omega) only [W2, Int.cast_ofNat_Int]; (try simp only [S, TY, reduceCtorEq, nq0, nq1, nq2, nq3, nq4, iq0, iq1, iq2, iq3, iq4, iq5, iq6, iq7, iq8, q0, q1, q4, q10, q11, g1, w2, w3, b1, b2, el, el', hk])))))
    refine (less_ok l[d] l[a]).at_ h [] _ rfl (fun r B H' hr h' => ?_)
    obtain ⟨rfl, rfl⟩ := hr
    have hc := cmp_g (l := l) (i := d) (j := a) (by omega) (by omega)
    ((try simp only [S, TY, reduceCtorEq, nq0, nq1, nq2, nq3, nq4, iq0, iq1, iq2, iq3, iq4, iq5, iq6, iq7, iq8]); (try (simp (disch := omega) only [W2, Int.cast_ofNat_Int]; (try simp only [S, TY, reduceCtorEq, nq0, nq1, nq2, nq3, nq4, iq0, iq1, iq2, iq3, iq4, iq5, iq6, iq7, iq8]))); repeat ((first | (refine cl_drawi 5 D191_5 (List.range 11) (by decide) (by kernel_rfl) ?_; unfold D191_5) | (refine cl_drawi 11 D191_11 ([0, 1, 13, 14, 15, 2, 3, 4, 5, 6, 7, 8, 9, 10, 11, 12, 16, 17]) (by decide) (by kernel_rfl) ?_; unfold D191_11) | (refine cl_drawi 17 D191_17 (List.range 12) (by decide) (by kernel_rfl) ?_; unfold D191_17) | (refine cl_drawi 23 D191_23 ([0, 1, 13, 14, 15, 2, 3, 4, 5, 6, 7, 8, 9, 10, 11, 12, 16, 17]) (by decide) (by kernel_rfl) ?_; unfold D191_23) | (refine cl_drawi 35 D191_35 (List.range 14) (by decide) (by kernel_rfl) ?_; unfold D191_35)); simp only [S, TY, reduceCtorEq, nq0, nq1, nq2, nq3, nq4, iq0, iq1, iq2, iq3, iq4, iq5, iq6, iq7, iq8]; (try (simp (disch := omega) only [W2, Int.cast_ofNat_Int]; (try simp only [S, TY, reduceCtorEq, nq0, nq1, nq2, nq3, nq4, iq0, iq1, iq2, iq3, iq4, iq5, iq6, iq7, iq8])))))
    by_cases g2 : cmpV l[d] l[a] < 0
    · have g3 := hc.1 g2
      ((try simp only [S, TY, reduceCtorEq, nq0, nq1, nq2, nq3, nq4, iq0, iq1, iq2, iq3, iq4, iq5, iq6, iq7, iq8, g2, w4]); (try (simp (disch := omega) only [W2, Int.cast_ofNat_Int]; (try simp only [S, TY, reduceCtorEq, nq0, nq1, nq2, nq3, nq4, iq0, iq1, iq2, iq3, iq4, iq5, iq6, iq7, iq8, g2, w4]))); repeat ((first | (refine cl_drawi 5 D191_5 (List.range 11) (by decide) (by kernel_rfl) ?_; unfold D191_5) | (refine cl_drawi 11 D191_11 ([0, 1, 13, 14, 15, 2, 3, 4, 5, 6, 7, 8, 9, 10, 11, 12, 16, 17]) (by decide) (by kernel_rfl) ?_; unfold D191_11) | (refine cl_drawi 17 D191_17 (List.range 12) (by decide) (by kernel_rfl) ?_; unfold D191_17) | (refine cl_drawi 23 D191_23 ([0, 1, 13, 14, 15, 2, 3, 4, 5, 6, 7, 8, 9, 10, 11, 12, 16, 17]) (by decide) (by kernel_rfl) ?_; unfold D191_23) | (refine cl_drawi 35 D191_35 (List.range 14) (by decide) (by kernel_rfl) ?_; unfold D191_35)); simp only [S, TY, reduceCtorEq, nq0, nq1, nq2, nq3, nq4, iq0, iq1, iq2, iq3, iq4, iq5, iq6, iq7, iq8, g2, w4]; (try (simp (disch := omega) only [W2, Int.cast_ofNat_Int]; (try simp only [S, TY, reduceCtorEq, nq0, nq1, nq2, nq3, nq4, iq0, iq1, iq2, iq3, iq4, iq5, iq6, iq7, iq8, g2, w4])))))
      refine .go (j - (d + 1)) ?_ ⟨d + 1, j, rfl, by omega, q0, q1, q4, rfl, q11, ?_, o2, h'⟩
      · show j - (d + 1) < j - i
        omega
      · intro h k1 k2
        exact Int.lt_of_le_of_lt (mono h d (by omega) (by omega) (by omega)) g3
    · have g3 := mt hc.2 g2
      ((try simp only [S, TY, reduceCtorEq, nq0, nq1, nq2, nq3, nq4, iq0, iq1, iq2, iq3, iq4, iq5, iq6, iq7, iq8, g2, w4]); (try (simp (disch := omega) only [W2, Int.cast_ofNat_Int]; (try simp only [S, TY, reduceCtorEq, nq0, nq1, nq2, nq3, nq4, iq0, iq1, iq2, iq3, iq4, iq5, iq6, iq7, iq8, g2, w4]))); repeat ((first | (refine cl_drawi 5 D191_5 (List.range 11) (by decide) (by kernel_rfl) ?_; unfold D191_5) | (refine cl_drawi 11 D191_11 ([0, 1, 13, 14, 15, 2, 3, 4, 5, 6, 7, 8, 9, 10, 11, 12, 16, 17]) (by decide) (by kernel_rfl) ?_; unfold D191_11) | (refine cl_drawi 17 D191_17 (List.range 12) (by decide) (by kernel_rfl) ?_; unfold D191_17) | (refine cl_drawi 23 D191_23 ([0, 1, 13, 14, 15, 2, 3, 4, 5, 6, 7, 8, 9, 10, 11, 12, 16, 17]) (by decide) (by kernel_rfl) ?_; unfold D191_23) | (refine cl_drawi 35 D191_35 (List.range 14) (by decide) (by kernel_rfl) ?_; unfold D191_35)); simp only [S, TY, reduceCtorEq, nq0, nq1, nq2, nq3, nq4, iq0, iq1, iq2, iq3, iq4, iq5, iq6, iq7, iq8, g2, w4]; (try (simp (disch := omega) only [W2, Int.cast_ofNat_Int]; (try simp only [S, TY, reduceCtorEq, nq0, nq1, nq2, nq3, nq4, iq0, iq1, iq2, iq3, iq4, iq5, iq6, iq7, iq8, g2, w4])))))
      refine .go (d - i) ?_ ⟨i, d, rfl, by omega, q0, q1, q4, q10, rfl, o1, ?_, h'⟩
      · show d - i < j - i
        omega
      · intro h k1 k2
        exact Int.le_trans (by omega) (mono d h (by omega) (by omega) (by omega))
  · ((try simp only [S, TY, reduceCtorEq, nq0, nq1, nq2, nq3, nq4, iq0, iq1, iq2, iq3, iq4, iq5, iq6, iq7, iq8, q0, q1, q4, q10, q11, g1]); (try (simp (disch := omega) only [W2, Int.cast_ofNat_Int]; (try simp only [S, TY, reduceCtorEq, nq0, nq1, nq2, nq3, nq4, iq0, iq1, iq2, iq3, iq4, iq5, iq6, iq7, iq8, q0, q1, q4, q10, q11, g1]))); repeat ((first | (refine cl_drawi 5 D191_5 (List.range 11) (by decide) (by kernel_rfl) ?_; unfold D191_5) | (refine cl_drawi 11 D191_11 ([0, 1, 13, 14, 15, 2, 3, 4, 5, 6, 7, 8, 9, 10, 11, 12, 16, 17]) (by decide) (by kernel_rfl) ?_; unfold D191_11) | (refine cl_drawi 17 D191_17 (List.range 12) (by decide) (by kernel_rfl) ?_; unfold D191_17) | (refine cl_drawi 23 D191_23 ([0, 1, 13, 14, 15, 2, 3, 4, 5, 6, 7, 8, 9, 10, 11, 12, 16, 17]) (by decide) (by kernel_rfl) ?_; unfold D191_23) | (refine cl_drawi 35 D191_35 (List.range 14) (by decide) (by kernel_rfl) ?_; unfold D191_35)); simp only [S, TY, reduceCtorEq, nq0, nq1, nq2, nq3, nq4, iq0, iq1, iq2, iq3, iq4, iq5, iq6, iq7, iq8, q0, q1, q4, q10, q11, g1]; (try (simp (disch := omega) only [W2, Int.cast_ofNat_Int]; (try simp only [S, TY, reduceCtorEq, nq0, nq1, nq2, nq3, nq4, iq0, iq1, iq2, iq3, iq4, iq5, iq6, iq7, iq8, q0, q1, q4, q10, q11, g1])))))
    obtain rfl : i = j := by omega
    obtain ⟨t1, t2, rfl, l1⟩ : ∃ t1 t2, t = t1 ++ t2 ∧ t1.length = i - m := ⟨t.take (i - m), t.drop (i - m), by simp, by rw [List.length_take]; omega⟩
    have ex : gk l a = kk x := by
      have := seg_get (l := l) (X := p) (s := [x]) (Y := t1 ++ t2 ++ q) (by rw [e, List.append_assoc]) (i := 0) (by simp)
      rw [Nat.add_zero, ha] at this; exact this
    have hR := one_right h2 (x := x) (by
      intro y hy
      obtain ⟨h, k1, k2, k3⟩ := seg_mem (l := l) (X := p ++ [x]) (s := t1) (Y := t2 ++ q) (by rw [e]; simp [List.append_assoc]) hy
      simp only [List.length_append, List.length_singleton] at k1 k2
      rw [k3, ← ex]; exact o1 h (by omega) (by omega)) (by
      intro y hy
      obtain ⟨h, k1, k2, k3⟩ := seg_mem (l := l) (X := p ++ [x] ++ t1) (s := t2) (Y := q) (by rw [e]; simp [List.append_assoc]) hy
      simp only [List.length_append, List.length_singleton] at k1 k2 hb
      rw [k3, ← ex]; exact o2 h (by omega) (by omega))
    clear o1 o2 ex
    refine cl_loop (fun k e H => (a ≤ k ∧ k < i) ∧ e 0 = .slice A n c ∧ e 10 = .int .i64 i ∧ e 13 = .int .i64 (k : Nat) ∧ ∃ u w, t1 = u ++ w ∧ u.length = k - a ∧
      sg G [ow A n c (p ++ u ++ [x] ++ w ++ t2 ++ q)] H) (fun k : Nat => i - k) a ⟨by omega, q0, q10, rfl, [], t1, rfl, by simp, by rw [e] at h; simpa [List.append_assoc, -List.flatMap_append, -List.flatMap_cons] using h⟩ ?_
    clear h
    rintro k e2 H ⟨hk2, q0, q10, q13, u, w, rfl, l2, h⟩
    have w5 : IntKind.i64.wrap ((i : Int) - 1) = ((i - 1 : Nat) : Int) := by rw [wrap_id] <;> omega
    have w6 : IntKind.i64.wrap ((k : Int) + 1) = ((k + 1 : Nat) : Int) := by rw [wrap_id] <;> omega
    simp only [List.length_append] at l1
    by_cases g2 : (k : Int) < ((i - 1 : Nat) : Int)
    · cases w with
      | nil => simp only [List.length_nil] at l1; omega
      | cons y w =>
      simp only [List.length_cons] at l1
      obtain ⟨bl, off, rfl, hjn, el⟩ := rdE En.len (by decide) (h.rdsi 0 rfl Rd_own) (j := k) (X := p ++ u) (x := x) (Y := y :: w ++ t2 ++ q) (by simp [List.append_assoc]) (by simp; omega)
      obtain ⟨_, _, z, hjn', el'⟩ := rdE En.len (by decide) (h.rdsi 0 rfl Rd_own) (j := k + 1) (X := p ++ u ++ [x]) (x := y) (Y := w ++ t2 ++ q) (by simp [List.append_assoc]) (by simp; omega)
      cases z
      have b1 : (0 : Int) ≤ (k : Nat) ∧ ((k : Nat) : Int) < n := by omega
      have b2 : (0 : Int) ≤ ((k + 1 : Nat) : Int) ∧ ((k + 1 : Nat) : Int) < n := by omega
      ((try simp only [S, TY, reduceCtorEq, nq0, nq1, nq2, nq3, nq4, iq0, iq1, iq2, iq3, iq4, iq5, iq6, iq7, iq8, q0, q10, q13, w5, w6, g2, b1, b2, el, el']); (try (simp (disch := omega) only [W2, Int.cast_ofNat_Int]; (try simp only [S, TY, reduceCtorEq, nq0, nq1, nq2, nq3, nq4, iq0, iq1, iq2, iq3, iq4, iq5, iq6, iq7, iq8, q0, q10, q13, w5, w6, g2, b1, b2, el, el']))); repeat ((first | (refine cl_drawi 5 D191_5 (List.range 11) (by decide) (by kernel_rfl) ?_; unfold D191_5) | (refine cl_drawi 11 D191_11 ([0, 1, 13, 14, 15, 2, 3, 4, 5, 6, 7, 8, 9, 10, 11, 12, 16, 17]) (by decide) (by kernel_rfl) ?_; unfold D191_11) | (refine cl_drawi 17 D191_17 (List.range 12) (by decide) (by kernel_rfl) ?_; unfold D191_17) | (refine cl_drawi 23 D191_23 ([0, 1, 13, 14, 15, 2, 3, 4, 5, 6, 7, 8, 9, 10, 11, 12, 16, 17]) (by decide) (by kernel_rfl) ?_; unfold D191_23) | (refine cl_drawi 35 D191_35 (List.range 14) (by decide) (by kernel_rfl) ?_; unfold D191_35)); simp only [S, TY, reduceCtorEq, nq0, nq1, nq2, nq3, nq4, iq0, iq1, iq2, iq3, iq4, iq5, iq6, iq7, iq8, q0, q10, q13, w5, w6, g2, b1, b2, el, el']; (try (simp (disch := omega) only [W2, Int.cast_ofNat_Int]; (try simp only [S, TY, reduceCtorEq, nq0, nq1, nq2, nq3, nq4, iq0, iq1, iq2, iq3, iq4, iq5, iq6, iq7, iq8, q0, q10, q13, w5, w6, g2, b1, b2, el, el'])))))
      refine stE En.len h (X := p ++ u) (y := x) (Y := y :: w ++ t2 ++ q) (by simp [List.append_assoc]) (by simp; omega) y rfl (fun H2 h2 => ?_)
      ((try simp only [S, TY, reduceCtorEq, nq0, nq1, nq2, nq3, nq4, iq0, iq1, iq2, iq3, iq4, iq5, iq6, iq7, iq8, q0, q10, q13, w5, w6, g2, b1, b2]); (try (simp (disch := omega) only [W2, Int.cast_ofNat_Int]; (try simp only [S, TY, reduceCtorEq, nq0, nq1, nq2, nq3, nq4, iq0, iq1, iq2, iq3, iq4, iq5, iq6, iq7, iq8, q0, q10, q13, w5, w6, g2, b1, b2]))); repeat ((first | (refine cl_drawi 5 D191_5 (List.range 11) (by decide) (by kernel_rfl) ?_; unfold D191_5) | (refine cl_drawi 11 D191_11 ([0, 1, 13, 14, 15, 2, 3, 4, 5, 6, 7, 8, 9, 10, 11, 12, 16, 17]) (by decide) (by kernel_rfl) ?_; unfold D191_11) | (refine cl_drawi 17 D191_17 (List.range 12) (by decide) (by kernel_rfl) ?_; unfold D191_17) | (refine cl_drawi 23 D191_23 ([0, 1, 13, 14, 15, 2, 3, 4, 5, 6, 7, 8, 9, 10, 11, 12, 16, 17]) (by decide) (by kernel_rfl) ?_; unfold D191_23) | (refine cl_drawi 35 D191_35 (List.range 14) (by decide) (by kernel_rfl) ?_; unfold D191_35)); simp only [S, TY, reduceCtorEq, nq0, nq1, nq2, nq3, nq4, iq0, iq1, iq2, iq3, iq4, iq5, iq6, iq7, iq8, q0, q10, q13, w5, w6, g2, b1, b2]; (try (simp (disch := omega) only [W2, Int.cast_ofNat_Int]; (try simp only [S, TY, reduceCtorEq, nq0, nq1, nq2, nq3, nq4, iq0, iq1, iq2, iq3, iq4, iq5, iq6, iq7, iq8, q0, q10, q13, w5, w6, g2, b1, b2])))))
      refine stE En.len h2 (X := p ++ u ++ [y]) (y := y) (Y := w ++ t2 ++ q) (by simp [List.append_assoc]) (by simp; omega) x rfl (fun H3 h3 => ?_)
      ((try simp only [S, TY, reduceCtorEq, nq0, nq1, nq2, nq3, nq4, iq0, iq1, iq2, iq3, iq4, iq5, iq6, iq7, iq8, q0, q10, q13, w5, w6, g2, b1, b2]); (try (simp (disch := omega) only [W2, Int.cast_ofNat_Int]; (try simp only [S, TY, reduceCtorEq, nq0, nq1, nq2, nq3, nq4, iq0, iq1, iq2, iq3, iq4, iq5, iq6, iq7, iq8, q0, q10, q13, w5, w6, g2, b1, b2]))); repeat ((first | (refine cl_drawi 5 D191_5 (List.range 11) (by decide) (by kernel_rfl) ?_; unfold D191_5) | (refine cl_drawi 11 D191_11 ([0, 1, 13, 14, 15, 2, 3, 4, 5, 6, 7, 8, 9, 10, 11, 12, 16, 17]) (by decide) (by kernel_rfl) ?_; unfold D191_11) | (refine cl_drawi 17 D191_17 (List.range 12) (by decide) (by kernel_rfl) ?_; unfold D191_17) | (refine cl_drawi 23 D191_23 ([0, 1, 13, 14, 15, 2, 3, 4, 5, 6, 7, 8, 9, 10, 11, 12, 16, 17]) (by decide) (by kernel_rfl) ?_; unfold D191_23) | (refine cl_drawi 35 D191_35 (List.range 14) (by decide) (by kernel_rfl) ?_; unfold D191_35)); simp only [S, TY, reduceCtorEq, nq0, nq1, nq2, nq3, nq4, iq0, iq1, iq2, iq3, iq4, iq5, iq6, iq7, iq8, q0, q10, q13, w5, w6, g2, b1, b2]; (try (simp (disch := omega) only [W2, Int.cast_ofNat_Int]; (try simp only [S, TY, reduceCtorEq, nq0, nq1, nq2, nq3, nq4, iq0, iq1, iq2, iq3, iq4, iq5, iq6, iq7, iq8, q0, q10, q13, w5, w6, g2, b1, b2])))))
      refine .go (k + 1) (by omega) ⟨by omega, q0, q10, rfl, u ++ [y], w, by simp, by simp; omega, by simpa [List.append_assoc, -List.flatMap_append, -List.flatMap_cons] using h3⟩
    · obtain rfl : w = [] := List.length_eq_zero_iff.1 (by omega)
      ((try simp only [S, TY, reduceCtorEq, nq0, nq1, nq2, nq3, nq4, iq0, iq1, iq2, iq3, iq4, iq5, iq6, iq7, iq8, q0, q10, q13, w5, w6, g2]); (try (simp (disch := omega) only [W2, Int.cast_ofNat_Int]; (try simp only [S, TY, reduceCtorEq, nq0, nq1, nq2, nq3, nq4, iq0, iq1, iq2, iq3, iq4, iq5, iq6, iq7, iq8, q0, q10, q13, w5, w6, g2]))); repeat ((first | (refine cl_drawi 5 D191_5 (List.range 11) (by decide) (by kernel_rfl) ?_; unfold D191_5) | (refine cl_drawi 11 D191_11 ([0, 1, 13, 14, 15, 2, 3, 4, 5, 6, 7, 8, 9, 10, 11, 12, 16, 17]) (by decide) (by kernel_rfl) ?_; unfold D191_11) | (refine cl_drawi 17 D191_17 (List.range 12) (by decide) (by kernel_rfl) ?_; unfold D191_17) | (refine cl_drawi 23 D191_23 ([0, 1, 13, 14, 15, 2, 3, 4, 5, 6, 7, 8, 9, 10, 11, 12, 16, 17]) (by decide) (by kernel_rfl) ?_; unfold D191_23) | (refine cl_drawi 35 D191_35 (List.range 14) (by decide) (by kernel_rfl) ?_; unfold D191_35)); simp only [S, TY, reduceCtorEq, nq0, nq1, nq2, nq3, nq4, iq0, iq1, iq2, iq3, iq4, iq5, iq6, iq7, iq8, q0, q10, q13, w5, w6, g2]; (try (simp (disch := omega) only [W2, Int.cast_ofNat_Int]; (try simp only [S, TY, reduceCtorEq, nq0, nq1, nq2, nq3, nq4, iq0, iq1, iq2, iq3, iq4, iq5, iq6, iq7, iq8, q0, q10, q13, w5, w6, g2])))))
      exact fin_take (B := [_]) h ⟨_, hR.1, hR.2, by simp [List.append_assoc, -List.flatMap_append, -List.flatMap_cons]⟩
theorem sym2 {G : Hp} {A : Option Addr} {n c a m b : Nat} {p s t q l : List En} (hk : goes Try.prog 98 = true) (e : l = p ++ s ++ t ++ q) (ha : p.length = a) (hm : a + s.length = m) (hb : m + t.length = b) (hs : 1 < s.length) (ht : t.length = 1) (hn : b ≤ 100000)
    (h1 : Srt kk s) (h2 : Srt kk t) : Con Try.prog G 191 [.slice A n c, .int .i64 a, .int .i64 m, .int .i64 b, lessF] [ow A n c l] (fun r B => SymR A n c p s t q B) := by
  obtain ⟨y, rfl⟩ := List.length_eq_one_iff.1 ht
  have hl : b ≤ l.length := by rw [e]; simp at hb ⊢; omega
  have mono := seg_mono (l := l) (X := p) (s := s) (Y := [y] ++ q) (by rw [e]; simp [List.append_assoc]) h1
  simp only [List.length_singleton] at hb
  refine Con.intro Try.func191 rfl (Nat.le_of_ble_eq_true (by kernel_rfl)) (by kernel_rfl) Try.results191 ?_
  intro H h
  have w1 : IntKind.i64.wrap ((m : Int) - (a : Int)) = ((m - a : Nat) : Int) := by rw [wrap_id] <;> omega
  have w1' : ¬ (((m - a : Nat) : Int) = 1) := by omega
  have w1'' : IntKind.i64.wrap ((b : Int) - (m : Int)) = 1 := by rw [wrap_id] <;> omega
  ((try simp only [S, TY, reduceCtorEq, nq0, nq1, nq2, nq3, nq4, iq0, iq1, iq2, iq3, iq4, iq5, iq6, iq7, iq8, w1, w1', w1'']); (try (simp (disch := omega) only [W2, Int.cast_ofNat_Int]; (try simp only [S, TY, reduceCtorEq, nq0, nq1, nq2, nq3, nq4, iq0, iq1, iq2, iq3, iq4, iq5, iq6, iq7, iq8, w1, w1', w1'']))); repeat ((first | (refine cl_drawi 5 D191_5 (List.range 11) (by decide) (by kernel_rfl) ?_; unfold D191_5) | (refine cl_drawi 11 D191_11 ([0, 1, 13, 14, 15, 2, 3, 4, 5, 6, 7, 8, 9, 10, 11, 12, 16, 17]) (by decide) (by kernel_rfl) ?_; unfold D191_11) | (refine cl_drawi 17 D191_17 (List.range 12) (by decide) (by kernel_rfl) ?_; unfold D191_17) | (refine cl_drawi 23 D191_23 ([0, 1, 13, 14, 15, 2, 3, 4, 5, 6, 7, 8, 9, 10, 11, 12, 16, 17]) (by decide) (by kernel_rfl) ?_; unfold D191_23) | (refine cl_drawi 35 D191_35 (List.range 14) (by decide) (by kernel_rfl) ?_; unfold D191_35)); simp only [S, TY, reduceCtorEq, nq0, nq1, nq2, nq3, nq4, iq0, iq1, iq2, iq3, iq4, iq5, iq6, iq7, iq8, w1, w1', w1'']; (try (simp (disch := omega) only [W2, Int.cast_ofNat_Int]; (try simp only [S, TY, reduceCtorEq, nq0, nq1, nq2, nq3, nq4, iq0, iq1, iq2, iq3, iq4, iq5, iq6, iq7, iq8, w1, w1', w1''])))))
  refine cl_loop (fun z e H => ∃ i j : Nat, z = j - i ∧ (a ≤ i ∧ i ≤ j ∧ j ≤ m) ∧ e 0 = .slice A n c ∧ e 2 = .int .i64 m ∧ e 4 = lessF ∧ e 14 = .int .i64 i ∧ e 15 = .int .i64 j ∧ (∀ h, a ≤ h → h < i → gk l h ≤ gk l m) ∧ (∀ h, j ≤ h → h < m → gk l m < gk l h) ∧
    sg G [ow A n c l] H) (fun z : Nat => z) (m - a) ⟨a, m, rfl, by omega, rfl, rfl, rfl, rfl, rfl, by omega, by omega, h⟩ ?_
  clear h
  rintro z e' H ⟨i, j, rfl, hij, q0, q2, q4, q10, q11, o1, o2, h⟩
  by_cases g1 : (i : Int) < j
  · have w2 : IntKind.i64.wrap ((i : Int) + (j : Int)) = ((i + j : Nat) : Int) := by rw [wrap_id] <;> omega
    obtain ⟨d, hd⟩ : ∃ d, d = (i + j) / 2 := ⟨_, rfl⟩
    have w3 := halfW (by omega) hd
    have w4 : IntKind.i64.wrap ((d : Int) + 1) = ((d + 1 : Nat) : Int) := by rw [wrap_id] <;> omega
    obtain ⟨bl, off, rfl, hdn, el⟩ := rdI (h.rdsi 0 rfl Rd_own) (i := d) (by omega)
    obtain ⟨_, _, z, han, el'⟩ := rdI (h.rdsi 0 rfl Rd_own) (i := m) (by omega)
    cases z
    have b1 : (0 : Int) ≤ (d : Nat) ∧ ((d : Nat) : Int) < n := by omega
    have b2 : (0 : Int) ≤ (m : Nat) ∧ ((m : Nat) : Int) < n := by omega
    ((try simp only [S, TY, reduceCtorEq, nq0, nq1, nq2, nq3, nq4, iq0, iq1, iq2, iq3, iq4, iq5, iq6, iq7, iq8, q0, q2, q4, q10, q11, g1, w2, w3, b1, b2, el, el', hk]); (try (simp (disch := omega) only [W2, Int.cast_ofNat_Int]; (try simp only [S, TY, reduceCtorEq, nq0, nq1, nq2, nq3, nq4, iq0, iq1, iq2, iq3, iq4, iq5, iq6, iq7, iq8, q0, q2, q4, q10, q11, g1, w2, w3, b1, b2, el, el', hk]))); repeat ((first | (refine cl_drawi 5 D191_5 (List.range 11) (by decide) (by kernel_rfl) ?_; unfold D191_5) | (refine cl_drawi 11 D191_11 ([0, 1, 13, 14, 15, 2, 3, 4, 5, 6, 7, 8, 9, 10, 11, 12, 16, 17]) (by decide) (by kernel_rfl) ?_; unfold D191_11) | (refine cl_drawi 17 D191_17 (List.range 12) (by decide) (by kernel_rfl) ?_; unfold D191_17) | (refine cl_drawi 23 D191_23 ([0, 1, 13, 14, 15, 2, 3, 4, 5, 6, 7, 8, 9, 10, 11, 12, 16, 17]) (by decide) (by kernel_rfl) ?_; unfold D191_23) | (refine cl_drawi 35 D191_35 (List.range 14) (by decide) (by kernel_rfl) ?_; unfold D191_35)); simp only [S, TY, reduceCtorEq, nq0, nq1, nq2, nq3, nq4, iq0, iq1, iq2, iq3, iq4, iq5, iq6, iq7, iq8, q0, q2, q4, q10, q11, g1, w2, w3, b1, b2, el, el', hk]; (try (simp (disch := omega) only [W2, Int.cast_ofNat_Int]; (try simp only [S, TY, reduceCtorEq, nq0, nq1, nq2, nq3, nq4, iq0, iq1, iq2, iq3, iq4, iq5, iq6, iq7, iq8, q0, q2, q4, q10, q11, g1, w2, w3, b1, b2, el, el', hk])))))
    refine (less_ok l[m] l[d]).at_ h [] _ rfl (fun r B H' hr h' => ?_)
    obtain ⟨rfl, rfl⟩ := hr
    have hc := cmp_g (l := l) (i := m) (j := d) (by omega) (by omega)
    ((try simp only [S, TY, reduceCtorEq, nq0, nq1, nq2, nq3, nq4, iq0, iq1, iq2, iq3, iq4, iq5, iq6, iq7, iq8]); (try (simp (disch := omega) only [W2, Int.cast_ofNat_Int]; (try simp only [S, TY, reduceCtorEq, nq0, nq1, nq2, nq3, nq4, iq0, iq1, iq2, iq3, iq4, iq5, iq6, iq7, iq8]))); repeat ((first | (refine cl_drawi 5 D191_5 (List.range 11) (by decide) (by kernel_rfl) ?_; unfold D191_5) | (refine cl_drawi 11 D191_11 ([0, 1, 13, 14, 15, 2, 3, 4, 5, 6, 7, 8, 9, 10, 11, 12, 16, 17]) (by decide) (by kernel_rfl) ?_; unfold D191_11) | (refine cl_drawi 17 D191_17 (List.range 12) (by decide) (by kernel_rfl) ?_; unfold D191_17) | (refine cl_drawi 23 D191_23 ([0, 1, 13, 14, 15, 2, 3, 4, 5, 6, 7, 8, 9, 10, 11, 12, 16, 17]) (by decide) (by kernel_rfl) ?_; unfold D191_23) | (refine cl_drawi 35 D191_35 (List.range 14) (by decide) (by kernel_rfl) ?_; unfold D191_35)); simp only [S, TY, reduceCtorEq, nq0, nq1, nq2, nq3, nq4, iq0, iq1, iq2, iq3, iq4, iq5, iq6, iq7, iq8]; (try (simp (disch := omega) only [W2, Int.cast_ofNat_Int]; (try simp only [S, TY, reduceCtorEq, nq0, nq1, nq2, nq3, nq4, iq0, iq1, iq2, iq3, iq4, iq5, iq6, iq7, iq8])))))
    by_cases g2 : cmpV l[m] l[d] < 0
    · have g3 := hc.1 g2
      ((try simp only [S, TY, reduceCtorEq, nq0, nq1, nq2, nq3, nq4, iq0, iq1, iq2, iq3, iq4, iq5, iq6, iq7, iq8, g2, w4]); (try (simp (disch := omega) only [W2, Int.cast_ofNat_Int]; (try simp only [S, TY, reduceCtorEq, nq0, nq1, nq2, nq3, nq4, iq0, iq1, iq2, iq3, iq4, iq5, iq6, iq7, iq8, g2, w4]))); repeat ((first | (refine cl_drawi 5 D191_5 (List.range 11) (by decide) (by kernel_rfl) ?_; unfold D191_5) | (refine cl_drawi 11 D191_11 ([0, 1, 13, 14, 15, 2, 3, 4, 5, 6, 7, 8, 9, 10, 11, 12, 16, 17]) (by decide) (by kernel_rfl) ?_; unfold D191_11) | (refine cl_drawi 17 D191_17 (List.range 12) (by decide) (by kernel_rfl) ?_; unfold D191_17) | (refine cl_drawi 23 D191_23 ([0, 1, 13, 14, 15, 2, 3, 4, 5, 6, 7, 8, 9, 10, 11, 12, 16, 17]) (by decide) (by kernel_rfl) ?_; unfold D191_23) | (refine cl_drawi 35 D191_35 (List.range 14) (by decide) (by kernel_rfl) ?_; unfold D191_35)); simp only [S, TY, reduceCtorEq, nq0, nq1, nq2, nq3, nq4, iq0, iq1, iq2, iq3, iq4, iq5, iq6, iq7, iq8, g2, w4]; (try (simp (disch := omega) only [W2, Int.cast_ofNat_Int]; (try simp only [S, TY, reduceCtorEq, nq0, nq1, nq2, nq3, nq4, iq0, iq1, iq2, iq3, iq4, iq5, iq6, iq7, iq8, g2, w4])))))
      refine .go (d - i) ?_ ⟨i, d, rfl, by omega, q0, q2, q4, q10, rfl, o1, ?_, h'⟩
      · show d - i < j - i
        omega
      · intro h k1 k2
        exact Int.lt_of_lt_of_le g3 (mono d h (by omega) (by omega) (by omega))
    · have g3 := mt hc.2 g2
      ((try simp only [S, TY, reduceCtorEq, nq0, nq1, nq2, nq3, nq4, iq0, iq1, iq2, iq3, iq4, iq5, iq6, iq7, iq8, g2, w4]); (try (simp (disch := omega) only [W2, Int.cast_ofNat_Int]; (try simp only [S, TY, reduceCtorEq, nq0, nq1, nq2, nq3, nq4, iq0, iq1, iq2, iq3, iq4, iq5, iq6, iq7, iq8, g2, w4]))); repeat ((first | (refine cl_drawi 5 D191_5 (List.range 11) (by decide) (by kernel_rfl) ?_; unfold D191_5) | (refine cl_drawi 11 D191_11 ([0, 1, 13, 14, 15, 2, 3, 4, 5, 6, 7, 8, 9, 10, 11, 12, 16, 17]) (by decide) (by kernel_rfl) ?_; unfold D191_11) | (refine cl_drawi 17 D191_17 (List.range 12) (by decide) (by kernel_rfl) ?_; unfold D191_17) | (refine cl_drawi 23 D191_23 ([0, 1, 13, 14, 15, 2, 3, 4, 5, 6, 7, 8, 9, 10, 11, 12, 16, 17]) (by decide) (by kernel_rfl) ?_; unfold D191_23) | (refine cl_drawi 35 D191_35 (List.range 14) (by decide) (by kernel_rfl) ?_; unfold D191_35)); simp only [S, TY, reduceCtorEq, nq0, nq1, nq2, nq3, nq4, iq0, iq1, iq2, iq3, iq4, iq5, iq6, iq7, iq8, g2, w4]; (try (simp (disch := omega) only [W2, Int.cast_ofNat_Int]; (try simp only [S, TY, reduceCtorEq, nq0, nq1, nq2, nq3, nq4, iq0, iq1, iq2, iq3, iq4, iq5, iq6, iq7, iq8, g2, w4])))))
      refine .go (j - (d + 1)) ?_ ⟨d + 1, j, rfl, by omega, q0, q2, q4, rfl, q11, ?_, o2, h'⟩
      · show j - (d + 1) < j - i
        omega
      · intro h k1 k2
        exact Int.le_trans (mono h d (by omega) (by omega) (by omega)) (by omega)
  · ((try simp only [S, TY, reduceCtorEq, nq0, nq1, nq2, nq3, nq4, iq0, iq1, iq2, iq3, iq4, iq5, iq6, iq7, iq8, q0, q2, q4, q10, q11, g1]); (try (simp (disch := omega) only [W2, Int.cast_ofNat_Int]; (try simp only [S, TY, reduceCtorEq, nq0, nq1, nq2, nq3, nq4, iq0, iq1, iq2, iq3, iq4, iq5, iq6, iq7, iq8, q0, q2, q4, q10, q11, g1]))); repeat ((first | (refine cl_drawi 5 D191_5 (List.range 11) (by decide) (by kernel_rfl) ?_; unfold D191_5) | (refine cl_drawi 11 D191_11 ([0, 1, 13, 14, 15, 2, 3, 4, 5, 6, 7, 8, 9, 10, 11, 12, 16, 17]) (by decide) (by kernel_rfl) ?_; unfold D191_11) | (refine cl_drawi 17 D191_17 (List.range 12) (by decide) (by kernel_rfl) ?_; unfold D191_17) | (refine cl_drawi 23 D191_23 ([0, 1, 13, 14, 15, 2, 3, 4, 5, 6, 7, 8, 9, 10, 11, 12, 16, 17]) (by decide) (by kernel_rfl) ?_; unfold D191_23) | (refine cl_drawi 35 D191_35 (List.range 14) (by decide) (by kernel_rfl) ?_; unfold D191_35)); simp only [S, TY, reduceCtorEq, nq0, nq1, nq2, nq3, nq4, iq0, iq1, iq2, iq3, iq4, iq5, iq6, iq7, iq8, q0, q2, q4, q10, q11, g1]; (try (simp (disch := omega) only [W2, Int.cast_ofNat_Int]; (try simp only [S, TY, reduceCtorEq, nq0, nq1, nq2, nq3, nq4, iq0, iq1, iq2, iq3, iq4, iq5, iq6, iq7, iq8, q0, q2, q4, q10, q11, g1])))))
    obtain rfl : i = j := by omega
    obtain ⟨s1, s2, rfl, l1⟩ : ∃ s1 s2, s = s1 ++ s2 ∧ s1.length = i - a := ⟨s.take (i - a), s.drop (i - a), by simp, by rw [List.length_take]; omega⟩
    have ex : gk l m = kk y := by
      have := seg_get (l := l) (X := p ++ (s1 ++ s2)) (s := [y]) (Y := q) e (i := 0) (by simp)
      rw [Nat.add_zero, List.length_append, ha, hm] at this; exact this
    have hR := one_left h1 (y := y) (by
      intro x hx
      obtain ⟨h, k1, k2, k3⟩ := seg_mem (l := l) (X := p) (s := s1) (Y := s2 ++ [y] ++ q) (by rw [e]; simp [List.append_assoc]) hx
      rw [k3, ← ex]; exact o1 h (by omega) (by omega)) (by
      intro x hx
      obtain ⟨h, k1, k2, k3⟩ := seg_mem (l := l) (X := p ++ s1) (s := s2) (Y := [y] ++ q) (by rw [e]; simp [List.append_assoc]) hx
      simp only [List.length_append] at k1 k2 hm
      rw [k3, ← ex]; exact o2 h (by omega) (by omega))
    clear o1 o2 ex
    simp only [List.length_append] at hm
    refine cl_loop (fun k e H => (i ≤ k ∧ k ≤ m) ∧ e 0 = .slice A n c ∧ e 14 = .int .i64 i ∧ e 17 = .int .i64 (k : Nat) ∧ ∃ u w, s2 = u ++ w ∧ i + u.length = k ∧
      sg G [ow A n c (p ++ s1 ++ u ++ [y] ++ w ++ q)] H) (fun k : Nat => k) m ⟨by omega, q0, q10, rfl, s2, [], by simp, by omega, by rw [e] at h; simpa [List.append_assoc, -List.flatMap_append, -List.flatMap_cons] using h⟩ ?_
    clear h
    rintro k e2 H ⟨hk2, q0, q10, q13, u, w, rfl, l2, h⟩
    have w6 : IntKind.i64.wrap ((k : Int) - 1) = ((k - 1 : Nat) : Int) ∨ k = 0 := by
      by_cases k0 : k = 0
      · exact .inr k0
      · left; rw [wrap_id] <;> omega
    simp only [List.length_append] at hm
    by_cases g2 : (i : Int) < k
    · obtain ⟨u, x, rfl⟩ : ∃ u' x, u = u' ++ [x] := ⟨u.dropLast, u.getLast (by rintro rfl; simp at l2; omega), (List.dropLast_concat_getLast _).symm⟩
      simp only [List.length_append, List.length_singleton] at l2 hm
      replace w6 := w6.resolve_right (by omega)
      obtain ⟨bl, off, rfl, hjn, el⟩ := rdE En.len (by decide) (h.rdsi 0 rfl Rd_own) (j := k) (X := p ++ s1 ++ u ++ [x]) (x := y) (Y := w ++ q) (by simp [List.append_assoc]) (by simp; omega)
      obtain ⟨_, _, z, hjn', el'⟩ := rdE En.len (by decide) (h.rdsi 0 rfl Rd_own) (j := k - 1) (X := p ++ s1 ++ u) (x := x) (Y := y :: w ++ q) (by simp [List.append_assoc]) (by simp; omega)
      cases z
      have b1 : (0 : Int) ≤ (k : Nat) ∧ ((k : Nat) : Int) < n := by omega
      have b2 : (0 : Int) ≤ ((k - 1 : Nat) : Int) ∧ ((k - 1 : Nat) : Int) < n := by omega
      ((try simp only [S, TY, reduceCtorEq, nq0, nq1, nq2, nq3, nq4, iq0, iq1, iq2, iq3, iq4, iq5, iq6, iq7, iq8, q0, q10, q13, w6, g2, b1, b2, el, el']); (try (simp (disch := omega) only [W2, Int.cast_ofNat_Int]; (try simp only [S, TY, reduceCtorEq, nq0, nq1, nq2, nq3, nq4, iq0, iq1, iq2, iq3, iq4, iq5, iq6, iq7, iq8, q0, q10, q13, w6, g2, b1, b2, el, el']))); repeat ((first | (refine cl_drawi 5 D191_5 (List.range 11) (by decide) (by kernel_rfl) ?_; unfold D191_5) | (refine cl_drawi 11 D191_11 ([0, 1, 13, 14, 15, 2, 3, 4, 5, 6, 7, 8, 9, 10, 11, 12, 16, 17]) (by decide) (by kernel_rfl) ?_; unfold D191_11) | (refine cl_drawi 17 D191_17 (List.range 12) (by decide) (by kernel_rfl) ?_; unfold D191_17) | (refine cl_drawi 23 D191_23 ([0, 1, 13, 14, 15, 2, 3, 4, 5, 6, 7, 8, 9, 10, 11, 12, 16, 17]) (by decide) (by kernel_rfl) ?_; unfold D191_23) | (refine cl_drawi 35 D191_35 (List.range 14) (by decide) (by kernel_rfl) ?_; unfold D191_35)); simp only [S, TY, reduceCtorEq, nq0, nq1, nq2, nq3, nq4, iq0, iq1, iq2, iq3, iq4, iq5, iq6, iq7, iq8, q0, q10, q13, w6, g2, b1, b2, el, el']; (try (simp (disch := omega) only [W2, Int.cast_ofNat_Int]; (try simp only [S, TY, reduceCtorEq, nq0, nq1, nq2, nq3, nq4, iq0, iq1, iq2, iq3, iq4, iq5, iq6, iq7, iq8, q0, q10, q13, w6, g2, b1, b2, el, el'])))))
      refine stE En.len h (X := p ++ s1 ++ u ++ [x]) (y := y) (Y := w ++ q) (by simp [List.append_assoc]) (by simp; omega) x rfl (fun H2 h2 => ?_)
      ((try simp only [S, TY, reduceCtorEq, nq0, nq1, nq2, nq3, nq4, iq0, iq1, iq2, iq3, iq4, iq5, iq6, iq7, iq8, q0, q10, q13, w6, g2, b1, b2]); (try (simp (disch := omega) only [W2, Int.cast_ofNat_Int]; (try simp only [S, TY, reduceCtorEq, nq0, nq1, nq2, nq3, nq4, iq0, iq1, iq2, iq3, iq4, iq5, iq6, iq7, iq8, q0, q10, q13, w6, g2, b1, b2]))); repeat ((first | (refine cl_drawi 5 D191_5 (List.range 11) (by decide) (by kernel_rfl) ?_; unfold D191_5) | (refine cl_drawi 11 D191_11 ([0, 1, 13, 14, 15, 2, 3, 4, 5, 6, 7, 8, 9, 10, 11, 12, 16, 17]) (by decide) (by kernel_rfl) ?_; unfold D191_11) | (refine cl_drawi 17 D191_17 (List.range 12) (by decide) (by kernel_rfl) ?_; unfold D191_17) | (refine cl_drawi 23 D191_23 ([0, 1, 13, 14, 15, 2, 3, 4, 5, 6, 7, 8, 9, 10, 11, 12, 16, 17]) (by decide) (by kernel_rfl) ?_; unfold D191_23) | (refine cl_drawi 35 D191_35 (List.range 14) (by decide) (by kernel_rfl) ?_; unfold D191_35)); simp only [S, TY, reduceCtorEq, nq0, nq1, nq2, nq3, nq4, iq0, iq1, iq2, iq3, iq4, iq5, iq6, iq7, iq8, q0, q10, q13, w6, g2, b1, b2]; (try (simp (disch := omega) only [W2, Int.cast_ofNat_Int]; (try simp only [S, TY, reduceCtorEq, nq0, nq1, nq2, nq3, nq4, iq0, iq1, iq2, iq3, iq4, iq5, iq6, iq7, iq8, q0, q10, q13, w6, g2, b1, b2])))))
      refine stE En.len h2 (X := p ++ s1 ++ u) (y := x) (Y := x :: w ++ q) (by simp [List.append_assoc]) (by simp; omega) y rfl (fun H3 h3 => ?_)
      ((try simp only [S, TY, reduceCtorEq, nq0, nq1, nq2, nq3, nq4, iq0, iq1, iq2, iq3, iq4, iq5, iq6, iq7, iq8, q0, q10, q13, w6, g2, b1, b2]); (try (simp (disch := omega) only [W2, Int.cast_ofNat_Int]; (try simp only [S, TY, reduceCtorEq, nq0, nq1, nq2, nq3, nq4, iq0, iq1, iq2, iq3, iq4, iq5, iq6, iq7, iq8, q0, q10, q13, w6, g2, b1, b2]))); repeat ((first | (refine cl_drawi 5 D191_5 (List.range 11) (by decide) (by kernel_rfl) ?_; unfold D191_5) | (refine cl_drawi 11 D191_11 ([0, 1, 13, 14, 15, 2, 3, 4, 5, 6, 7, 8, 9, 10, 11, 12, 16, 17]) (by decide) (by kernel_rfl) ?_; unfold D191_11) | (refine cl_drawi 17 D191_17 (List.range 12) (by decide) (by kernel_rfl) ?_; unfold D191_17) | (refine cl_drawi 23 D191_23 ([0, 1, 13, 14, 15, 2, 3, 4, 5, 6, 7, 8, 9, 10, 11, 12, 16, 17]) (by decide) (by kernel_rfl) ?_; unfold D191_23) | (refine cl_drawi 35 D191_35 (List.range 14) (by decide) (by kernel_rfl) ?_; unfold D191_35)); simp only [S, TY, reduceCtorEq, nq0, nq1, nq2, nq3, nq4, iq0, iq1, iq2, iq3, iq4, iq5, iq6, iq7, iq8, q0, q10, q13, w6, g2, b1, b2]; (try (simp (disch := omega) only [W2, Int.cast_ofNat_Int]; (try simp only [S, TY, reduceCtorEq, nq0, nq1, nq2, nq3, nq4, iq0, iq1, iq2, iq3, iq4, iq5, iq6, iq7, iq8, q0, q10, q13, w6, g2, b1, b2])))))
      refine .go (k - 1) (by omega) ⟨by omega, q0, q10, rfl, u, [x] ++ w, by simp, by omega, by simpa [List.append_assoc, -List.flatMap_append, -List.flatMap_cons] using h3⟩
    · obtain rfl : u = [] := List.length_eq_zero_iff.1 (by omega)
      ((try simp only [S, TY, reduceCtorEq, nq0, nq1, nq2, nq3, nq4, iq0, iq1, iq2, iq3, iq4, iq5, iq6, iq7, iq8, q0, q10, q13, g2]); (try (simp (disch := omega) only [W2, Int.cast_ofNat_Int]; (try simp only [S, TY, reduceCtorEq, nq0, nq1, nq2, nq3, nq4, iq0, iq1, iq2, iq3, iq4, iq5, iq6, iq7, iq8, q0, q10, q13, g2]))); repeat ((first | (refine cl_drawi 5 D191_5 (List.range 11) (by decide) (by kernel_rfl) ?_; unfold D191_5) | (refine cl_drawi 11 D191_11 ([0, 1, 13, 14, 15, 2, 3, 4, 5, 6, 7, 8, 9, 10, 11, 12, 16, 17]) (by decide) (by kernel_rfl) ?_; unfold D191_11) | (refine cl_drawi 17 D191_17 (List.range 12) (by decide) (by kernel_rfl) ?_; unfold D191_17) | (refine cl_drawi 23 D191_23 ([0, 1, 13, 14, 15, 2, 3, 4, 5, 6, 7, 8, 9, 10, 11, 12, 16, 17]) (by decide) (by kernel_rfl) ?_; unfold D191_23) | (refine cl_drawi 35 D191_35 (List.range 14) (by decide) (by kernel_rfl) ?_; unfold D191_35)); simp only [S, TY, reduceCtorEq, nq0, nq1, nq2, nq3, nq4, iq0, iq1, iq2, iq3, iq4, iq5, iq6, iq7, iq8, q0, q10, q13, g2]; (try (simp (disch := omega) only [W2, Int.cast_ofNat_Int]; (try simp only [S, TY, reduceCtorEq, nq0, nq1, nq2, nq3, nq4, iq0, iq1, iq2, iq3, iq4, iq5, iq6, iq7, iq8, q0, q10, q13, g2])))))
      exact fin_take (B := [_]) h ⟨_, hR.1, hR.2, by simp [List.append_assoc, -List.flatMap_append, -List.flatMap_cons]⟩
end Go.Proofs.Ytanhmbdcdbcfmaa.SoM
