/- Entries of a table, sorted in place: ranges swapped, and turned about. -/
import Derived.Test.YtanhmbdcdbcfmaaSoI
set_option linter.unusedVariables false
set_option linter.unusedSimpArgs false
set_option maxRecDepth 10000
set_option maxHeartbeats 8000000
namespace Go.Proofs.Ytanhmbdcdbcfmaa.SoR
open Nat renaming reduceEqDiff → nq0, reduceAdd → nq1, reduceLeDiff → nq2, reduceBEq → nq3, reduceMul → nq4
open Int renaming reduceBEq → iq0, reduceEq → iq1, reduceLT → iq2, reduceLE → iq3, reduceAdd → iq4, reduceSub → iq5, reduceMul → iq6, reduceToNat → iq7, cast_ofNat_Int → iq8
open Go Go.Sl Go.Proofs Go.Proofs.Ytanhmbdcdbcfmaa.So Go.Proofs.Ytanhmbdcdbcfmaa.SoI
theorem TY : aggN Try.prog 3 = some none ∧
  aggN Try.prog 22 = some none ∧
  aggN Try.prog 196 = some (some 11) ∧
  aggN Try.prog 200 = some none ∧
  apI Try.prog 22 = some (196, 11, 88) ∧
  bIs Try.prog 196 = true ∧
  csz Try.prog 3 = some 1 ∧
  csz Try.prog 22 = some 1 ∧
  csz Try.prog 196 = some 11 ∧
  csz Try.prog 200 = some 1 ∧
  eqF Try.prog 196 = some [.i, .i, .i, .i, .i, .i, .i, .i, .i, .i, .i] ∧
  fnIs Try.prog 200 = true ∧
  goes Try.prog 199 = true ∧
  inIs Try.prog 3 = some .i64 ∧
  plcs Try.prog 196 = [(0, 1), (1, 1), (2, 1), (3, 1), (4, 1), (5, 1), (6, 1), (7, 4)] ∧
  slEl Try.prog 22 = 196 ∧
  slIs Try.prog 22 = true ∧
  slSz Try.prog 22 = 11 ∧
  zcs Try.prog 196 = [.int .i64 0, .int .i64 0, .int .u64 0, .int .i64 0, .int .i64 0, .int .i64 0, .int .i64 0, .int .i64 0, .int .i64 0, .int .i64 0, .int .i64 0] ∧
  zro Try.prog 3 = some (.int .i64 0) ∧
  zro Try.prog 22 = some (.slice none 0 0) ∧
  zro Try.prog 196 = some (.agg #[.int .i64 0, .int .i64 0, .int .u64 0, .int .i64 0, .int .i64 0, .int .i64 0, .int .i64 0, .int .i64 0, .int .i64 0, .int .i64 0, .int .i64 0]) ∧
  zro Try.prog 200 = some (.nilFunc) :=
  ⟨by kernel_rfl, by kernel_rfl, by kernel_rfl, by kernel_rfl, by kernel_rfl, by kernel_rfl, by kernel_rfl, by kernel_rfl, by kernel_rfl, by kernel_rfl, by kernel_rfl, by kernel_rfl, by kernel_rfl, by kernel_rfl, by kernel_rfl, by kernel_rfl, by kernel_rfl, by kernel_rfl, by kernel_rfl, by kernel_rfl, by kernel_rfl, by kernel_rfl, by kernel_rfl⟩
def D199_3 : List Note := Go.Sl.nn [0, 0, 0, 0, 0, 0, 0, 0, 0, 0, 0, 0, 0, 1, 0, 0, 0, 0, 0, 1, 0, 3, 0, 3]
abbrev ow (A : Option Addr) (n c : Nat) (l : List En) : Asn := own 196 11 (.slice A n c) (l.flatMap En.l)
theorem swap_ok {G : Hp} {A : Option Addr} {n c a b k : Nat} {p x m y q l : List En} (e : l = p ++ x ++ m ++ y ++ q) (ha : p.length = a) (hx : x.length = k) (hy : y.length = k) (hb : a + k + m.length = b) (hn : b + k ≤ 100000) :
    Con Try.prog G 199 [.slice A n c, .int .i64 a, .int .i64 b, .int .i64 k, lessF] [ow A n c l] (fun r B => B = [ow A n c (p ++ y ++ m ++ x ++ q)]) := by
  subst e
  refine Con.intro Try.func199 rfl (Nat.le_of_ble_eq_true (by kernel_rfl)) (by kernel_rfl) Try.results199 ?_
  intro H h
  ((try simp only [S, TY, reduceCtorEq, nq0, nq1, nq2, nq3, nq4, iq0, iq1, iq2, iq3, iq4, iq5, iq6, iq7, iq8]); (try (simp (disch := omega) only [W2, Int.cast_ofNat_Int]; (try simp only [S, TY, reduceCtorEq, nq0, nq1, nq2, nq3, nq4, iq0, iq1, iq2, iq3, iq4, iq5, iq6, iq7, iq8]))); repeat ((first | (refine cl_drawi 3 D199_3 ([0, 1, 2, 3, 18, 19, 20, 21, 4, 5, 6, 7, 8, 9, 10, 11, 12, 13, 14, 15, 16, 17, 22, 23]) (by decide) (by kernel_rfl) ?_; unfold D199_3)); simp only [S, TY, reduceCtorEq, nq0, nq1, nq2, nq3, nq4, iq0, iq1, iq2, iq3, iq4, iq5, iq6, iq7, iq8]; (try (simp (disch := omega) only [W2, Int.cast_ofNat_Int]; (try simp only [S, TY, reduceCtorEq, nq0, nq1, nq2, nq3, nq4, iq0, iq1, iq2, iq3, iq4, iq5, iq6, iq7, iq8])))))
  refine cl_loop (fun i e H => i ≤ k ∧ e 0 = .slice A n c ∧ e 1 = .int .i64 a ∧ e 2 = .int .i64 b ∧ e 3 = .int .i64 k ∧ e 10 = .int .i64 (i : Nat) ∧ ∃ x1 x2 y1 y2, x = x1 ++ x2 ∧ y = y1 ++ y2 ∧ x1.length = i ∧ y1.length = i ∧
    sg G [ow A n c (p ++ (y1 ++ x2) ++ m ++ (x1 ++ y2) ++ q)] H) (fun i : Nat => k - i) 0
    ⟨by omega, rfl, rfl, rfl, rfl, rfl, [], x, [], y, rfl, rfl, rfl, rfl, h⟩ ?_
  clear h
  rintro i e H ⟨hi, q0, q1, q2, q3, q10, x1, x2, y1, y2, rfl, rfl, l1, l2, h⟩
  simp only [List.length_append] at hx hy
  by_cases g1 : (i : Int) < k
  · cases x2 with
    | nil => simp only [List.length_nil] at hx; omega
    | cons u x2 =>
    cases y2 with
    | nil => simp only [List.length_nil] at hy; omega
    | cons v y2 =>
    simp only [List.length_cons] at hx hy
    obtain ⟨bl, off, rfl, hjn, el⟩ := rdE En.len (by decide) (h.rdsi 0 rfl Rd_own) (j := a + i) (X := p ++ y1) (x := u) (Y := x2 ++ m ++ (x1 ++ v :: y2) ++ q) (by simp [List.append_assoc]) (by simp; omega)
    obtain ⟨_, _, z, hjn', el'⟩ := rdE En.len (by decide) (h.rdsi 0 rfl Rd_own) (j := b + i) (X := p ++ y1 ++ u :: x2 ++ m ++ x1) (x := v) (Y := y2 ++ q) (by simp [List.append_assoc]) (by simp; omega)
    cases z
    have w1 : IntKind.i64.wrap ((a : Int) + (i : Int)) = ((a + i : Nat) : Int) := by rw [wrap_id] <;> omega
    have w2 : IntKind.i64.wrap ((b : Int) + (i : Int)) = ((b + i : Nat) : Int) := by rw [wrap_id] <;> omega
    have b1 : (0 : Int) ≤ ((a + i : Nat) : Int) ∧ ((a + i : Nat) : Int) < n := by omega
    have b2 : (0 : Int) ≤ ((b + i : Nat) : Int) ∧ ((b + i : Nat) : Int) < n := by omega
    ((try simp only [S, TY, reduceCtorEq, nq0, nq1, nq2, nq3, nq4, iq0, iq1, iq2, iq3, iq4, iq5, iq6, iq7, iq8, q0, q1, q2, q3, q10, g1, el, el', w1, w2, b1, b2]); (try (simp (disch := omega) only [W2, Int.cast_ofNat_Int]; (try simp only [S, TY, reduceCtorEq, nq0, nq1, nq2, nq3, nq4, iq0, iq1, iq2, iq3, iq4, iq5, iq6, iq7, iq8, q0, q1, q2, q3, q10, g1, el, el', w1, w2, b1, b2]))); repeat ((first | (refine cl_drawi 3 D199_3 ([0, 1, 2, 3, 18, 19, 20, 21, 4, 5, 6, 7, 8, 9, 10, 11, 12, 13, 14, 15, 16, 17, 22, 23]) (by decide) (by kernel_rfl) ?_; unfold D199_3)); simp only [S, TY, reduceCtorEq, nq0, nq1, nq2, nq3, nq4, iq0, iq1, iq2, iq3, iq4, iq5, iq6, iq7, iq8, q0, q1, q2, q3, q10, g1, el, el', w1, w2, b1, b2]; (try (simp (disch := omega) only [W2, Int.cast_ofNat_Int]; (try simp only [S, TY, reduceCtorEq, nq0, nq1, nq2, nq3, nq4, iq0, iq1, iq2, iq3, iq4, iq5, iq6, iq7, iq8, q0, q1, q2, q3, q10, g1, el, el', w1, w2, b1, b2])))))
    refine stE En.len h (X := p ++ y1) (y := u) (Y := x2 ++ m ++ (x1 ++ v :: y2) ++ q) (by simp [List.append_assoc]) (by simp; omega) v rfl (fun H2 h2 => ?_)
    ((try simp only [S, TY, reduceCtorEq, nq0, nq1, nq2, nq3, nq4, iq0, iq1, iq2, iq3, iq4, iq5, iq6, iq7, iq8, q0, q1, q2, q3, q10, g1, w1, w2, b1, b2]); (try (simp (disch := omega) only [W2, Int.cast_ofNat_Int]; (try simp only [S, TY, reduceCtorEq, nq0, nq1, nq2, nq3, nq4, iq0, iq1, iq2, iq3, iq4, iq5, iq6, iq7, iq8, q0, q1, q2, q3, q10, g1, w1, w2, b1, b2]))); repeat ((first | (refine cl_drawi 3 D199_3 ([0, 1, 2, 3, 18, 19, 20, 21, 4, 5, 6, 7, 8, 9, 10, 11, 12, 13, 14, 15, 16, 17, 22, 23]) (by decide) (by kernel_rfl) ?_; unfold D199_3)); simp only [S, TY, reduceCtorEq, nq0, nq1, nq2, nq3, nq4, iq0, iq1, iq2, iq3, iq4, iq5, iq6, iq7, iq8, q0, q1, q2, q3, q10, g1, w1, w2, b1, b2]; (try (simp (disch := omega) only [W2, Int.cast_ofNat_Int]; (try simp only [S, TY, reduceCtorEq, nq0, nq1, nq2, nq3, nq4, iq0, iq1, iq2, iq3, iq4, iq5, iq6, iq7, iq8, q0, q1, q2, q3, q10, g1, w1, w2, b1, b2])))))
    refine stE En.len h2 (X := p ++ y1 ++ v :: x2 ++ m ++ x1) (y := v) (Y := y2 ++ q) (by simp [List.append_assoc]) (by simp; omega) u rfl (fun H3 h3 => ?_)
    ((try simp only [S, TY, reduceCtorEq, nq0, nq1, nq2, nq3, nq4, iq0, iq1, iq2, iq3, iq4, iq5, iq6, iq7, iq8, q0, q1, q2, q3, q10, g1, w1, w2, b1, b2]); (try (simp (disch := omega) only [W2, Int.cast_ofNat_Int]; (try simp only [S, TY, reduceCtorEq, nq0, nq1, nq2, nq3, nq4, iq0, iq1, iq2, iq3, iq4, iq5, iq6, iq7, iq8, q0, q1, q2, q3, q10, g1, w1, w2, b1, b2]))); repeat ((first | (refine cl_drawi 3 D199_3 ([0, 1, 2, 3, 18, 19, 20, 21, 4, 5, 6, 7, 8, 9, 10, 11, 12, 13, 14, 15, 16, 17, 22, 23]) (by decide) (by kernel_rfl) ?_; unfold D199_3)); simp only [S, TY, reduceCtorEq, nq0, nq1, nq2, nq3, nq4, iq0, iq1, iq2, iq3, iq4, iq5, iq6, iq7, iq8, q0, q1, q2, q3, q10, g1, w1, w2, b1, b2]; (try (simp (disch := omega) only [W2, Int.cast_ofNat_Int]; (try simp only [S, TY, reduceCtorEq, nq0, nq1, nq2, nq3, nq4, iq0, iq1, iq2, iq3, iq4, iq5, iq6, iq7, iq8, q0, q1, q2, q3, q10, g1, w1, w2, b1, b2])))))
    refine .go (i + 1) (by omega) ⟨by omega, q0, q1, q2, q3, rfl, x1 ++ [u], x2, y1 ++ [v], y2, by simp, by simp, by simp; omega, by simp; omega, by simpa [List.append_assoc, -List.flatMap_append, -List.flatMap_cons] using h3⟩
  · ((try simp only [S, TY, reduceCtorEq, nq0, nq1, nq2, nq3, nq4, iq0, iq1, iq2, iq3, iq4, iq5, iq6, iq7, iq8, q0, q1, q2, q3, q10, g1]); (try (simp (disch := omega) only [W2, Int.cast_ofNat_Int]; (try simp only [S, TY, reduceCtorEq, nq0, nq1, nq2, nq3, nq4, iq0, iq1, iq2, iq3, iq4, iq5, iq6, iq7, iq8, q0, q1, q2, q3, q10, g1]))); repeat ((first | (refine cl_drawi 3 D199_3 ([0, 1, 2, 3, 18, 19, 20, 21, 4, 5, 6, 7, 8, 9, 10, 11, 12, 13, 14, 15, 16, 17, 22, 23]) (by decide) (by kernel_rfl) ?_; unfold D199_3)); simp only [S, TY, reduceCtorEq, nq0, nq1, nq2, nq3, nq4, iq0, iq1, iq2, iq3, iq4, iq5, iq6, iq7, iq8, q0, q1, q2, q3, q10, g1]; (try (simp (disch := omega) only [W2, Int.cast_ofNat_Int]; (try simp only [S, TY, reduceCtorEq, nq0, nq1, nq2, nq3, nq4, iq0, iq1, iq2, iq3, iq4, iq5, iq6, iq7, iq8, q0, q1, q2, q3, q10, g1])))))
    obtain rfl : x2 = [] := List.length_eq_zero_iff.1 (by omega)
    obtain rfl : y2 = [] := List.length_eq_zero_iff.1 (by omega)
    exact fin_take (B := [_]) h (by simp [List.append_assoc])
theorem rotate_ok {G : Hp} {A : Option Addr} {n c a m b : Nat} {p s t q l : List En} (e : l = p ++ s ++ t ++ q) (ha : p.length = a) (hm : a + s.length = m) (hb : m + t.length = b) (hs : 0 < s.length) (ht : 0 < t.length) (hn : b ≤ 100000) :
    Con Try.prog G 198 [.slice A n c, .int .i64 a, .int .i64 m, .int .i64 b, lessF] [ow A n c l] (fun r B => B = [ow A n c (p ++ t ++ s ++ q)]) := by
  subst e
  refine Con.intro Try.func198 rfl (Nat.le_of_ble_eq_true (by kernel_rfl)) (by kernel_rfl) Try.results198 ?_
  intro H h
  have w1 : IntKind.i64.wrap ((m : Int) - (a : Int)) = ((m - a : Nat) : Int) := by rw [wrap_id] <;> omega
  have w2 : IntKind.i64.wrap ((b : Int) - (m : Int)) = ((b - m : Nat) : Int) := by rw [wrap_id] <;> omega
  ((try simp only [S, TY, reduceCtorEq, nq0, nq1, nq2, nq3, nq4, iq0, iq1, iq2, iq3, iq4, iq5, iq6, iq7, iq8, w1, w2]); (try (simp (disch := omega) only [W2, Int.cast_ofNat_Int]; (try simp only [S, TY, reduceCtorEq, nq0, nq1, nq2, nq3, nq4, iq0, iq1, iq2, iq3, iq4, iq5, iq6, iq7, iq8, w1, w2]))))
  refine cl_loop (fun z e H => ∃ i j : Nat, i + j = z ∧ 0 < i ∧ 0 < j ∧ e 0 = .slice A n c ∧ e 2 = .int .i64 m ∧ e 4 = lessF ∧ e 10 = .int .i64 i ∧ e 11 = .int .i64 j ∧ ∃ pa sa ta qa, pa.length + i = m ∧ sa.length = i ∧ ta.length = j ∧ m + j ≤ b ∧ pa ++ ta ++ sa ++ qa = p ++ t ++ s ++ q ∧
    sg G [ow A n c (pa ++ sa ++ ta ++ qa)] H) (fun z : Nat => z) (b - a)
    ⟨m - a, b - m, by omega, by omega, by omega, rfl, rfl, rfl, rfl, rfl, p, s, t, q, by omega, by omega, by omega, by omega, rfl, h⟩ ?_
  clear h
  rintro z e H ⟨i, j, rfl, hi, hj, q0, q2, q4, q10, q11, pa, sa, ta, qa, l1, l2, l3, l4, he, h⟩
  have w3 : IntKind.i64.wrap ((m : Int) - (i : Int)) = ((m - i : Nat) : Int) := by rw [wrap_id] <;> omega
  by_cases g1 : (i : Int) = j
  · obtain rfl : i = j := by omega
    ((try simp only [S, TY, reduceCtorEq, nq0, nq1, nq2, nq3, nq4, iq0, iq1, iq2, iq3, iq4, iq5, iq6, iq7, iq8, q0, q2, q4, q10, q11, w3]); (try (simp (disch := omega) only [W2, Int.cast_ofNat_Int]; (try simp only [S, TY, reduceCtorEq, nq0, nq1, nq2, nq3, nq4, iq0, iq1, iq2, iq3, iq4, iq5, iq6, iq7, iq8, q0, q2, q4, q10, q11, w3]))))
    refine (swap_ok (a := m - i) (b := m) (k := i) (p := pa) (x := sa) (m := []) (y := ta) (q := qa) (by simp) (by omega) l2 l3 (by simp; omega) (by omega)).at_ h [0] _ rfl (fun r B H' hr h' => ?_)
    subst hr
    ((try simp only [S, TY, reduceCtorEq, nq0, nq1, nq2, nq3, nq4, iq0, iq1, iq2, iq3, iq4, iq5, iq6, iq7, iq8, q0, q2, q4, q10, q11, w3]); (try (simp (disch := omega) only [W2, Int.cast_ofNat_Int]; (try simp only [S, TY, reduceCtorEq, nq0, nq1, nq2, nq3, nq4, iq0, iq1, iq2, iq3, iq4, iq5, iq6, iq7, iq8, q0, q2, q4, q10, q11, w3]))))
    exact fin_take (B := [_]) h' (by rw [List.append_nil, he])
  · by_cases g2 : (j : Int) < i
    · obtain ⟨s1, s2, rfl, k1⟩ : ∃ s1 s2, sa = s1 ++ s2 ∧ s1.length = j := ⟨sa.take j, sa.drop j, by simp, by rw [List.length_take]; omega⟩
      simp only [List.length_append] at l2
      have w4 : IntKind.i64.wrap ((i : Int) - (j : Int)) = ((i - j : Nat) : Int) := by rw [wrap_id] <;> omega
      ((try simp only [S, TY, reduceCtorEq, nq0, nq1, nq2, nq3, nq4, iq0, iq1, iq2, iq3, iq4, iq5, iq6, iq7, iq8, q0, q2, q4, q10, q11, w3, w4, g1, g2]); (try (simp (disch := omega) only [W2, Int.cast_ofNat_Int]; (try simp only [S, TY, reduceCtorEq, nq0, nq1, nq2, nq3, nq4, iq0, iq1, iq2, iq3, iq4, iq5, iq6, iq7, iq8, q0, q2, q4, q10, q11, w3, w4, g1, g2]))))
      refine (swap_ok (a := m - i) (b := m) (k := j) (p := pa) (x := s1) (m := s2) (y := ta) (q := qa) (by simp [List.append_assoc]) (by omega) k1 l3 (by omega) (by omega)).at_ h [0] _ rfl (fun r B H' hr h' => ?_)
      subst hr
      ((try simp only [S, TY, reduceCtorEq, nq0, nq1, nq2, nq3, nq4, iq0, iq1, iq2, iq3, iq4, iq5, iq6, iq7, iq8, q0, q2, q4, q10, q11, w3, w4, g1, g2]); (try (simp (disch := omega) only [W2, Int.cast_ofNat_Int]; (try simp only [S, TY, reduceCtorEq, nq0, nq1, nq2, nq3, nq4, iq0, iq1, iq2, iq3, iq4, iq5, iq6, iq7, iq8, q0, q2, q4, q10, q11, w3, w4, g1, g2]))))
      refine .go _ ?_ ⟨i - j, j, rfl, by omega, hj, q0, q2, q4, rfl, q11, pa ++ ta, s2, s1, qa, by simp; omega, by omega, k1, l4, by simpa [List.append_assoc] using he, by simpa [List.append_assoc] using h'⟩
      show i - j + j < i + j
      omega
    · obtain ⟨t1, t2, rfl, k1⟩ : ∃ t1 t2, ta = t1 ++ t2 ∧ t2.length = i := ⟨ta.take (j - i), ta.drop (j - i), by simp, by rw [List.length_drop]; omega⟩
      simp only [List.length_append] at l3
      have w4 : IntKind.i64.wrap ((j : Int) - (i : Int)) = ((j - i : Nat) : Int) := by rw [wrap_id] <;> omega
      have w5 : IntKind.i64.wrap ((m : Int) + (j : Int)) = ((m + j : Nat) : Int) := by rw [wrap_id] <;> omega
      have w6 : IntKind.i64.wrap (((m + j : Nat) : Int) - (i : Int)) = ((m + j - i : Nat) : Int) := by rw [wrap_id] <;> omega
      ((try simp only [S, TY, reduceCtorEq, nq0, nq1, nq2, nq3, nq4, iq0, iq1, iq2, iq3, iq4, iq5, iq6, iq7, iq8, q0, q2, q4, q10, q11, w3, w4, w5, w6, g1, g2]); (try (simp (disch := omega) only [W2, Int.cast_ofNat_Int]; (try simp only [S, TY, reduceCtorEq, nq0, nq1, nq2, nq3, nq4, iq0, iq1, iq2, iq3, iq4, iq5, iq6, iq7, iq8, q0, q2, q4, q10, q11, w3, w4, w5, w6, g1, g2]))))
      refine (swap_ok (a := m - i) (b := m + j - i) (k := i) (p := pa) (x := sa) (m := t1) (y := t2) (q := qa) (by simp [List.append_assoc]) (by omega) l2 k1 (by omega) (by omega)).at_ h [0] _ rfl (fun r B H' hr h' => ?_)
      subst hr
      ((try simp only [S, TY, reduceCtorEq, nq0, nq1, nq2, nq3, nq4, iq0, iq1, iq2, iq3, iq4, iq5, iq6, iq7, iq8, q0, q2, q4, q10, q11, w3, w4, w5, w6, g1, g2]); (try (simp (disch := omega) only [W2, Int.cast_ofNat_Int]; (try simp only [S, TY, reduceCtorEq, nq0, nq1, nq2, nq3, nq4, iq0, iq1, iq2, iq3, iq4, iq5, iq6, iq7, iq8, q0, q2, q4, q10, q11, w3, w4, w5, w6, g1, g2]))))
      refine .go _ ?_ ⟨i, j - i, rfl, hi, by omega, q0, q2, q4, q10, rfl, pa, t2, t1, sa ++ qa, l1, k1, by omega, by omega, by simpa [List.append_assoc] using he, by simpa [List.append_assoc] using h'⟩
      show i + (j - i) < i + j
      omega
end Go.Proofs.Ytanhmbdcdbcfmaa.SoR
