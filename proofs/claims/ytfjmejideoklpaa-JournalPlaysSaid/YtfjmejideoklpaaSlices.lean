/- slices.Concat, of slices of bytes. -/
import Derived.Test.YtfjmejideoklpaaTac
import Derived.Test.YtfjmejideoklpaaProg
import Derived.KernelRfl
set_option linter.unusedVariables false
set_option linter.unusedSimpArgs false
set_option maxRecDepth 10000
namespace Go.Proofs.Ytfjmejideoklpaa.Slices
open Nat renaming reduceEqDiff → nq0, reduceAdd → nq1, reduceLeDiff → nq2, reduceBEq → nq3, reduceMul → nq4
open Int renaming reduceBEq → iq0, reduceEq → iq1, reduceLT → iq2, reduceLE → iq3, reduceAdd → iq4, reduceSub → iq5, reduceMul → iq6, reduceToNat → iq7, cast_ofNat_Int → iq8
open Go Go.Sl Go.Proofs
theorem TY : aggN Try.prog 3 = some none ∧
  aggN Try.prog 5 = some none ∧
  aggN Try.prog 9 = some none ∧
  aggN Try.prog 33 = some none ∧
  aggN Try.prog 90 = some none ∧
  apI Try.prog 33 = some (5, 1, 1) ∧
  apI Try.prog 90 = some (33, 1, 24) ∧
  bySl Try.prog 33 = true ∧
  csz Try.prog 3 = some 1 ∧
  csz Try.prog 5 = some 1 ∧
  csz Try.prog 9 = some 1 ∧
  csz Try.prog 33 = some 1 ∧
  csz Try.prog 90 = some 1 ∧
  goes Try.prog 150 = true ∧
  inIs Try.prog 3 = some .i64 ∧
  inIs Try.prog 5 = some .u8 ∧
  slEl Try.prog 33 = 5 ∧
  slEl Try.prog 90 = 33 ∧
  slIs Try.prog 33 = true ∧
  slIs Try.prog 90 = true ∧
  slSz Try.prog 33 = 1 ∧
  slSz Try.prog 90 = 1 ∧
  stIs Try.prog 9 = true ∧
  zro Try.prog 3 = some (.int .i64 0) ∧
  zro Try.prog 5 = some (.int .u8 0) ∧
  zro Try.prog 9 = some (.string ByteArray.empty) ∧
  zro Try.prog 33 = some (.slice none 0 0) ∧
  zro Try.prog 90 = some (.slice none 0 0) :=
  ⟨by kernel_rfl, by kernel_rfl, by kernel_rfl, by kernel_rfl, by kernel_rfl, by kernel_rfl, by kernel_rfl, by kernel_rfl, by kernel_rfl, by kernel_rfl, by kernel_rfl, by kernel_rfl, by kernel_rfl, by kernel_rfl, by kernel_rfl, by kernel_rfl, by kernel_rfl, by kernel_rfl, by kernel_rfl, by kernel_rfl, by kernel_rfl, by kernel_rfl, by kernel_rfl, by kernel_rfl, by kernel_rfl, by kernel_rfl, by kernel_rfl, by kernel_rfl⟩
theorem grow_nil {G : Hp} (n : Nat) (hn : n ≤ 70368744177664) :
    Con Try.prog G 150 [.slice none 0 0, .int .i64 n] [] (fun v B => B = [own 5 1 v []]) := by
  refine Con.intro Try.func150 rfl (Nat.le_of_ble_eq_true (by kernel_rfl)) (by kernel_rfl) Try.results150 ?_
  intro H hH
  have a : ¬ (n : Int) < 0 := by omega
  simp only [S, TY, reduceCtorEq, nq0, nq1, nq2, nq3, nq4, iq0, iq1, iq2, iq3, iq4, iq5, iq6, iq7, iq8, a]
  (try simp (disch := omega) only [wrap_id, Int.natCast_zero, Int.sub_zero, Int.toNat_natCast, Int.toNat_zero, Int.cast_ofNat_Int, Int.sub_self])
  refine Gate.intro (fun g => ?_) (fun g => ?_)
  · ((try simp only [S, TY, reduceCtorEq, nq0, nq1, nq2, nq3, nq4, iq0, iq1, iq2, iq3, iq4, iq5, iq6, iq7, iq8]); (try (simp (disch := omega) only [W2, Int.cast_ofNat_Int]; (try simp only [S, TY, reduceCtorEq, nq0, nq1, nq2, nq3, nq4, iq0, iq1, iq2, iq3, iq4, iq5, iq6, iq7, iq8]))))
    refine append_mk (show apI Try.prog 33 = some (5, 1, 1) from by kernel_rfl) (show inIs Try.prog 3 = some .i64 from by kernel_rfl) (hH.nil_ _ _) (by simp; omega) fun v H' ys hy h => ?_
    obtain ⟨a, sn, sc, rfl, e1, e2⟩ := (h.rds Rd_own).slice
    have q := own_take h 0 (by omega)
    ((try simp only [S, TY, reduceCtorEq, nq0, nq1, nq2, nq3, nq4, iq0, iq1, iq2, iq3, iq4, iq5, iq6, iq7, iq8]); (try (simp (disch := omega) only [W2, Int.cast_ofNat_Int]; (try simp only [S, TY, reduceCtorEq, nq0, nq1, nq2, nq3, nq4, iq0, iq1, iq2, iq3, iq4, iq5, iq6, iq7, iq8]))))
    refine ⟨by omega, ?_⟩
    refine fin_ret q (by simp)
  · ((try simp only [S, TY, reduceCtorEq, nq0, nq1, nq2, nq3, nq4, iq0, iq1, iq2, iq3, iq4, iq5, iq6, iq7, iq8]); (try (simp (disch := omega) only [W2, Int.cast_ofNat_Int]; (try simp only [S, TY, reduceCtorEq, nq0, nq1, nq2, nq3, nq4, iq0, iq1, iq2, iq3, iq4, iq5, iq6, iq7, iq8]))))
    exact fin_ret (hH.nil_ _ _) rfl
def total (l : List (Value × List UInt8)) : Nat := (l.flatMap (·.2)).length
theorem total_take_le (l : List (Value × List UInt8)) (i : Nat) : total (l.take i) ≤ total l := by
  have : l = l.take i ++ l.drop i := (List.take_append_drop i l).symm
  conv => rhs; rw [this]
  unfold total
  rw [List.flatMap_append, List.length_append]; omega
theorem concat {G : Hp} {v : Value} {l : List (Value × List UInt8)} (hv : rds G 1 v (l.map (·.1))) (hx : ∀ p ∈ l, rds G 1 p.1 (bv p.2)) (hl : total l ≤ 70368744177664) (hn : l.length ≤ 70368744177664) :
    Con Try.prog G 126 [v] [] (fun r B => B = [own 5 1 r (bv (l.flatMap (·.2)))]) := by
  refine Con.intro Try.func126 rfl (Nat.le_of_ble_eq_true (by kernel_rfl)) (by kernel_rfl) Try.results126 ?_
  intro H hH
  obtain ⟨a, n, c, rfl, e1, e2⟩ := hv.slice
  have hnl : n = l.length := by rw [List.length_map] at e1; omega
  simp only [S, TY, reduceCtorEq, nq0, nq1, nq2, nq3, nq4, iq0, iq1, iq2, iq3, iq4, iq5, iq6, iq7, iq8]
  refine cl_loop (fun i e H => i ≤ n ∧ e 9 = .slice a n c ∧ e 0 = .slice a n c ∧ e 10 = .int .i64 n ∧ e 11 = .int .i64 i ∧ e 3 = .int .i64 (total (l.take i)) ∧ sg G [] H) (fun i => n - i) 0 ⟨by omega, rfl, rfl, rfl, rfl, rfl, hH⟩ ?_
  rintro i e H ⟨h1, h2, h3, h4, h5, h6, hH⟩
  simp only [S, TY, reduceCtorEq, nq0, nq1, nq2, nq3, nq4, iq0, iq1, iq2, iq3, iq4, iq5, iq6, iq7, iq8, h2, h3, h4, h5, h6]
  refine Gate.intro (fun g => ?_) (fun g => ?_)
  · obtain ⟨b, off, rfl, c1⟩ := (hH.ro hv).at1 (i := i) (by omega)
    have hil : i < l.length := by rw [List.length_map] at e1; omega
    have hxi := hx l[i] (List.getElem_mem hil)
    obtain ⟨xa, xn, xc, hxe, e3, e4⟩ := hxi.slice
    rw [List.getElem?_map, List.getElem?_eq_getElem hil, Option.map_some, hxe] at c1
    rw [bv_length] at e3
    have ht : total (l.take (i + 1)) = total (l.take i) + xn := by
      unfold total
      rw [List.take_succ_eq_append_getElem hil, List.flatMap_append, List.length_append]
      simp; omega
    have hle := total_take_le l (i + 1)
    have g0 : (0 : Int) ≤ i ∧ (i : Int) < n := ⟨by omega, g⟩
    ((try simp only [S, TY, reduceCtorEq, nq0, nq1, nq2, nq3, nq4, iq0, iq1, iq2, iq3, iq4, iq5, iq6, iq7, iq8, h2, h3, h4, h5, h6, g0, c1]); (try (simp (disch := omega) only [W2, Int.cast_ofNat_Int]; (try simp only [S, TY, reduceCtorEq, nq0, nq1, nq2, nq3, nq4, iq0, iq1, iq2, iq3, iq4, iq5, iq6, iq7, iq8, h2, h3, h4, h5, h6, g0, c1]))))
    refine Gate.no (by omega) ?_
    ((try simp only [S, TY, reduceCtorEq, nq0, nq1, nq2, nq3, nq4, iq0, iq1, iq2, iq3, iq4, iq5, iq6, iq7, iq8, h2, h3, h4, h5, h6]); (try (simp (disch := omega) only [W2, Int.cast_ofNat_Int]; (try simp only [S, TY, reduceCtorEq, nq0, nq1, nq2, nq3, nq4, iq0, iq1, iq2, iq3, iq4, iq5, iq6, iq7, iq8, h2, h3, h4, h5, h6]))))
    exact .go (i + 1) (by omega) ⟨by omega, h2, h3, h4, rfl, by rw [ht]; rfl, hH⟩
  · ((try simp only [S, TY, reduceCtorEq, nq0, nq1, nq2, nq3, nq4, iq0, iq1, iq2, iq3, iq4, iq5, iq6, iq7, iq8, h2, h3, h4, h5, h6]); (try (simp (disch := omega) only [W2, Int.cast_ofNat_Int]; (try simp only [S, TY, reduceCtorEq, nq0, nq1, nq2, nq3, nq4, iq0, iq1, iq2, iq3, iq4, iq5, iq6, iq7, iq8, h2, h3, h4, h5, h6]))))
    obtain rfl : i = n := by omega
    have hin : l.length = i := by rw [List.length_map] at e1; omega
    rw [← hin, List.take_length]
    refine (grow_nil (total l) hl).at_ hH [] [] rfl fun r B H1 hr h => ?_
    subst hr
    ((try simp only [S, TY, reduceCtorEq, nq0, nq1, nq2, nq3, nq4, iq0, iq1, iq2, iq3, iq4, iq5, iq6, iq7, iq8, h2, h3, h4, h5, h6]); (try (simp (disch := omega) only [W2, Int.cast_ofNat_Int]; (try simp only [S, TY, reduceCtorEq, nq0, nq1, nq2, nq3, nq4, iq0, iq1, iq2, iq3, iq4, iq5, iq6, iq7, iq8, h2, h3, h4, h5, h6]))))
    refine cl_loop (fun k e H => k ≤ i ∧ e 25 = .slice a i c ∧ e 26 = .int .i64 i ∧ e 27 = .int .i64 k ∧ ∃ r, e 6 = r ∧ sg G [own 5 1 r (bv ((l.take k).flatMap (·.2)))] H) (fun k => i - k) 0
      ⟨by omega, rfl, rfl, rfl, r, rfl, by simpa [bv] using h⟩ ?_
    rintro k e H ⟨q1, q2, q3, q4, r, q5, hH⟩
    simp only [S, TY, reduceCtorEq, nq0, nq1, nq2, nq3, nq4, iq0, iq1, iq2, iq3, iq4, iq5, iq6, iq7, iq8, q2, q3, q4, q5]
    refine Gate.intro (fun g => ?_) (fun g => ?_)
    · obtain ⟨b, off, rfl, c1⟩ := (hH.ro hv).at1 (i := k) (by omega)
      have hil : k < l.length := by omega
      have hxi := hx l[k] (List.getElem_mem hil)
      obtain ⟨xa, xn, xc, hxe, e3, e4⟩ := hxi.slice
      rw [List.getElem?_map, List.getElem?_eq_getElem hil, Option.map_some, hxe] at c1
      have ht : (l.take (k + 1)).flatMap (·.2) = (l.take k).flatMap (·.2) ++ l[k].2 := by
        rw [List.take_succ_eq_append_getElem hil, List.flatMap_append]
        simp
      have hle := total_take_le l (k + 1)
      unfold total at hle
      rw [ht, List.length_append] at hle
      have g0 : (0 : Int) ≤ k ∧ (k : Int) < i := ⟨by omega, g⟩
      ((try simp only [S, TY, reduceCtorEq, nq0, nq1, nq2, nq3, nq4, iq0, iq1, iq2, iq3, iq4, iq5, iq6, iq7, iq8, q2, q3, q4, q5, g0, c1]); (try (simp (disch := omega) only [W2, Int.cast_ofNat_Int]; (try simp only [S, TY, reduceCtorEq, nq0, nq1, nq2, nq3, nq4, iq0, iq1, iq2, iq3, iq4, iq5, iq6, iq7, iq8, q2, q3, q4, q5, g0, c1]))))
      unfold total at hl
      refine append_sl (show apI Try.prog 33 = some (5, 1, 1) from by kernel_rfl) (show slIs Try.prog 33 = true from by kernel_rfl) hH (by rw [← hxe]; exact hH.ro hxi) (bv_one _) (by simp only [bv_length]; omega) fun v H1 h1 => ?_
      ((try simp only [S, TY, reduceCtorEq, nq0, nq1, nq2, nq3, nq4, iq0, iq1, iq2, iq3, iq4, iq5, iq6, iq7, iq8, q2, q3, q4, q5]); (try (simp (disch := omega) only [W2, Int.cast_ofNat_Int]; (try simp only [S, TY, reduceCtorEq, nq0, nq1, nq2, nq3, nq4, iq0, iq1, iq2, iq3, iq4, iq5, iq6, iq7, iq8, q2, q3, q4, q5]))))
      exact .go (k + 1) (by omega) ⟨by omega, q2, q3, rfl, _, rfl, by rw [ht, bv_append]; exact h1⟩
    · ((try simp only [S, TY, reduceCtorEq, nq0, nq1, nq2, nq3, nq4, iq0, iq1, iq2, iq3, iq4, iq5, iq6, iq7, iq8, q2, q3, q4, q5]); (try (simp (disch := omega) only [W2, Int.cast_ofNat_Int]; (try simp only [S, TY, reduceCtorEq, nq0, nq1, nq2, nq3, nq4, iq0, iq1, iq2, iq3, iq4, iq5, iq6, iq7, iq8, q2, q3, q4, q5]))))
      obtain rfl : k = i := by omega
      rw [← hin, List.take_length] at hH
      exact fin_ret hH rfl
theorem concat2 {G : Hp} {v x y : Value} {xs ys : List UInt8} (hv : rds G 1 v [x, y]) (hx : rds G 1 x (bv xs)) (hy : rds G 1 y (bv ys)) (hl : xs.length + ys.length ≤ 70368744177664) :
    Con Try.prog G 126 [v] [] (fun r B => B = [own 5 1 r (bv (xs ++ ys))]) := by
  have := concat (G := G) (v := v) (l := [(x, xs), (y, ys)]) hv (by
    intro p hp
    simp only [List.mem_cons, List.not_mem_nil, or_false] at hp
    rcases hp with rfl | rfl
    · exact hx
    · exact hy) (by simp [total]; omega) (by simp)
  simpa using this
end Go.Proofs.Ytfjmejideoklpaa.Slices
