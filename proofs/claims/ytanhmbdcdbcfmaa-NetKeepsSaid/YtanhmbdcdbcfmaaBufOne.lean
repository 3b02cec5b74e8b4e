/- The document's bytes of a number, over the machine. -/
import Derived.Test.YtanhmbdcdbcfmaaBufRe
set_option linter.unusedVariables false
set_option linter.unusedSimpArgs false
set_option maxRecDepth 10000
namespace Go.Proofs.Ytanhmbdcdbcfmaa.BufOne
open Nat renaming reduceEqDiff → nq0, reduceAdd → nq1, reduceLeDiff → nq2, reduceBEq → nq3, reduceMul → nq4
open Int renaming reduceBEq → iq0, reduceEq → iq1, reduceLT → iq2, reduceLE → iq3, reduceAdd → iq4, reduceSub → iq5, reduceMul → iq6, reduceToNat → iq7, cast_ofNat_Int → iq8
open Go Go.Sl Go.Proofs Go.Proofs.Ytanhmbdcdbcfmaa.Buf Go.Proofs.Ytanhmbdcdbcfmaa.BufRd Go.Proofs.Ytanhmbdcdbcfmaa.BufRe
theorem TY : aggN Try.prog 3 = some none ∧
  aggN Try.prog 5 = some none ∧
  aggN Try.prog 24 = some none ∧
  aggN Try.prog 260 = some none ∧
  apI Try.prog 24 = some (5, 1, 1) ∧
  bySl Try.prog 24 = true ∧
  csz Try.prog 3 = some 1 ∧
  csz Try.prog 5 = some 1 ∧
  csz Try.prog 24 = some 1 ∧
  csz Try.prog 260 = some 1 ∧
  inIs Try.prog 3 = some .i64 ∧
  inIs Try.prog 5 = some .u8 ∧
  inIs Try.prog 260 = some .u64 ∧
  slEl Try.prog 24 = 5 ∧
  slIs Try.prog 24 = true ∧
  slSz Try.prog 24 = 1 ∧
  zro Try.prog 3 = some (.int .i64 0) ∧
  zro Try.prog 5 = some (.int .u8 0) ∧
  zro Try.prog 24 = some (.slice none 0 0) ∧
  zro Try.prog 260 = some (.int .u64 0) :=
  ⟨by kernel_rfl, by kernel_rfl, by kernel_rfl, by kernel_rfl, by kernel_rfl, by kernel_rfl, by kernel_rfl, by kernel_rfl, by kernel_rfl, by kernel_rfl, by kernel_rfl, by kernel_rfl, by kernel_rfl, by kernel_rfl, by kernel_rfl, by kernel_rfl, by kernel_rfl, by kernel_rfl, by kernel_rfl, by kernel_rfl⟩
theorem one_ok {N X : Nat} (hN : N ≤ 8) {G : Hp} : Con Try.prog G 114 [.int .i64 N, .int .i64 X] [] (fun v B => B = [own 5 1 v (bv (num N X))]) := by
  refine Con.intro Try.func114 rfl (Nat.le_of_ble_eq_true (by kernel_rfl)) (by kernel_rfl) Try.results114 ?_
  intro H hH
  ((try simp only [S, TY, reduceCtorEq, nq0, nq1, nq2, nq3, nq4, iq0, iq1, iq2, iq3, iq4, iq5, iq6, iq7, iq8]); (try (simp (disch := omega) only [W2, Int.cast_ofNat_Int]; (try simp only [S, TY, reduceCtorEq, nq0, nq1, nq2, nq3, nq4, iq0, iq1, iq2, iq3, iq4, iq5, iq6, iq7, iq8]))))
  refine cl_loop (fun j e H => j ≤ N ∧ e 1 = .int .i64 X ∧ e 6 = .int .i64 ((j : Int) - 1) ∧ ∃ y v, e 5 = v ∧ y ++ num j X = num N X ∧ sg G [own 5 1 v (bv y)] H) (fun j => j) N
    ⟨by omega, rfl, rfl, [], _, rfl, by simp, hH.nil_ 5 1⟩ ?_
  rintro j e H ⟨r0, r1, r2, y, v, r3, r4, hH⟩
  by_cases j0 : j = 0
  · subst j0
    ((try simp only [S, TY, reduceCtorEq, nq0, nq1, nq2, nq3, nq4, iq0, iq1, iq2, iq3, iq4, iq5, iq6, iq7, iq8, r1, r2, r3]); (try (simp (disch := omega) only [W2, Int.cast_ofNat_Int]; (try simp only [S, TY, reduceCtorEq, nq0, nq1, nq2, nq3, nq4, iq0, iq1, iq2, iq3, iq4, iq5, iq6, iq7, iq8, r1, r2, r3]))))
    simp only [num, List.append_nil] at r4
    rw [r4] at hH
    exact fin_ret hH rfl
  · obtain ⟨j, rfl⟩ : ∃ m, j = m + 1 := ⟨j - 1, by omega⟩
    have s1 : ((j + 1 : Nat) : Int) - 1 = j := by omega
    rw [s1] at r2
    have hy : y.length + (j + 1) = N := by have := congrArg List.length r4; simpa [num_length] using this
    have s2 : (0 : Int) ≤ j := by omega
    have s3 : IntKind.i64.wrap (8 * (j : Int)) = 8 * j := wrap_id (by omega) (by omega)
    have s7 : IntKind.u64.wrap (8 * (j : Int)) = 8 * j := wrap_u64_id (by omega) (by omega)
    have s4 : ¬ 8 * (j : Int) < 0 := by omega
    have s5 : ((X : Int).fdiv (2 ^ (min (8 * (j : Int)).toNat 64))) = ((X / 256 ^ j : Nat) : Int) := by
      rw [show min (8 * (j : Int)).toNat 64 = 8 * j by omega, fdiv_pos, p256]
    have s6 : (((X / 256 ^ j : Nat) : Int) % 256) = ((UInt8.ofNat (X / 256 ^ j)).toNat : Int) := by simp
    ((try simp only [S, TY, reduceCtorEq, nq0, nq1, nq2, nq3, nq4, iq0, iq1, iq2, iq3, iq4, iq5, iq6, iq7, iq8, r1, r2, r3, s2, s3, s4, s5, s7]); (try (simp (disch := omega) only [W2, Int.cast_ofNat_Int]; (try simp only [S, TY, reduceCtorEq, nq0, nq1, nq2, nq3, nq4, iq0, iq1, iq2, iq3, iq4, iq5, iq6, iq7, iq8, r1, r2, r3, s2, s3, s4, s5, s7]))))
    simp only [s6]
    intro nb hnb hng
    have h1 := hH.newsl (e := 5) (sz := 1) (n := 1) (xs := bv [UInt8.ofNat (X / 256 ^ j)]) hnb hng rfl
    ((try simp only [S, TY, reduceCtorEq, nq0, nq1, nq2, nq3, nq4, iq0, iq1, iq2, iq3, iq4, iq5, iq6, iq7, iq8, r1, r2, r3]); (try (simp (disch := omega) only [W2, Int.cast_ofNat_Int]; (try simp only [S, TY, reduceCtorEq, nq0, nq1, nq2, nq3, nq4, iq0, iq1, iq2, iq3, iq4, iq5, iq6, iq7, iq8, r1, r2, r3]))))
    refine append_sl (show apI Try.prog 24 = some (5, 1, 1) from by kernel_rfl) (show slIs Try.prog 24 = true from by kernel_rfl) (h1.front 1) (h1.rdsi 0 rfl Rd_own) (bv_one _) (by simp only [bv_length, List.length_cons, List.length_nil]; omega) fun v H2 h2 => ?_
    rw [← bv_append] at h2
    ((try simp only [S, TY, reduceCtorEq, nq0, nq1, nq2, nq3, nq4, iq0, iq1, iq2, iq3, iq4, iq5, iq6, iq7, iq8, r1, r2]); (try (simp (disch := omega) only [W2, Int.cast_ofNat_Int]; (try simp only [S, TY, reduceCtorEq, nq0, nq1, nq2, nq3, nq4, iq0, iq1, iq2, iq3, iq4, iq5, iq6, iq7, iq8, r1, r2]))))
    refine .go j (by omega) ⟨by omega, r1, rfl, y ++ [UInt8.ofNat (X / 256 ^ j)], _, rfl, ?_, (h2.front 1).tail⟩
    rw [← r4]; simp [num]
end Go.Proofs.Ytanhmbdcdbcfmaa.BufOne
