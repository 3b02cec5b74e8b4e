/- The document's frames, over the machine. -/
import Derived.Test.YtanhmbdcdbcfmaaEthD
import Derived.Test.YtanhmbdcdbcfmaaBufG
import Derived.Test.YtanhmbdcdbcfmaaBufOne
set_option linter.unusedVariables false
set_option linter.unusedSimpArgs false
set_option maxRecDepth 10000
namespace Go.Proofs.Ytanhmbdcdbcfmaa.EthR
open Nat renaming reduceEqDiff → nq0, reduceAdd → nq1, reduceLeDiff → nq2, reduceBEq → nq3, reduceMul → nq4
open Int renaming reduceBEq → iq0, reduceEq → iq1, reduceLT → iq2, reduceLE → iq3, reduceAdd → iq4, reduceSub → iq5, reduceMul → iq6, reduceToNat → iq7, cast_ofNat_Int → iq8
open Go Go.Sl Go.Proofs Go.Proofs.Ytanhmbdcdbcfmaa.Buf Go.Proofs.Ytanhmbdcdbcfmaa.BufRd Go.Proofs.Ytanhmbdcdbcfmaa.BufRe Go.Proofs.Ytanhmbdcdbcfmaa.BufP Go.Proofs.Ytanhmbdcdbcfmaa.Eth Go.Proofs.Ytanhmbdcdbcfmaa.EthD Go.Proofs.Ytanhmbdcdbcfmaa.BufG Go.Proofs.Ytanhmbdcdbcfmaa.BufOne
theorem TY : aggN Try.prog 3 = some none ∧
  aggN Try.prog 5 = some none ∧
  aggN Try.prog 24 = some none ∧
  aggN Try.prog 49 = some none ∧
  aggN Try.prog 51 = some (some 4) ∧
  apI Try.prog 24 = some (5, 1, 1) ∧
  bIs Try.prog 51 = true ∧
  bySl Try.prog 24 = true ∧
  csz Try.prog 3 = some 1 ∧
  csz Try.prog 5 = some 1 ∧
  csz Try.prog 24 = some 1 ∧
  csz Try.prog 49 = some 1 ∧
  csz Try.prog 51 = some 4 ∧
  fIs Try.prog 51 0 = true ∧
  fIs Try.prog 51 1 = true ∧
  fIs Try.prog 51 2 = true ∧
  fIs Try.prog 51 3 = true ∧
  fOff Try.prog 51 0 = 0 ∧
  fOff Try.prog 51 1 = 1 ∧
  fOff Try.prog 51 2 = 2 ∧
  fOff Try.prog 51 3 = 3 ∧
  fTy Try.prog 51 0 = 49 ∧
  fTy Try.prog 51 1 = 49 ∧
  fTy Try.prog 51 2 = 3 ∧
  fTy Try.prog 51 3 = 24 ∧
  goes Try.prog 114 = true ∧
  inIs Try.prog 3 = some .i64 ∧
  inIs Try.prog 5 = some .u8 ∧
  inIs Try.prog 49 = some .u64 ∧
  plcs Try.prog 51 = [(0, 1), (1, 1), (2, 1), (3, 1)] ∧
  slEl Try.prog 24 = 5 ∧
  slIs Try.prog 24 = true ∧
  slSz Try.prog 24 = 1 ∧
  zcs Try.prog 51 = [.int .u64 0, .int .u64 0, .int .i64 0, .slice none 0 0] ∧
  zro Try.prog 3 = some (.int .i64 0) ∧
  zro Try.prog 5 = some (.int .u8 0) ∧
  zro Try.prog 24 = some (.slice none 0 0) ∧
  zro Try.prog 49 = some (.int .u64 0) ∧
  zro Try.prog 51 = some (.agg #[.int .u64 0, .int .u64 0, .int .i64 0, .slice none 0 0]) :=
  ⟨by kernel_rfl, by kernel_rfl, by kernel_rfl, by kernel_rfl, by kernel_rfl, by kernel_rfl, by kernel_rfl, by kernel_rfl, by kernel_rfl, by kernel_rfl, by kernel_rfl, by kernel_rfl, by kernel_rfl, by kernel_rfl, by kernel_rfl, by kernel_rfl, by kernel_rfl, by kernel_rfl, by kernel_rfl, by kernel_rfl, by kernel_rfl, by kernel_rfl, by kernel_rfl, by kernel_rfl, by kernel_rfl, by kernel_rfl, by kernel_rfl, by kernel_rfl, by kernel_rfl, by kernel_rfl, by kernel_rfl, by kernel_rfl, by kernel_rfl, by kernel_rfl, by kernel_rfl, by kernel_rfl, by kernel_rfl, by kernel_rfl, by kernel_rfl⟩
theorem dRight {G : Hp} {v : Value} {l : List UInt8} (d s t : Int) (hv : rds G 1 v (bv l)) :
    Con Try.prog G 24 [frv d s t v] [] (fun r B => r = .bool (right d s t l.length) ∧ B = []) := by
  refine Con.intro Try.func24 rfl (Nat.le_of_ble_eq_true (by kernel_rfl)) (by kernel_rfl) Try.results24 ?_
  intro H hH
  obtain ⟨a, n, c, rfl, e1, e2⟩ := hv.slice
  rw [bv_length] at e1
  ((try simp only [S, TY, reduceCtorEq, nq0, nq1, nq2, nq3, nq4, iq0, iq1, iq2, iq3, iq4, iq5, iq6, iq7, iq8]); (try (simp (disch := omega) only [W2, Int.cast_ofNat_Int]; (try simp only [S, TY, reduceCtorEq, nq0, nq1, nq2, nq3, nq4, iq0, iq1, iq2, iq3, iq4, iq5, iq6, iq7, iq8]))))
  intro b hb hg
  have h1 := hH.new hb hg (.cells #[.int .u64 d, .int .u64 s, .int .i64 t, .slice a n c] 51 (0, 0))
  have c1 := h1.c0
  ((try simp only [S, TY, reduceCtorEq, nq0, nq1, nq2, nq3, nq4, iq0, iq1, iq2, iq3, iq4, iq5, iq6, iq7, iq8, c1]); (try (simp (disch := omega) only [W2, Int.cast_ofNat_Int]; (try simp only [S, TY, reduceCtorEq, nq0, nq1, nq2, nq3, nq4, iq0, iq1, iq2, iq3, iq4, iq5, iq6, iq7, iq8, c1]))))
  repeat' (refine Gate.intro (fun g => ?_) (fun g => ?_) <;> ((try simp only [S, TY, reduceCtorEq, nq0, nq1, nq2, nq3, nq4, iq0, iq1, iq2, iq3, iq4, iq5, iq6, iq7, iq8, c1, g]); (try (simp (disch := omega) only [W2, Int.cast_ofNat_Int]; (try simp only [S, TY, reduceCtorEq, nq0, nq1, nq2, nq3, nq4, iq0, iq1, iq2, iq3, iq4, iq5, iq6, iq7, iq8, c1, g])))))
  all_goals exact fin_take (B := []) h1 ⟨by (refine bb ?_; (try simp only [right, BB]) <;> (first | omega | grind)), rfl⟩
theorem dBytes {G : Hp} {v : Value} {l : List UInt8} (d s t : Int) (hd : 0 ≤ d) (hs : 0 ≤ s) (g : right d s t l.length = true) (hv : rds G 1 v (bv l)) :
    Con Try.prog G 26 [frv d s t v] [] (fun r B => B = [own 5 1 r (bv (enc d s t l))]) := by
  unfold right at g
  simp only [decide_eq_true_eq] at g
  obtain ⟨D, rfl⟩ : ∃ n : Nat, d = n := ⟨d.toNat, by omega⟩
  obtain ⟨S', rfl⟩ : ∃ n : Nat, s = n := ⟨s.toNat, by omega⟩
  obtain ⟨T, rfl⟩ : ∃ n : Nat, t = n := ⟨t.toNat, by omega⟩
  have w1 : IntKind.i64.wrap (D : Int) = D := wrap_id (by omega) (by omega)
  have w2 : IntKind.i64.wrap (S' : Int) = S' := wrap_id (by omega) (by omega)
  refine Con.intro Try.func26 rfl (Nat.le_of_ble_eq_true (by kernel_rfl)) (by kernel_rfl) Try.results26 ?_
  intro H hH
  ((try simp only [S, TY, reduceCtorEq, nq0, nq1, nq2, nq3, nq4, iq0, iq1, iq2, iq3, iq4, iq5, iq6, iq7, iq8]); (try (simp (disch := omega) only [W2, Int.cast_ofNat_Int]; (try simp only [S, TY, reduceCtorEq, nq0, nq1, nq2, nq3, nq4, iq0, iq1, iq2, iq3, iq4, iq5, iq6, iq7, iq8]))))
  intro b hb hg
  have h1 := hH.new hb hg (.cells #[.int .u64 D, .int .u64 S', .int .i64 T, v] 51 (0, 0))
  have c1 := h1.c0
  ((try simp only [S, TY, reduceCtorEq, nq0, nq1, nq2, nq3, nq4, iq0, iq1, iq2, iq3, iq4, iq5, iq6, iq7, iq8, c1, w1]); (try (simp (disch := omega) only [W2, Int.cast_ofNat_Int]; (try simp only [S, TY, reduceCtorEq, nq0, nq1, nq2, nq3, nq4, iq0, iq1, iq2, iq3, iq4, iq5, iq6, iq7, iq8, c1, w1]))))
  refine (one_ok (N := 6) (X := D) (by omega)).at_ h1 [] _ rfl fun r B H2 hr h2 => ?_
  subst hr
  have c2 := (h2.front 1).c0
  ((try simp only [S, TY, reduceCtorEq, nq0, nq1, nq2, nq3, nq4, iq0, iq1, iq2, iq3, iq4, iq5, iq6, iq7, iq8, c2, w2]); (try (simp (disch := omega) only [W2, Int.cast_ofNat_Int]; (try simp only [S, TY, reduceCtorEq, nq0, nq1, nq2, nq3, nq4, iq0, iq1, iq2, iq3, iq4, iq5, iq6, iq7, iq8, c2, w2]))))
  refine (one_ok (N := 6) (X := S') (by omega)).at_ h2 [] _ rfl fun r' B H3 hr h3 => ?_
  subst hr
  ((try simp only [S, TY, reduceCtorEq, nq0, nq1, nq2, nq3, nq4, iq0, iq1, iq2, iq3, iq4, iq5, iq6, iq7, iq8]); (try (simp (disch := omega) only [W2, Int.cast_ofNat_Int]; (try simp only [S, TY, reduceCtorEq, nq0, nq1, nq2, nq3, nq4, iq0, iq1, iq2, iq3, iq4, iq5, iq6, iq7, iq8]))))
  refine append_sl (show apI Try.prog 24 = some (5, 1, 1) from by kernel_rfl) (show slIs Try.prog 24 = true from by kernel_rfl) (h3.front 1) ((h3.front 1).rdsi 1 rfl Rd_own) (bv_one _) (by simp [bv_length, num_length]) fun v4 H4 h4 => ?_
  rw [← bv_append] at h4
  have c4 := (h4.front 2).c0
  ((try simp only [S, TY, reduceCtorEq, nq0, nq1, nq2, nq3, nq4, iq0, iq1, iq2, iq3, iq4, iq5, iq6, iq7, iq8, c4]); (try (simp (disch := omega) only [W2, Int.cast_ofNat_Int]; (try simp only [S, TY, reduceCtorEq, nq0, nq1, nq2, nq3, nq4, iq0, iq1, iq2, iq3, iq4, iq5, iq6, iq7, iq8, c4]))))
  refine (one_ok (N := 2) (X := T) (by omega)).at_ h4 [] _ rfl fun r' B H5 hr h5 => ?_
  subst hr
  ((try simp only [S, TY, reduceCtorEq, nq0, nq1, nq2, nq3, nq4, iq0, iq1, iq2, iq3, iq4, iq5, iq6, iq7, iq8]); (try (simp (disch := omega) only [W2, Int.cast_ofNat_Int]; (try simp only [S, TY, reduceCtorEq, nq0, nq1, nq2, nq3, nq4, iq0, iq1, iq2, iq3, iq4, iq5, iq6, iq7, iq8]))))
  refine append_sl (show apI Try.prog 24 = some (5, 1, 1) from by kernel_rfl) (show slIs Try.prog 24 = true from by kernel_rfl) (h5.front 1) ((h5.front 1).rdsi 1 rfl Rd_own) (bv_one _) (by simp [bv_length, num_length]) fun v6 H6 h6 => ?_
  rw [← bv_append] at h6
  have c6 := (h6.front 3).c0
  ((try simp only [S, TY, reduceCtorEq, nq0, nq1, nq2, nq3, nq4, iq0, iq1, iq2, iq3, iq4, iq5, iq6, iq7, iq8, c6]); (try (simp (disch := omega) only [W2, Int.cast_ofNat_Int]; (try simp only [S, TY, reduceCtorEq, nq0, nq1, nq2, nq3, nq4, iq0, iq1, iq2, iq3, iq4, iq5, iq6, iq7, iq8, c6]))))
  refine append_sl (show apI Try.prog 24 = some (5, 1, 1) from by kernel_rfl) (show slIs Try.prog 24 = true from by kernel_rfl) h6 (h6.ro hv) (bv_one _) (by simp [bv_length, num_length]; omega) fun v7 H7 h7 => ?_
  rw [← bv_append] at h7
  ((try simp only [S, TY, reduceCtorEq, nq0, nq1, nq2, nq3, nq4, iq0, iq1, iq2, iq3, iq4, iq5, iq6, iq7, iq8]); (try (simp (disch := omega) only [W2, Int.cast_ofNat_Int]; (try simp only [S, TY, reduceCtorEq, nq0, nq1, nq2, nq3, nq4, iq0, iq1, iq2, iq3, iq4, iq5, iq6, iq7, iq8]))))
  exact fin_take (B := [_]) h7 (by simp [enc, List.append_assoc])
end Go.Proofs.Ytanhmbdcdbcfmaa.EthR
