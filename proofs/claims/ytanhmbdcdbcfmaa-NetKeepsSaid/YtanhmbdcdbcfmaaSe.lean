/- session's functions on letters, over the machine. -/
import Derived.Test.YtanhmbdcdbcfmaaSeP
import Derived.Test.YtanhmbdcdbcfmaaBufOne
set_option linter.unusedVariables false
set_option linter.unusedSimpArgs false
set_option maxRecDepth 10000
set_option maxHeartbeats 2000000
namespace Go.Proofs.Ytanhmbdcdbcfmaa.Se
open Nat renaming reduceEqDiff → nq0, reduceAdd → nq1, reduceLeDiff → nq2, reduceBEq → nq3, reduceMul → nq4
open Int renaming reduceBEq → iq0, reduceEq → iq1, reduceLT → iq2, reduceLE → iq3, reduceAdd → iq4, reduceSub → iq5, reduceMul → iq6, reduceToNat → iq7, cast_ofNat_Int → iq8
open Go Go.Sl Go.Proofs Go.Proofs.Ytanhmbdcdbcfmaa.Buf Go.Proofs.Ytanhmbdcdbcfmaa.BufRd Go.Proofs.Ytanhmbdcdbcfmaa.BufRe Go.Proofs.Ytanhmbdcdbcfmaa.BufP Go.Proofs.Ytanhmbdcdbcfmaa.SeP
theorem TY : aggN Try.prog 3 = some none ∧
  aggN Try.prog 5 = some none ∧
  aggN Try.prog 24 = some none ∧
  aggN Try.prog 62 = some (some 5) ∧
  apI Try.prog 24 = some (5, 1, 1) ∧
  bIs Try.prog 62 = true ∧
  bySl Try.prog 24 = true ∧
  csz Try.prog 3 = some 1 ∧
  csz Try.prog 5 = some 1 ∧
  csz Try.prog 24 = some 1 ∧
  csz Try.prog 62 = some 5 ∧
  fIs Try.prog 62 0 = true ∧
  fIs Try.prog 62 1 = true ∧
  fIs Try.prog 62 2 = true ∧
  fIs Try.prog 62 3 = true ∧
  fIs Try.prog 62 4 = true ∧
  fOff Try.prog 62 0 = 0 ∧
  fOff Try.prog 62 1 = 1 ∧
  fOff Try.prog 62 2 = 2 ∧
  fOff Try.prog 62 3 = 3 ∧
  fOff Try.prog 62 4 = 4 ∧
  fTy Try.prog 62 0 = 3 ∧
  fTy Try.prog 62 1 = 3 ∧
  fTy Try.prog 62 2 = 3 ∧
  fTy Try.prog 62 3 = 3 ∧
  fTy Try.prog 62 4 = 24 ∧
  goes Try.prog 123 = true ∧
  goes Try.prog 124 = true ∧
  inIs Try.prog 3 = some .i64 ∧
  inIs Try.prog 5 = some .u8 ∧
  plcs Try.prog 62 = [(0, 1), (1, 1), (2, 1), (3, 1), (4, 1)] ∧
  slEl Try.prog 24 = 5 ∧
  slIs Try.prog 24 = true ∧
  slSz Try.prog 24 = 1 ∧
  zcs Try.prog 62 = [.int .i64 0, .int .i64 0, .int .i64 0, .int .i64 0, .slice none 0 0] ∧
  zro Try.prog 3 = some (.int .i64 0) ∧
  zro Try.prog 5 = some (.int .u8 0) ∧
  zro Try.prog 24 = some (.slice none 0 0) ∧
  zro Try.prog 62 = some (.agg #[.int .i64 0, .int .i64 0, .int .i64 0, .int .i64 0, .slice none 0 0]) :=
  ⟨by kernel_rfl, by kernel_rfl, by kernel_rfl, by kernel_rfl, by kernel_rfl, by kernel_rfl, by kernel_rfl, by kernel_rfl, by kernel_rfl, by kernel_rfl, by kernel_rfl, by kernel_rfl, by kernel_rfl, by kernel_rfl, by kernel_rfl, by kernel_rfl, by kernel_rfl, by kernel_rfl, by kernel_rfl, by kernel_rfl, by kernel_rfl, by kernel_rfl, by kernel_rfl, by kernel_rfl, by kernel_rfl, by kernel_rfl, by kernel_rfl, by kernel_rfl, by kernel_rfl, by kernel_rfl, by kernel_rfl, by kernel_rfl, by kernel_rfl, by kernel_rfl, by kernel_rfl, by kernel_rfl, by kernel_rfl, by kernel_rfl, by kernel_rfl⟩
abbrev ltl (m p a s : Int) (v : Value) : List Value := [.int .i64 m, .int .i64 p, .int .i64 a, .int .i64 s, v]
abbrev Lt.v (x : Lt) (u : Value) : Value := .agg (ltl x.m x.p x.a x.s u).toArray
theorem upto_ok {G : Hp} (x lo hi : Int) : Con Try.prog G 123 [.int .i64 x, .int .i64 lo, .int .i64 hi] [] (fun r B => r = .bool (decide (lo ≤ x ∧ x ≤ hi)) ∧ B = []) := by
  refine Con.intro Try.func123 rfl (Nat.le_of_ble_eq_true (by kernel_rfl)) (by kernel_rfl) Try.results123 ?_
  intro H hH
  ((try simp only [S, TY, reduceCtorEq, nq0, nq1, nq2, nq3, nq4, iq0, iq1, iq2, iq3, iq4, iq5, iq6, iq7, iq8]); (try (simp (disch := omega) only [W2, Int.cast_ofNat_Int]; (try simp only [S, TY, reduceCtorEq, nq0, nq1, nq2, nq3, nq4, iq0, iq1, iq2, iq3, iq4, iq5, iq6, iq7, iq8]))))
  repeat' (refine Gate.intro (fun g => ?_) (fun g => ?_) <;> ((try simp only [S, TY, reduceCtorEq, nq0, nq1, nq2, nq3, nq4, iq0, iq1, iq2, iq3, iq4, iq5, iq6, iq7, iq8, g]); (try (simp (disch := omega) only [W2, Int.cast_ofNat_Int]; (try simp only [S, TY, reduceCtorEq, nq0, nq1, nq2, nq3, nq4, iq0, iq1, iq2, iq3, iq4, iq5, iq6, iq7, iq8, g])))))
  all_goals exact fin_take (B := []) hH ⟨by (refine bb ?_; (try simp only [BB]) <;> (first | omega | grind)), rfl⟩
theorem In_ok {G : Hp} (x lo hi : Int) : Con Try.prog G 119 [.int .i64 x, .int .i64 lo, .int .i64 hi] [] (fun r B => r = .bool (decide (lo ≤ x ∧ x ≤ hi)) ∧ B = []) := by
  refine Con.intro Try.func119 rfl (Nat.le_of_ble_eq_true (by kernel_rfl)) (by kernel_rfl) Try.results119 ?_
  intro H hH
  ((try simp only [S, TY, reduceCtorEq, nq0, nq1, nq2, nq3, nq4, iq0, iq1, iq2, iq3, iq4, iq5, iq6, iq7, iq8]); (try (simp (disch := omega) only [W2, Int.cast_ofNat_Int]; (try simp only [S, TY, reduceCtorEq, nq0, nq1, nq2, nq3, nq4, iq0, iq1, iq2, iq3, iq4, iq5, iq6, iq7, iq8]))))
  repeat' (refine Gate.intro (fun g => ?_) (fun g => ?_) <;> ((try simp only [S, TY, reduceCtorEq, nq0, nq1, nq2, nq3, nq4, iq0, iq1, iq2, iq3, iq4, iq5, iq6, iq7, iq8, g]); (try (simp (disch := omega) only [W2, Int.cast_ofNat_Int]; (try simp only [S, TY, reduceCtorEq, nq0, nq1, nq2, nq3, nq4, iq0, iq1, iq2, iq3, iq4, iq5, iq6, iq7, iq8, g])))))
  all_goals exact fin_take (B := []) hH ⟨by (refine bb ?_; (try simp only [BB]) <;> (first | omega | grind)), rfl⟩
theorem body_ok {G : Hp} {v : Value} {l : List UInt8} (hv : rds G 1 v (bv l)) : Con Try.prog G 124 [v] [] (fun r B => r = .bool (decide (1 ≤ l.length ∧ l.length ≤ 1000)) ∧ B = []) := by
  obtain ⟨a, n, c, rfl, e1, e2⟩ := hv.slice
  rw [bv_length, Nat.mul_one] at e1
  subst e1
  refine Con.intro Try.func124 rfl (Nat.le_of_ble_eq_true (by kernel_rfl)) (by kernel_rfl) Try.results124 ?_
  intro H h
  ((try simp only [S, TY, reduceCtorEq, nq0, nq1, nq2, nq3, nq4, iq0, iq1, iq2, iq3, iq4, iq5, iq6, iq7, iq8]); (try (simp (disch := omega) only [W2, Int.cast_ofNat_Int]; (try simp only [S, TY, reduceCtorEq, nq0, nq1, nq2, nq3, nq4, iq0, iq1, iq2, iq3, iq4, iq5, iq6, iq7, iq8]))))
  refine (upto_ok _ _ _).at_ h [] _ rfl fun r B H2 hr h2 => ?_
  obtain ⟨rfl, rfl⟩ := hr
  ((try simp only [S, TY, reduceCtorEq, nq0, nq1, nq2, nq3, nq4, iq0, iq1, iq2, iq3, iq4, iq5, iq6, iq7, iq8]); (try (simp (disch := omega) only [W2, Int.cast_ofNat_Int]; (try simp only [S, TY, reduceCtorEq, nq0, nq1, nq2, nq3, nq4, iq0, iq1, iq2, iq3, iq4, iq5, iq6, iq7, iq8]))))
  exact fin_take (B := []) h2 ⟨by congr 1; exact decide_eq_decide.2 (by omega), rfl⟩
theorem Right_ok {G : Hp} {v : Value} {l : List UInt8} (m p a s : Int) (hv : rds G 1 v (bv l)) :
    Con Try.prog G 33 [.agg (ltl m p a s v).toArray] [] (fun r B => r = .bool (right m p a s l.length) ∧ B = []) := by
  have hv0 := hv
  obtain ⟨va, n, c, rfl, e1, e2⟩ := hv.slice
  rw [bv_length, Nat.mul_one] at e1
  subst e1
  refine Con.intro Try.func33 rfl (Nat.le_of_ble_eq_true (by kernel_rfl)) (by kernel_rfl) Try.results33 ?_
  intro H hH
  ((try simp only [S, TY, reduceCtorEq, nq0, nq1, nq2, nq3, nq4, iq0, iq1, iq2, iq3, iq4, iq5, iq6, iq7, iq8]); (try (simp (disch := omega) only [W2, Int.cast_ofNat_Int]; (try simp only [S, TY, reduceCtorEq, nq0, nq1, nq2, nq3, nq4, iq0, iq1, iq2, iq3, iq4, iq5, iq6, iq7, iq8]))))
  intro b hb hg
  have h1 := hH.new hb hg (.cells (ltl m p a s (.slice va l.length c)).toArray 62 (0, 0))
  have c1 := h1.c0
  ((try simp only [S, TY, reduceCtorEq, nq0, nq1, nq2, nq3, nq4, iq0, iq1, iq2, iq3, iq4, iq5, iq6, iq7, iq8, c1]); (try (simp (disch := omega) only [W2, Int.cast_ofNat_Int]; (try simp only [S, TY, reduceCtorEq, nq0, nq1, nq2, nq3, nq4, iq0, iq1, iq2, iq3, iq4, iq5, iq6, iq7, iq8, c1]))))
  refine (upto_ok m 1 4294967296).at_ h1 [] _ rfl fun r B H2 hr h2 => ?_
  obtain ⟨rfl, rfl⟩ := hr
  have c2 := h2.c0
  by_cases g1 : ¬ (1 ≤ m ∧ m ≤ 4294967296)
  · ((try simp only [S, TY, reduceCtorEq, nq0, nq1, nq2, nq3, nq4, iq0, iq1, iq2, iq3, iq4, iq5, iq6, iq7, iq8, c2, g1]); (try (simp (disch := omega) only [W2, Int.cast_ofNat_Int]; (try simp only [S, TY, reduceCtorEq, nq0, nq1, nq2, nq3, nq4, iq0, iq1, iq2, iq3, iq4, iq5, iq6, iq7, iq8, c2, g1]))))
    exact fin_take (B := []) h2 ⟨by rw [show right m p a s l.length = false from by unfold right; exact decide_eq_false (fun z => g1 z.1)], rfl⟩
  rw [Decidable.not_not] at g1
  ((try simp only [S, TY, reduceCtorEq, nq0, nq1, nq2, nq3, nq4, iq0, iq1, iq2, iq3, iq4, iq5, iq6, iq7, iq8, c2, g1]); (try (simp (disch := omega) only [W2, Int.cast_ofNat_Int]; (try simp only [S, TY, reduceCtorEq, nq0, nq1, nq2, nq3, nq4, iq0, iq1, iq2, iq3, iq4, iq5, iq6, iq7, iq8, c2, g1]))))
  refine (upto_ok p 0 4294967296).at_ h2 [] _ rfl fun r B H3 hr h3 => ?_
  obtain ⟨rfl, rfl⟩ := hr
  have c3 := h3.c0
  by_cases g2 : ¬ (0 ≤ p ∧ p ≤ 4294967296)
  · ((try simp only [S, TY, reduceCtorEq, nq0, nq1, nq2, nq3, nq4, iq0, iq1, iq2, iq3, iq4, iq5, iq6, iq7, iq8, c3, g1, g2]); (try (simp (disch := omega) only [W2, Int.cast_ofNat_Int]; (try simp only [S, TY, reduceCtorEq, nq0, nq1, nq2, nq3, nq4, iq0, iq1, iq2, iq3, iq4, iq5, iq6, iq7, iq8, c3, g1, g2]))))
    exact fin_take (B := []) h3 ⟨by rw [show right m p a s l.length = false from by unfold right; exact decide_eq_false (fun z => g2 z.2.1)], rfl⟩
  rw [Decidable.not_not] at g2
  ((try simp only [S, TY, reduceCtorEq, nq0, nq1, nq2, nq3, nq4, iq0, iq1, iq2, iq3, iq4, iq5, iq6, iq7, iq8, c3, g1, g2]); (try (simp (disch := omega) only [W2, Int.cast_ofNat_Int]; (try simp only [S, TY, reduceCtorEq, nq0, nq1, nq2, nq3, nq4, iq0, iq1, iq2, iq3, iq4, iq5, iq6, iq7, iq8, c3, g1, g2]))))
  refine (upto_ok a 0 1099511627776).at_ h3 [] _ rfl fun r B H4 hr h4 => ?_
  obtain ⟨rfl, rfl⟩ := hr
  have c4 := h4.c0
  by_cases g3 : ¬ (0 ≤ a ∧ a ≤ 1099511627776)
  · ((try simp only [S, TY, reduceCtorEq, nq0, nq1, nq2, nq3, nq4, iq0, iq1, iq2, iq3, iq4, iq5, iq6, iq7, iq8, c4, g1, g2, g3]); (try (simp (disch := omega) only [W2, Int.cast_ofNat_Int]; (try simp only [S, TY, reduceCtorEq, nq0, nq1, nq2, nq3, nq4, iq0, iq1, iq2, iq3, iq4, iq5, iq6, iq7, iq8, c4, g1, g2, g3]))))
    exact fin_take (B := []) h4 ⟨by rw [show right m p a s l.length = false from by unfold right; exact decide_eq_false (fun z => g3 z.2.2.1)], rfl⟩
  rw [Decidable.not_not] at g3
  ((try simp only [S, TY, reduceCtorEq, nq0, nq1, nq2, nq3, nq4, iq0, iq1, iq2, iq3, iq4, iq5, iq6, iq7, iq8, c4, g1, g2, g3]); (try (simp (disch := omega) only [W2, Int.cast_ofNat_Int]; (try simp only [S, TY, reduceCtorEq, nq0, nq1, nq2, nq3, nq4, iq0, iq1, iq2, iq3, iq4, iq5, iq6, iq7, iq8, c4, g1, g2, g3]))))
  refine (upto_ok s 0 1099511627776).at_ h4 [] _ rfl fun r B H5 hr h5 => ?_
  obtain ⟨rfl, rfl⟩ := hr
  have c5 := h5.c0
  by_cases g4 : ¬ (0 ≤ s ∧ s ≤ 1099511627776)
  · ((try simp only [S, TY, reduceCtorEq, nq0, nq1, nq2, nq3, nq4, iq0, iq1, iq2, iq3, iq4, iq5, iq6, iq7, iq8, c5, g1, g2, g3, g4]); (try (simp (disch := omega) only [W2, Int.cast_ofNat_Int]; (try simp only [S, TY, reduceCtorEq, nq0, nq1, nq2, nq3, nq4, iq0, iq1, iq2, iq3, iq4, iq5, iq6, iq7, iq8, c5, g1, g2, g3, g4]))))
    exact fin_take (B := []) h5 ⟨by rw [show right m p a s l.length = false from by unfold right; exact decide_eq_false (fun z => g4 z.2.2.2.1)], rfl⟩
  rw [Decidable.not_not] at g4
  have hR : right m p a s l.length = decide ((s = 0 ∧ l.length = 0) ∨ (0 < s ∧ 1 ≤ l.length ∧ l.length ≤ 1000)) := by
    unfold right; exact decide_eq_decide.2 (by omega)
  rw [hR]
  by_cases g5 : s = 0
  · subst g5
    by_cases g6 : (l.length : Int) = 0
    · have g6' : l.length = 0 := by omega
      ((try simp only [S, TY, reduceCtorEq, nq0, nq1, nq2, nq3, nq4, iq0, iq1, iq2, iq3, iq4, iq5, iq6, iq7, iq8, c5, g1, g2, g3, g4, g6]); (try (simp (disch := omega) only [W2, Int.cast_ofNat_Int]; (try simp only [S, TY, reduceCtorEq, nq0, nq1, nq2, nq3, nq4, iq0, iq1, iq2, iq3, iq4, iq5, iq6, iq7, iq8, c5, g1, g2, g3, g4, g6]))))
      exact fin_take (B := []) h5 ⟨by simp [g6'], rfl⟩
    · have g6' : ¬ l.length = 0 := by omega
      ((try simp only [S, TY, reduceCtorEq, nq0, nq1, nq2, nq3, nq4, iq0, iq1, iq2, iq3, iq4, iq5, iq6, iq7, iq8, c5, g1, g2, g3, g4, g6]); (try (simp (disch := omega) only [W2, Int.cast_ofNat_Int]; (try simp only [S, TY, reduceCtorEq, nq0, nq1, nq2, nq3, nq4, iq0, iq1, iq2, iq3, iq4, iq5, iq6, iq7, iq8, c5, g1, g2, g3, g4, g6]))))
      exact fin_take (B := []) h5 ⟨by simp [g6'], rfl⟩
  · have g7 : 0 < s := by omega
    ((try simp only [S, TY, reduceCtorEq, nq0, nq1, nq2, nq3, nq4, iq0, iq1, iq2, iq3, iq4, iq5, iq6, iq7, iq8, c5, g1, g2, g3, g4, g5, g7]); (try (simp (disch := omega) only [W2, Int.cast_ofNat_Int]; (try simp only [S, TY, reduceCtorEq, nq0, nq1, nq2, nq3, nq4, iq0, iq1, iq2, iq3, iq4, iq5, iq6, iq7, iq8, c5, g1, g2, g3, g4, g5, g7]))))
    refine (body_ok hv0).at_ h5 [] _ rfl fun r B H6 hr h6 => ?_
    obtain ⟨rfl, rfl⟩ := hr
    ((try simp only [S, TY, reduceCtorEq, nq0, nq1, nq2, nq3, nq4, iq0, iq1, iq2, iq3, iq4, iq5, iq6, iq7, iq8]); (try (simp (disch := omega) only [W2, Int.cast_ofNat_Int]; (try simp only [S, TY, reduceCtorEq, nq0, nq1, nq2, nq3, nq4, iq0, iq1, iq2, iq3, iq4, iq5, iq6, iq7, iq8]))))
    exact fin_take (B := []) h6 ⟨by (refine bb ?_; (try simp only [BB]) <;> (first | omega | grind)), rfl⟩
end Go.Proofs.Ytanhmbdcdbcfmaa.Se
