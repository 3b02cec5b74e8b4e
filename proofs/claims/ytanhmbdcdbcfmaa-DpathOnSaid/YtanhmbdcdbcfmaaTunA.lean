/- Packets forwarded, over the machine; the document's Right and Again. -/
import Derived.Test.YtanhmbdcdbcfmaaTunD
set_option linter.unusedVariables false
set_option linter.unusedSimpArgs false
set_option maxRecDepth 10000
namespace Go.Proofs.Ytanhmbdcdbcfmaa.TunA
open Nat renaming reduceEqDiff → nq0, reduceAdd → nq1, reduceLeDiff → nq2, reduceBEq → nq3, reduceMul → nq4
open Int renaming reduceBEq → iq0, reduceEq → iq1, reduceLT → iq2, reduceLE → iq3, reduceAdd → iq4, reduceSub → iq5, reduceMul → iq6, reduceToNat → iq7, cast_ofNat_Int → iq8
open Go Go.Sl Go.Proofs Go.Proofs.Ytanhmbdcdbcfmaa.Buf Go.Proofs.Ytanhmbdcdbcfmaa.BufRd Go.Proofs.Ytanhmbdcdbcfmaa.BufRe Go.Proofs.Ytanhmbdcdbcfmaa.BufP Go.Proofs.Ytanhmbdcdbcfmaa.TunP Go.Proofs.Ytanhmbdcdbcfmaa.Tun Go.Proofs.Ytanhmbdcdbcfmaa.TunD
theorem TY : aggN Try.prog 3 = some none ∧
  aggN Try.prog 5 = some none ∧
  aggN Try.prog 9 = some none ∧
  aggN Try.prog 23 = some none ∧
  aggN Try.prog 24 = some none ∧
  aggN Try.prog 26 = some (some 8) ∧
  apI Try.prog 24 = some (5, 1, 1) ∧
  bIs Try.prog 26 = true ∧
  bySl Try.prog 24 = true ∧
  csz Try.prog 3 = some 1 ∧
  csz Try.prog 5 = some 1 ∧
  csz Try.prog 9 = some 1 ∧
  csz Try.prog 23 = some 1 ∧
  csz Try.prog 24 = some 1 ∧
  csz Try.prog 26 = some 8 ∧
  fIs Try.prog 26 0 = true ∧
  fIs Try.prog 26 1 = true ∧
  fIs Try.prog 26 2 = true ∧
  fIs Try.prog 26 3 = true ∧
  fIs Try.prog 26 4 = true ∧
  fIs Try.prog 26 5 = true ∧
  fIs Try.prog 26 6 = true ∧
  fIs Try.prog 26 7 = true ∧
  fOff Try.prog 26 0 = 0 ∧
  fOff Try.prog 26 1 = 1 ∧
  fOff Try.prog 26 2 = 2 ∧
  fOff Try.prog 26 3 = 3 ∧
  fOff Try.prog 26 4 = 4 ∧
  fOff Try.prog 26 5 = 5 ∧
  fOff Try.prog 26 6 = 6 ∧
  fOff Try.prog 26 7 = 7 ∧
  fTy Try.prog 26 0 = 23 ∧
  fTy Try.prog 26 1 = 3 ∧
  fTy Try.prog 26 2 = 3 ∧
  fTy Try.prog 26 3 = 3 ∧
  fTy Try.prog 26 4 = 3 ∧
  fTy Try.prog 26 5 = 3 ∧
  fTy Try.prog 26 6 = 3 ∧
  fTy Try.prog 26 7 = 24 ∧
  goes Try.prog 100 = true ∧
  goes Try.prog 102 = true ∧
  goes Try.prog 107 = true ∧
  goes Try.prog 119 = true ∧
  inIs Try.prog 3 = some .i64 ∧
  inIs Try.prog 5 = some .u8 ∧
  inIs Try.prog 23 = some .i64 ∧
  plcs Try.prog 26 = [(0, 1), (1, 1), (2, 1), (3, 1), (4, 1), (5, 1), (6, 1), (7, 1)] ∧
  slEl Try.prog 24 = 5 ∧
  slIs Try.prog 24 = true ∧
  slSz Try.prog 24 = 1 ∧
  stIs Try.prog 9 = true ∧
  zcs Try.prog 26 = [.int .i64 0, .int .i64 0, .int .i64 0, .int .i64 0, .int .i64 0, .int .i64 0, .int .i64 0, .slice none 0 0] ∧
  zro Try.prog 3 = some (.int .i64 0) ∧
  zro Try.prog 5 = some (.int .u8 0) ∧
  zro Try.prog 9 = some (.string ByteArray.empty) ∧
  zro Try.prog 23 = some (.int .i64 0) ∧
  zro Try.prog 24 = some (.slice none 0 0) ∧
  zro Try.prog 26 = some (.agg #[.int .i64 0, .int .i64 0, .int .i64 0, .int .i64 0, .int .i64 0, .int .i64 0, .int .i64 0, .slice none 0 0]) :=
  ⟨by kernel_rfl, by kernel_rfl, by kernel_rfl, by kernel_rfl, by kernel_rfl, by kernel_rfl, by kernel_rfl, by kernel_rfl, by kernel_rfl, by kernel_rfl, by kernel_rfl, by kernel_rfl, by kernel_rfl, by kernel_rfl, by kernel_rfl, by kernel_rfl, by kernel_rfl, by kernel_rfl, by kernel_rfl, by kernel_rfl, by kernel_rfl, by kernel_rfl, by kernel_rfl, by kernel_rfl, by kernel_rfl, by kernel_rfl, by kernel_rfl, by kernel_rfl, by kernel_rfl, by kernel_rfl, by kernel_rfl, by kernel_rfl, by kernel_rfl, by kernel_rfl, by kernel_rfl, by kernel_rfl, by kernel_rfl, by kernel_rfl, by kernel_rfl, by kernel_rfl, by kernel_rfl, by kernel_rfl, by kernel_rfl, by kernel_rfl, by kernel_rfl, by kernel_rfl, by kernel_rfl, by kernel_rfl, by kernel_rfl, by kernel_rfl, by kernel_rfl, by kernel_rfl, by kernel_rfl, by kernel_rfl, by kernel_rfl, by kernel_rfl, by kernel_rfl, by kernel_rfl⟩
theorem Clone_ok {G : Hp} {v : Value} {l : List UInt8} (hv : rds G 1 v (bv l)) (hl : l.length ≤ 70368744177664) : Con Try.prog G 102 [v] [] (fun r B => B = [own 5 1 r (bv l)]) := by
  refine Con.intro Try.func102 rfl (Nat.le_of_ble_eq_true (by kernel_rfl)) (by kernel_rfl) Try.results102 ?_
  intro H hH
  obtain ⟨a, n, c, rfl, e1, e2⟩ := hv.slice
  rw [bv_length] at e1
  cases a with
  | none =>
    have hn : l = [] := by
      obtain ⟨_, _, _, h, h1, _, h2⟩ := hv
      cases h
      rcases h2 with h2 | ⟨_, _, h2, _⟩
      · unfold bv at h2; simpa using h2
      · cases h2
    subst hn
    ((try simp only [S, TY, reduceCtorEq, nq0, nq1, nq2, nq3, nq4, iq0, iq1, iq2, iq3, iq4, iq5, iq6, iq7, iq8]); (try (simp (disch := omega) only [W2, Int.cast_ofNat_Int]; (try simp only [S, TY, reduceCtorEq, nq0, nq1, nq2, nq3, nq4, iq0, iq1, iq2, iq3, iq4, iq5, iq6, iq7, iq8]))))
    exact fin_take (B := [_]) (hH.nil_ 5 1) rfl
  | some a =>
    ((try simp only [S, TY, reduceCtorEq, nq0, nq1, nq2, nq3, nq4, iq0, iq1, iq2, iq3, iq4, iq5, iq6, iq7, iq8]); (try (simp (disch := omega) only [W2, Int.cast_ofNat_Int]; (try simp only [S, TY, reduceCtorEq, nq0, nq1, nq2, nq3, nq4, iq0, iq1, iq2, iq3, iq4, iq5, iq6, iq7, iq8]))))
    intro b hb hg
    have h1 := hH.newsl (e := 5) (sz := 1) (n := 0) (xs := bv []) hb hg rfl
    ((try simp only [S, TY, reduceCtorEq, nq0, nq1, nq2, nq3, nq4, iq0, iq1, iq2, iq3, iq4, iq5, iq6, iq7, iq8]); (try (simp (disch := omega) only [W2, Int.cast_ofNat_Int]; (try simp only [S, TY, reduceCtorEq, nq0, nq1, nq2, nq3, nq4, iq0, iq1, iq2, iq3, iq4, iq5, iq6, iq7, iq8]))))
    refine append_sl (show apI Try.prog 24 = some (5, 1, 1) from by kernel_rfl) (show slIs Try.prog 24 = true from by kernel_rfl) h1 (h1.ro hv) (bv_one _) (by simp [bv_length]; omega) fun u H2 h2 => ?_
    ((try simp only [S, TY, reduceCtorEq, nq0, nq1, nq2, nq3, nq4, iq0, iq1, iq2, iq3, iq4, iq5, iq6, iq7, iq8]); (try (simp (disch := omega) only [W2, Int.cast_ofNat_Int]; (try simp only [S, TY, reduceCtorEq, nq0, nq1, nq2, nq3, nq4, iq0, iq1, iq2, iq3, iq4, iq5, iq6, iq7, iq8]))))
    rw [← bv_append, List.nil_append] at h2
    exact fin_take (B := [_]) h2 rfl
theorem In_ok {G : Hp} (x lo hi : Int) : Con Try.prog G 119 [.int .i64 x, .int .i64 lo, .int .i64 hi] [] (fun r B => r = .bool (decide (lo ≤ x ∧ x ≤ hi)) ∧ B = []) := by
  refine Con.intro Try.func119 rfl (Nat.le_of_ble_eq_true (by kernel_rfl)) (by kernel_rfl) Try.results119 ?_
  intro H hH
  ((try simp only [S, TY, reduceCtorEq, nq0, nq1, nq2, nq3, nq4, iq0, iq1, iq2, iq3, iq4, iq5, iq6, iq7, iq8]); (try (simp (disch := omega) only [W2, Int.cast_ofNat_Int]; (try simp only [S, TY, reduceCtorEq, nq0, nq1, nq2, nq3, nq4, iq0, iq1, iq2, iq3, iq4, iq5, iq6, iq7, iq8]))))
  repeat' (refine Gate.intro (fun g => ?_) (fun g => ?_) <;> ((try simp only [S, TY, reduceCtorEq, nq0, nq1, nq2, nq3, nq4, iq0, iq1, iq2, iq3, iq4, iq5, iq6, iq7, iq8, g]); (try (simp (disch := omega) only [W2, Int.cast_ofNat_Int]; (try simp only [S, TY, reduceCtorEq, nq0, nq1, nq2, nq3, nq4, iq0, iq1, iq2, iq3, iq4, iq5, iq6, iq7, iq8, g])))))
  all_goals exact fin_take (B := []) hH ⟨by (refine bb ?_; (try simp only [BB]) <;> (first | omega | grind)), rfl⟩
theorem dRight {G : Hp} {v : Value} {l : List UInt8} (k o f t p g i : Int) (hv : rds G 1 v (bv l)) :
    Con Try.prog G 107 [pkv k o f t p g i v] [] (fun r B => r = .bool (right k o f t p g i l.length) ∧ B = []) := by
  refine Con.intro Try.func107 rfl (Nat.le_of_ble_eq_true (by kernel_rfl)) (by kernel_rfl) Try.results107 ?_
  intro H hH
  obtain ⟨a, n, c, rfl, e1, e2⟩ := hv.slice
  rw [bv_length, Nat.mul_one] at e1
  refine cl_cut (fun e H => ∃ b, e 1 = .pointer (some ⟨b, 0, none⟩) ∧ sg G [ob b (.cells (pkl k o f t p g i (.slice a n c)).toArray 26 (0, 0))] H) ?_ ?_
  · intro J hJ
    ((try simp only [S, TY, reduceCtorEq, nq0, nq1, nq2, nq3, nq4, iq0, iq1, iq2, iq3, iq4, iq5, iq6, iq7, iq8]); (try (simp (disch := omega) only [W2, Int.cast_ofNat_Int]; (try simp only [S, TY, reduceCtorEq, nq0, nq1, nq2, nq3, nq4, iq0, iq1, iq2, iq3, iq4, iq5, iq6, iq7, iq8]))))
    intro b hb hg
    ((try simp only [S, TY, reduceCtorEq, nq0, nq1, nq2, nq3, nq4, iq0, iq1, iq2, iq3, iq4, iq5, iq6, iq7, iq8]); (try (simp (disch := omega) only [W2, Int.cast_ofNat_Int]; (try simp only [S, TY, reduceCtorEq, nq0, nq1, nq2, nq3, nq4, iq0, iq1, iq2, iq3, iq4, iq5, iq6, iq7, iq8]))))
    exact hJ _ _ ⟨b, rfl, hH.new hb hg _⟩
  rintro e H1 ⟨b, s1, h1⟩
  have c1 := h1.c0
  refine cl_cut (fun e H => e 1 = .pointer (some ⟨b, 0, none⟩) ∧ e 3 = .bool (decide ((0 ≤ o ∧ o ≤ 15) ∧ (0 ≤ f ∧ f ≤ 15) ∧ (0 ≤ t ∧ t ≤ 15) ∧ f ≠ t)) ∧ sg G [ob b (.cells (pkl k o f t p g i (.slice a n c)).toArray 26 (0, 0))] H) ?_ ?_
  · intro J hJ
    ((try simp only [S, TY, reduceCtorEq, nq0, nq1, nq2, nq3, nq4, iq0, iq1, iq2, iq3, iq4, iq5, iq6, iq7, iq8, s1, c1]); (try (simp (disch := omega) only [W2, Int.cast_ofNat_Int]; (try simp only [S, TY, reduceCtorEq, nq0, nq1, nq2, nq3, nq4, iq0, iq1, iq2, iq3, iq4, iq5, iq6, iq7, iq8, s1, c1]))))
    refine (In_ok o 0 15).at_ h1 [] _ rfl fun r B H2 hr h2 => ?_
    obtain ⟨rfl, rfl⟩ := hr
    have c2 := h2.c0
    by_cases g1 : 0 ≤ o ∧ o ≤ 15
    · ((try simp only [S, TY, reduceCtorEq, nq0, nq1, nq2, nq3, nq4, iq0, iq1, iq2, iq3, iq4, iq5, iq6, iq7, iq8, s1, c1, c2, g1]); (try (simp (disch := omega) only [W2, Int.cast_ofNat_Int]; (try simp only [S, TY, reduceCtorEq, nq0, nq1, nq2, nq3, nq4, iq0, iq1, iq2, iq3, iq4, iq5, iq6, iq7, iq8, s1, c1, c2, g1]))))
      refine (In_ok f 0 15).at_ h2 [] _ rfl fun r B H3 hr h3 => ?_
      obtain ⟨rfl, rfl⟩ := hr
      have c3 := h3.c0
      by_cases g2 : 0 ≤ f ∧ f ≤ 15
      · ((try simp only [S, TY, reduceCtorEq, nq0, nq1, nq2, nq3, nq4, iq0, iq1, iq2, iq3, iq4, iq5, iq6, iq7, iq8, s1, c2, c3, g2]); (try (simp (disch := omega) only [W2, Int.cast_ofNat_Int]; (try simp only [S, TY, reduceCtorEq, nq0, nq1, nq2, nq3, nq4, iq0, iq1, iq2, iq3, iq4, iq5, iq6, iq7, iq8, s1, c2, c3, g2]))))
        refine (In_ok t 0 15).at_ h3 [] _ rfl fun r B H4 hr h4 => ?_
        obtain ⟨rfl, rfl⟩ := hr
        have c4 := h4.c0
        by_cases g3 : 0 ≤ t ∧ t ≤ 15
        · ((try simp only [S, TY, reduceCtorEq, nq0, nq1, nq2, nq3, nq4, iq0, iq1, iq2, iq3, iq4, iq5, iq6, iq7, iq8, s1, c3, c4, g3]); (try (simp (disch := omega) only [W2, Int.cast_ofNat_Int]; (try simp only [S, TY, reduceCtorEq, nq0, nq1, nq2, nq3, nq4, iq0, iq1, iq2, iq3, iq4, iq5, iq6, iq7, iq8, s1, c3, c4, g3]))))
          exact hJ _ _ ⟨s1, by (refine bb ?_; (try simp only [BB]) <;> (first | omega | grind)), h4⟩
        · ((try simp only [S, TY, reduceCtorEq, nq0, nq1, nq2, nq3, nq4, iq0, iq1, iq2, iq3, iq4, iq5, iq6, iq7, iq8, s1, c3, c4, g3]); (try (simp (disch := omega) only [W2, Int.cast_ofNat_Int]; (try simp only [S, TY, reduceCtorEq, nq0, nq1, nq2, nq3, nq4, iq0, iq1, iq2, iq3, iq4, iq5, iq6, iq7, iq8, s1, c3, c4, g3]))))
          exact hJ _ _ ⟨s1, by (refine bb ?_; (try simp only [BB]) <;> (first | omega | grind)), h4⟩
      · ((try simp only [S, TY, reduceCtorEq, nq0, nq1, nq2, nq3, nq4, iq0, iq1, iq2, iq3, iq4, iq5, iq6, iq7, iq8, s1, c2, c3, g2]); (try (simp (disch := omega) only [W2, Int.cast_ofNat_Int]; (try simp only [S, TY, reduceCtorEq, nq0, nq1, nq2, nq3, nq4, iq0, iq1, iq2, iq3, iq4, iq5, iq6, iq7, iq8, s1, c2, c3, g2]))))
        exact hJ _ _ ⟨s1, by (refine bb ?_; (try simp only [BB]) <;> (first | omega | grind)), h3⟩
    · ((try simp only [S, TY, reduceCtorEq, nq0, nq1, nq2, nq3, nq4, iq0, iq1, iq2, iq3, iq4, iq5, iq6, iq7, iq8, s1, c1, c2, g1]); (try (simp (disch := omega) only [W2, Int.cast_ofNat_Int]; (try simp only [S, TY, reduceCtorEq, nq0, nq1, nq2, nq3, nq4, iq0, iq1, iq2, iq3, iq4, iq5, iq6, iq7, iq8, s1, c1, c2, g1]))))
      exact hJ _ _ ⟨s1, by (refine bb ?_; (try simp only [BB]) <;> (first | omega | grind)), h2⟩
  rintro e H2 ⟨s1, s3, h1⟩
  generalize hw : decide ((0 ≤ o ∧ o ≤ 15) ∧ (0 ≤ f ∧ f ≤ 15) ∧ (0 ≤ t ∧ t ≤ 15) ∧ f ≠ t) = who at s3
  have c1 := h1.c0
  refine cl_cut (fun e H => e 1 = .pointer (some ⟨b, 0, none⟩) ∧ e 3 = .bool who ∧ e 4 = .bool (decide ((0 ≤ p ∧ p ≤ 31) ∧ (1 ≤ g ∧ g ≤ 4294967296) ∧ (0 ≤ i ∧ i ≤ 1099511627776) ∧ (14 ≤ n ∧ n ≤ 1514))) ∧ sg G [ob b (.cells (pkl k o f t p g i (.slice a n c)).toArray 26 (0, 0))] H) ?_ ?_
  · intro J hJ
    ((try simp only [S, TY, reduceCtorEq, nq0, nq1, nq2, nq3, nq4, iq0, iq1, iq2, iq3, iq4, iq5, iq6, iq7, iq8, s1, c1]); (try (simp (disch := omega) only [W2, Int.cast_ofNat_Int]; (try simp only [S, TY, reduceCtorEq, nq0, nq1, nq2, nq3, nq4, iq0, iq1, iq2, iq3, iq4, iq5, iq6, iq7, iq8, s1, c1]))))
    refine (In_ok p 0 31).at_ h1 [] _ rfl fun r B H2 hr h2 => ?_
    obtain ⟨rfl, rfl⟩ := hr
    have c2 := h2.c0
    by_cases g1 : 0 ≤ p ∧ p ≤ 31
    · ((try simp only [S, TY, reduceCtorEq, nq0, nq1, nq2, nq3, nq4, iq0, iq1, iq2, iq3, iq4, iq5, iq6, iq7, iq8, s1, c1, c2, g1]); (try (simp (disch := omega) only [W2, Int.cast_ofNat_Int]; (try simp only [S, TY, reduceCtorEq, nq0, nq1, nq2, nq3, nq4, iq0, iq1, iq2, iq3, iq4, iq5, iq6, iq7, iq8, s1, c1, c2, g1]))))
      refine (In_ok g 1 4294967296).at_ h2 [] _ rfl fun r B H3 hr h3 => ?_
      obtain ⟨rfl, rfl⟩ := hr
      have c3 := h3.c0
      by_cases g2 : 1 ≤ g ∧ g ≤ 4294967296
      · ((try simp only [S, TY, reduceCtorEq, nq0, nq1, nq2, nq3, nq4, iq0, iq1, iq2, iq3, iq4, iq5, iq6, iq7, iq8, s1, c2, c3, g2]); (try (simp (disch := omega) only [W2, Int.cast_ofNat_Int]; (try simp only [S, TY, reduceCtorEq, nq0, nq1, nq2, nq3, nq4, iq0, iq1, iq2, iq3, iq4, iq5, iq6, iq7, iq8, s1, c2, c3, g2]))))
        refine (In_ok i 0 1099511627776).at_ h3 [] _ rfl fun r B H4 hr h4 => ?_
        obtain ⟨rfl, rfl⟩ := hr
        have c4 := h4.c0
        by_cases g3 : 0 ≤ i ∧ i ≤ 1099511627776
        · ((try simp only [S, TY, reduceCtorEq, nq0, nq1, nq2, nq3, nq4, iq0, iq1, iq2, iq3, iq4, iq5, iq6, iq7, iq8, s1, c3, c4, g3]); (try (simp (disch := omega) only [W2, Int.cast_ofNat_Int]; (try simp only [S, TY, reduceCtorEq, nq0, nq1, nq2, nq3, nq4, iq0, iq1, iq2, iq3, iq4, iq5, iq6, iq7, iq8, s1, c3, c4, g3]))))
          refine (In_ok n 14 1514).at_ h4 [] _ rfl fun r B H5 hr h5 => ?_
          obtain ⟨rfl, rfl⟩ := hr
          have c5 := h5.c0
          ((try simp only [S, TY, reduceCtorEq, nq0, nq1, nq2, nq3, nq4, iq0, iq1, iq2, iq3, iq4, iq5, iq6, iq7, iq8, s1]); (try (simp (disch := omega) only [W2, Int.cast_ofNat_Int]; (try simp only [S, TY, reduceCtorEq, nq0, nq1, nq2, nq3, nq4, iq0, iq1, iq2, iq3, iq4, iq5, iq6, iq7, iq8, s1]))))
          exact hJ _ _ ⟨s1, s3, by (refine bb ?_; (try simp only [BB]) <;> (first | omega | grind)), h5⟩
        · ((try simp only [S, TY, reduceCtorEq, nq0, nq1, nq2, nq3, nq4, iq0, iq1, iq2, iq3, iq4, iq5, iq6, iq7, iq8, s1, c3, c4, g3]); (try (simp (disch := omega) only [W2, Int.cast_ofNat_Int]; (try simp only [S, TY, reduceCtorEq, nq0, nq1, nq2, nq3, nq4, iq0, iq1, iq2, iq3, iq4, iq5, iq6, iq7, iq8, s1, c3, c4, g3]))))
          exact hJ _ _ ⟨s1, s3, by (refine bb ?_; (try simp only [BB]) <;> (first | omega | grind)), h4⟩
      · ((try simp only [S, TY, reduceCtorEq, nq0, nq1, nq2, nq3, nq4, iq0, iq1, iq2, iq3, iq4, iq5, iq6, iq7, iq8, s1, c2, c3, g2]); (try (simp (disch := omega) only [W2, Int.cast_ofNat_Int]; (try simp only [S, TY, reduceCtorEq, nq0, nq1, nq2, nq3, nq4, iq0, iq1, iq2, iq3, iq4, iq5, iq6, iq7, iq8, s1, c2, c3, g2]))))
        exact hJ _ _ ⟨s1, s3, by (refine bb ?_; (try simp only [BB]) <;> (first | omega | grind)), h3⟩
    · ((try simp only [S, TY, reduceCtorEq, nq0, nq1, nq2, nq3, nq4, iq0, iq1, iq2, iq3, iq4, iq5, iq6, iq7, iq8, s1, c1, c2, g1]); (try (simp (disch := omega) only [W2, Int.cast_ofNat_Int]; (try simp only [S, TY, reduceCtorEq, nq0, nq1, nq2, nq3, nq4, iq0, iq1, iq2, iq3, iq4, iq5, iq6, iq7, iq8, s1, c1, c2, g1]))))
      exact hJ _ _ ⟨s1, s3, by (refine bb ?_; (try simp only [BB]) <;> (first | omega | grind)), h2⟩
  rintro e H3 ⟨s1, s3, s4, h1⟩
  generalize hr : decide ((0 ≤ p ∧ p ≤ 31) ∧ (1 ≤ g ∧ g ≤ 4294967296) ∧ (0 ≤ i ∧ i ≤ 1099511627776) ∧ (14 ≤ n ∧ n ≤ 1514)) = rest at s4
  have c1 := h1.c0
  refine cl_cut (fun e H => e 3 = .bool who ∧ e 4 = .bool rest ∧ e 5 = .bool (decide (k = 1 ∧ f = o ∨ k = 2 ∧ f ≠ o ∧ t ≠ o)) ∧ sg G [ob b (.cells (pkl k o f t p g i (.slice a n c)).toArray 26 (0, 0))] H) ?_ ?_
  · intro J hJ
    ((try simp only [S, TY, reduceCtorEq, nq0, nq1, nq2, nq3, nq4, iq0, iq1, iq2, iq3, iq4, iq5, iq6, iq7, iq8, s1, c1]); (try (simp (disch := omega) only [W2, Int.cast_ofNat_Int]; (try simp only [S, TY, reduceCtorEq, nq0, nq1, nq2, nq3, nq4, iq0, iq1, iq2, iq3, iq4, iq5, iq6, iq7, iq8, s1, c1]))))
    repeat' (refine Gate.intro (fun g => ?_) (fun g => ?_) <;> ((try simp only [S, TY, reduceCtorEq, nq0, nq1, nq2, nq3, nq4, iq0, iq1, iq2, iq3, iq4, iq5, iq6, iq7, iq8, s1, c1, g]); (try (simp (disch := omega) only [W2, Int.cast_ofNat_Int]; (try simp only [S, TY, reduceCtorEq, nq0, nq1, nq2, nq3, nq4, iq0, iq1, iq2, iq3, iq4, iq5, iq6, iq7, iq8, s1, c1, g])))))
    all_goals first | (exfalso; omega) | exact hJ _ _ ⟨s3, s4, by (refine bb ?_; (try simp only [BB]) <;> (first | omega | grind)), h1⟩
  rintro e H4 ⟨s3, s4, s5, h1⟩
  generalize hk : decide (k = 1 ∧ f = o ∨ k = 2 ∧ f ≠ o ∧ t ≠ o) = kind at s5
  have fin : right k o f t p g i l.length = (who && rest && kind) := by
    rw [← hw, ← hr, ← hk, Bool.eq_iff_iff]
    unfold right way
    simp only [Bool.and_eq_true, decide_eq_true_eq]
    omega
  rw [fin]
  cases who <;> cases rest <;> cases kind <;> ((try simp only [S, TY, reduceCtorEq, nq0, nq1, nq2, nq3, nq4, iq0, iq1, iq2, iq3, iq4, iq5, iq6, iq7, iq8, s3, s4, s5]); (try (simp (disch := omega) only [W2, Int.cast_ofNat_Int]; (try simp only [S, TY, reduceCtorEq, nq0, nq1, nq2, nq3, nq4, iq0, iq1, iq2, iq3, iq4, iq5, iq6, iq7, iq8, s3, s4, s5])))) <;> exact fin_take (B := []) h1 ⟨rfl, rfl⟩
def nxt (x : Pk) (t g : Int) : Pk := ⟨2, x.o, x.t, t, x.p, g, x.i, x.fr⟩
def agE (x : Pk) (t g : Int) : Int := if x.ok = false then 1 else if x.k ≠ 1 then 8 else if (nxt x t g).ok = false then 1 else 0
def AgR (x : Pk) (t g : Int) (r : Value) (B : List Asn) : Prop := if agE x t g = 0 then ∃ u, r = .tuple #[Pk.v (nxt x t g) u, .int .i64 0] ∧ B = [own 5 1 u (bv x.fr)] else r = .tuple #[pkv 0 0 0 0 0 0 0 (.slice none 0 0), .int .i64 (agE x t g)] ∧ B = []
def dAgR (x : Pk) (v : Value) (t g : Int) (r : Value) (B : List Asn) : Prop := B = [] ∧ if agE x t g = 0 then r = .tuple #[Pk.v (nxt x t g) v, .int .i64 0] else r = .tuple #[pkv 0 0 0 0 0 0 0 (.slice none 0 0), .int .i64 (agE x t g)]
abbrev z0 : List Value := pkl 0 0 0 0 0 0 0 (.slice none 0 0)
theorem Again_ok {G : Hp} {v : Value} (x : Pk) (to gn : Int) (hv : rds G 1 v (bv x.fr)) (hl : x.fr.length ≤ 100000) : Con Try.prog G 105 [Pk.v x v, .int .i64 to, .int .i64 gn] [] (AgR x to gn) := by
  have no : ∀ (e : Int) (H : Hp), e ≠ 0 → agE x to gn = e → sg G [] H → fin (AgR x to gn) (.returned (.tuple #[pkv 0 0 0 0 0 0 0 (.slice none 0 0), .int .i64 e])) H := by
    intro e H h0 he h
    exact fin_take (B := []) h (by unfold AgR; rw [he, if_neg h0]; exact ⟨rfl, rfl⟩)
  have yes : ∀ (u : Value) (H : Hp), agE x to gn = 0 → sg G [own 5 1 u (bv x.fr)] H → fin (AgR x to gn) (.returned (.tuple #[Pk.v (nxt x to gn) u, .int .i64 0])) H := by
    intro u H he h
    exact fin_take (B := [_]) h (by unfold AgR; rw [he, if_pos rfl]; exact ⟨u, rfl, rfl⟩)
  have hE : agE x to gn = if x.ok = false then 1 else if x.k ≠ 1 then 8 else if (nxt x to gn).ok = false then 1 else 0 := rfl
  have ho : x.ok = right x.k x.o x.f x.t x.p x.g x.i x.fr.length := rfl
  have hn : (nxt x to gn).ok = right 2 x.o x.t to x.p gn x.i x.fr.length := rfl
  obtain ⟨a, n, c, rfl, e1, e2⟩ := hv.slice
  rw [bv_length] at e1
  generalize agE x to gn = E at *
  generalize AgR x to gn = RR at *
  rw [ho, hn] at hE
  simp only [nxt] at yes
  clear ho hn
  obtain ⟨k, o, f, t, p, g, i, fr⟩ := x
  simp only [Pk.v] at *
  refine Con.intro Try.func105 rfl (Nat.le_of_ble_eq_true (by kernel_rfl)) (by kernel_rfl) Try.results105 ?_
  intro H hH
  ((try simp only [S, TY, reduceCtorEq, nq0, nq1, nq2, nq3, nq4, iq0, iq1, iq2, iq3, iq4, iq5, iq6, iq7, iq8]); (try (simp (disch := omega) only [W2, Int.cast_ofNat_Int]; (try simp only [S, TY, reduceCtorEq, nq0, nq1, nq2, nq3, nq4, iq0, iq1, iq2, iq3, iq4, iq5, iq6, iq7, iq8]))))
  intro b hb hg
  ((try simp only [S, TY, reduceCtorEq, nq0, nq1, nq2, nq3, nq4, iq0, iq1, iq2, iq3, iq4, iq5, iq6, iq7, iq8]); (try (simp (disch := omega) only [W2, Int.cast_ofNat_Int]; (try simp only [S, TY, reduceCtorEq, nq0, nq1, nq2, nq3, nq4, iq0, iq1, iq2, iq3, iq4, iq5, iq6, iq7, iq8]))))
  intro b2 hb2 hg2
  ((try simp only [S, TY, reduceCtorEq, nq0, nq1, nq2, nq3, nq4, iq0, iq1, iq2, iq3, iq4, iq5, iq6, iq7, iq8]); (try (simp (disch := omega) only [W2, Int.cast_ofNat_Int]; (try simp only [S, TY, reduceCtorEq, nq0, nq1, nq2, nq3, nq4, iq0, iq1, iq2, iq3, iq4, iq5, iq6, iq7, iq8]))))
  generalize hq : Hp.set (Hp.set H b _) b2 _ = H2
  have h2 : sg G [ob b2 (.cells z0.toArray 26 (0, 0)), ob b (.cells (pkl k o f t p g i (.slice a n c)).toArray 26 (0, 0))] H2 := hq ▸ (hH.new hb hg _).new hb2 hg2 _
  have w2 := (h2.front 1).ld
  simp only [List.length_cons, List.length_nil, Nat.reduceAdd] at w2
  ((try simp only [S, TY, reduceCtorEq, nq0, nq1, nq2, nq3, nq4, iq0, iq1, iq2, iq3, iq4, iq5, iq6, iq7, iq8, w2]); (try (simp (disch := omega) only [W2, Int.cast_ofNat_Int]; (try simp only [S, TY, reduceCtorEq, nq0, nq1, nq2, nq3, nq4, iq0, iq1, iq2, iq3, iq4, iq5, iq6, iq7, iq8, w2]))))
  refine (Right_ok k o f t p g i hv).at_ h2 [] _ rfl fun r B H3 hr h3 => ?_
  obtain ⟨rfl, rfl⟩ := hr
  cases rr : right k o f t p g i fr.length with
  | false =>
    rw [rr, if_pos rfl] at hE
    ((try simp only [S, TY, reduceCtorEq, nq0, nq1, nq2, nq3, nq4, iq0, iq1, iq2, iq3, iq4, iq5, iq6, iq7, iq8]); (try (simp (disch := omega) only [W2, Int.cast_ofNat_Int]; (try simp only [S, TY, reduceCtorEq, nq0, nq1, nq2, nq3, nq4, iq0, iq1, iq2, iq3, iq4, iq5, iq6, iq7, iq8]))))
    refine sg.stAll (vs := z0) (h3.front 0) rfl rfl fun H9 h9 => ?_
    have w9 := h9.ld
    simp only [List.length_cons, List.length_nil, Nat.reduceAdd] at w9
    ((try simp only [S, TY, reduceCtorEq, nq0, nq1, nq2, nq3, nq4, iq0, iq1, iq2, iq3, iq4, iq5, iq6, iq7, iq8, w9]); (try (simp (disch := omega) only [W2, Int.cast_ofNat_Int]; (try simp only [S, TY, reduceCtorEq, nq0, nq1, nq2, nq3, nq4, iq0, iq1, iq2, iq3, iq4, iq5, iq6, iq7, iq8, w9]))))
    exact no 1 _ (by decide) hE ⟨h9.1, seps_take (B := []) h9.2⟩
  | true =>
    rw [rr, if_neg (by simp)] at hE
    have c3 := (h3.front 1).c0
    by_cases k1 : k = 1
    · rw [if_neg (fun q => q k1)] at hE
      ((try simp only [S, TY, reduceCtorEq, nq0, nq1, nq2, nq3, nq4, iq0, iq1, iq2, iq3, iq4, iq5, iq6, iq7, iq8, c3, k1]); (try (simp (disch := omega) only [W2, Int.cast_ofNat_Int]; (try simp only [S, TY, reduceCtorEq, nq0, nq1, nq2, nq3, nq4, iq0, iq1, iq2, iq3, iq4, iq5, iq6, iq7, iq8, c3, k1]))))
      refine sg.st (h3.front 1) rfl rfl fun H4 h4 => ?_
      simp only [front_eq, fronts_nil, fronts_cons, List.getElem?_cons_zero, List.getElem?_cons_succ, List.eraseIdx_cons_zero, List.eraseIdx_cons_succ, List.cons_append, List.nil_append, putL_cons, putL_nil, List.set_cons_zero, List.set_cons_succ, Nat.reduceAdd] at h4
      ((try simp only [S, TY, reduceCtorEq, nq0, nq1, nq2, nq3, nq4, iq0, iq1, iq2, iq3, iq4, iq5, iq6, iq7, iq8]); (try (simp (disch := omega) only [W2, Int.cast_ofNat_Int]; (try simp only [S, TY, reduceCtorEq, nq0, nq1, nq2, nq3, nq4, iq0, iq1, iq2, iq3, iq4, iq5, iq6, iq7, iq8]))))
      refine sg.st h4 rfl rfl fun H5 h5 => ?_
      simp only [front_eq, fronts_nil, fronts_cons, List.getElem?_cons_zero, List.getElem?_cons_succ, List.eraseIdx_cons_zero, List.eraseIdx_cons_succ, List.cons_append, List.nil_append, putL_cons, putL_nil, List.set_cons_zero, List.set_cons_succ, Nat.reduceAdd] at h5
      ((try simp only [S, TY, reduceCtorEq, nq0, nq1, nq2, nq3, nq4, iq0, iq1, iq2, iq3, iq4, iq5, iq6, iq7, iq8]); (try (simp (disch := omega) only [W2, Int.cast_ofNat_Int]; (try simp only [S, TY, reduceCtorEq, nq0, nq1, nq2, nq3, nq4, iq0, iq1, iq2, iq3, iq4, iq5, iq6, iq7, iq8]))))
      refine sg.st h5 rfl rfl fun H6 h6 => ?_
      simp only [front_eq, fronts_nil, fronts_cons, List.getElem?_cons_zero, List.getElem?_cons_succ, List.eraseIdx_cons_zero, List.eraseIdx_cons_succ, List.cons_append, List.nil_append, putL_cons, putL_nil, List.set_cons_zero, List.set_cons_succ, Nat.reduceAdd] at h6
      ((try simp only [S, TY, reduceCtorEq, nq0, nq1, nq2, nq3, nq4, iq0, iq1, iq2, iq3, iq4, iq5, iq6, iq7, iq8]); (try (simp (disch := omega) only [W2, Int.cast_ofNat_Int]; (try simp only [S, TY, reduceCtorEq, nq0, nq1, nq2, nq3, nq4, iq0, iq1, iq2, iq3, iq4, iq5, iq6, iq7, iq8]))))
      refine sg.st h6 rfl rfl fun H7 h7 => ?_
      simp only [front_eq, fronts_nil, fronts_cons, List.getElem?_cons_zero, List.getElem?_cons_succ, List.eraseIdx_cons_zero, List.eraseIdx_cons_succ, List.cons_append, List.nil_append, putL_cons, putL_nil, List.set_cons_zero, List.set_cons_succ, Nat.reduceAdd] at h7
      have w7 : ldl (H7.un G) ⟨b, 0, none⟩ 0 8 = some (pkl 2 o t to p gn i (.slice a n c)) := sg.ld (l := pkl 2 o t to p gn i (.slice a n c)) h7
      ((try simp only [S, TY, reduceCtorEq, nq0, nq1, nq2, nq3, nq4, iq0, iq1, iq2, iq3, iq4, iq5, iq6, iq7, iq8, w7]); (try (simp (disch := omega) only [W2, Int.cast_ofNat_Int]; (try simp only [S, TY, reduceCtorEq, nq0, nq1, nq2, nq3, nq4, iq0, iq1, iq2, iq3, iq4, iq5, iq6, iq7, iq8, w7]))))
      refine (Right_ok 2 o t to p gn i hv).at_ h7 [] _ rfl fun r B H8 hr h8 => ?_
      obtain ⟨rfl, rfl⟩ := hr
      cases r2 : right 2 o t to p gn i fr.length with
      | false =>
        rw [r2, if_pos rfl] at hE
        ((try simp only [S, TY, reduceCtorEq, nq0, nq1, nq2, nq3, nq4, iq0, iq1, iq2, iq3, iq4, iq5, iq6, iq7, iq8]); (try (simp (disch := omega) only [W2, Int.cast_ofNat_Int]; (try simp only [S, TY, reduceCtorEq, nq0, nq1, nq2, nq3, nq4, iq0, iq1, iq2, iq3, iq4, iq5, iq6, iq7, iq8]))))
        refine sg.stAll (vs := z0) (h8.front 1) rfl rfl fun H9 h9 => ?_
        have w9 := h9.ld
        simp only [List.length_cons, List.length_nil, Nat.reduceAdd] at w9
        ((try simp only [S, TY, reduceCtorEq, nq0, nq1, nq2, nq3, nq4, iq0, iq1, iq2, iq3, iq4, iq5, iq6, iq7, iq8, w9]); (try (simp (disch := omega) only [W2, Int.cast_ofNat_Int]; (try simp only [S, TY, reduceCtorEq, nq0, nq1, nq2, nq3, nq4, iq0, iq1, iq2, iq3, iq4, iq5, iq6, iq7, iq8, w9]))))
        exact no 1 _ (by decide) hE ⟨h9.1, seps_take (B := []) h9.2⟩
      | true =>
        rw [r2, if_neg (by simp)] at hE
        have c8 := h8.c0
        ((try simp only [S, TY, reduceCtorEq, nq0, nq1, nq2, nq3, nq4, iq0, iq1, iq2, iq3, iq4, iq5, iq6, iq7, iq8, c8]); (try (simp (disch := omega) only [W2, Int.cast_ofNat_Int]; (try simp only [S, TY, reduceCtorEq, nq0, nq1, nq2, nq3, nq4, iq0, iq1, iq2, iq3, iq4, iq5, iq6, iq7, iq8, c8]))))
        refine (Clone_ok hv (by omega)).at_ h8 [] _ rfl fun u B H9 hr h9 => ?_
        subst hr
        obtain ⟨ua, un, uc, rfl, _, _⟩ := h9.sl 0 rfl Rd_own
        ((try simp only [S, TY, reduceCtorEq, nq0, nq1, nq2, nq3, nq4, iq0, iq1, iq2, iq3, iq4, iq5, iq6, iq7, iq8]); (try (simp (disch := omega) only [W2, Int.cast_ofNat_Int]; (try simp only [S, TY, reduceCtorEq, nq0, nq1, nq2, nq3, nq4, iq0, iq1, iq2, iq3, iq4, iq5, iq6, iq7, iq8]))))
        refine sg.st (h9.front 1) rfl rfl fun H10 h10 => ?_
        simp only [front_eq, fronts_nil, fronts_cons, List.getElem?_cons_zero, List.getElem?_cons_succ, List.eraseIdx_cons_zero, List.eraseIdx_cons_succ, List.cons_append, List.nil_append, putL_cons, putL_nil, List.set_cons_zero, List.set_cons_succ, Nat.reduceAdd] at h10
        have w10 : ldl (H10.un G) ⟨b, 0, none⟩ 0 8 = some (pkl 2 o t to p gn i (.slice ua un uc)) := sg.ld (l := pkl 2 o t to p gn i (.slice ua un uc)) h10
        ((try simp only [S, TY, reduceCtorEq, nq0, nq1, nq2, nq3, nq4, iq0, iq1, iq2, iq3, iq4, iq5, iq6, iq7, iq8, w10]); (try (simp (disch := omega) only [W2, Int.cast_ofNat_Int]; (try simp only [S, TY, reduceCtorEq, nq0, nq1, nq2, nq3, nq4, iq0, iq1, iq2, iq3, iq4, iq5, iq6, iq7, iq8, w10]))))
        refine sg.stAll (vs := pkl 2 o t to p gn i (.slice ua un uc)) (h10.front 2) rfl rfl fun H11 h11 => ?_
        have w11 := h11.ld
        simp only [List.length_cons, List.length_nil, Nat.reduceAdd] at w11
        ((try simp only [S, TY, reduceCtorEq, nq0, nq1, nq2, nq3, nq4, iq0, iq1, iq2, iq3, iq4, iq5, iq6, iq7, iq8, w11]); (try (simp (disch := omega) only [W2, Int.cast_ofNat_Int]; (try simp only [S, TY, reduceCtorEq, nq0, nq1, nq2, nq3, nq4, iq0, iq1, iq2, iq3, iq4, iq5, iq6, iq7, iq8, w11]))))
        exact yes _ _ hE (h11.front 2).take1
    · rw [if_pos k1] at hE
      ((try simp only [S, TY, reduceCtorEq, nq0, nq1, nq2, nq3, nq4, iq0, iq1, iq2, iq3, iq4, iq5, iq6, iq7, iq8, c3, k1]); (try (simp (disch := omega) only [W2, Int.cast_ofNat_Int]; (try simp only [S, TY, reduceCtorEq, nq0, nq1, nq2, nq3, nq4, iq0, iq1, iq2, iq3, iq4, iq5, iq6, iq7, iq8, c3, k1]))))
      refine sg.stAll (vs := z0) (h3.front 0) rfl rfl fun H9 h9 => ?_
      have w9 := h9.ld
      simp only [List.length_cons, List.length_nil, Nat.reduceAdd] at w9
      ((try simp only [S, TY, reduceCtorEq, nq0, nq1, nq2, nq3, nq4, iq0, iq1, iq2, iq3, iq4, iq5, iq6, iq7, iq8, w9]); (try (simp (disch := omega) only [W2, Int.cast_ofNat_Int]; (try simp only [S, TY, reduceCtorEq, nq0, nq1, nq2, nq3, nq4, iq0, iq1, iq2, iq3, iq4, iq5, iq6, iq7, iq8, w9]))))
      exact no 8 _ (by decide) hE ⟨h9.1, seps_take (B := []) h9.2⟩
theorem dAgain {G : Hp} {v : Value} (x : Pk) (to gn : Int) (hv : rds G 1 v (bv x.fr)) : Con Try.prog G 109 [Pk.v x v, .int .i64 to, .int .i64 gn] [] (dAgR x v to gn) := by
  have no : ∀ (e : Int) (H : Hp), e ≠ 0 → agE x to gn = e → sg G [] H → fin (dAgR x v to gn) (.returned (.tuple #[pkv 0 0 0 0 0 0 0 (.slice none 0 0), .int .i64 e])) H := by
    intro e H h0 he h
    exact fin_take (B := []) h (by unfold dAgR; rw [he, if_neg h0]; exact ⟨rfl, rfl⟩)
  have yes : ∀ (H : Hp), agE x to gn = 0 → sg G [] H → fin (dAgR x v to gn) (.returned (.tuple #[Pk.v (nxt x to gn) v, .int .i64 0])) H := by
    intro H he h
    exact fin_take (B := []) h (by unfold dAgR; rw [he, if_pos rfl]; exact ⟨rfl, rfl⟩)
  have hE : agE x to gn = if x.ok = false then 1 else if x.k ≠ 1 then 8 else if (nxt x to gn).ok = false then 1 else 0 := rfl
  have ho : x.ok = right x.k x.o x.f x.t x.p x.g x.i x.fr.length := rfl
  have hn : (nxt x to gn).ok = right 2 x.o x.t to x.p gn x.i x.fr.length := rfl
  have hk : x.ok = true → x.k = 1 ∨ x.k = 2 := fun h => (Pk.kk h).1
  obtain ⟨a, n, c, rfl, e1, e2⟩ := hv.slice
  rw [bv_length] at e1
  generalize agE x to gn = E at *
  generalize dAgR x (.slice a n c) to gn = RR at *
  rw [ho, hn] at hE
  rw [ho] at hk
  simp only [nxt] at yes
  clear ho hn
  obtain ⟨k, o, f, t, p, g, i, fr⟩ := x
  simp only [Pk.v] at *
  refine Con.intro Try.func109 rfl (Nat.le_of_ble_eq_true (by kernel_rfl)) (by kernel_rfl) Try.results109 ?_
  intro H hH
  ((try simp only [S, TY, reduceCtorEq, nq0, nq1, nq2, nq3, nq4, iq0, iq1, iq2, iq3, iq4, iq5, iq6, iq7, iq8]); (try (simp (disch := omega) only [W2, Int.cast_ofNat_Int]; (try simp only [S, TY, reduceCtorEq, nq0, nq1, nq2, nq3, nq4, iq0, iq1, iq2, iq3, iq4, iq5, iq6, iq7, iq8]))))
  intro b hb hg
  ((try simp only [S, TY, reduceCtorEq, nq0, nq1, nq2, nq3, nq4, iq0, iq1, iq2, iq3, iq4, iq5, iq6, iq7, iq8]); (try (simp (disch := omega) only [W2, Int.cast_ofNat_Int]; (try simp only [S, TY, reduceCtorEq, nq0, nq1, nq2, nq3, nq4, iq0, iq1, iq2, iq3, iq4, iq5, iq6, iq7, iq8]))))
  intro b2 hb2 hg2
  ((try simp only [S, TY, reduceCtorEq, nq0, nq1, nq2, nq3, nq4, iq0, iq1, iq2, iq3, iq4, iq5, iq6, iq7, iq8]); (try (simp (disch := omega) only [W2, Int.cast_ofNat_Int]; (try simp only [S, TY, reduceCtorEq, nq0, nq1, nq2, nq3, nq4, iq0, iq1, iq2, iq3, iq4, iq5, iq6, iq7, iq8]))))
  generalize hq : Hp.set (Hp.set H b _) b2 _ = H2
  have h2 : sg G [ob b2 (.cells z0.toArray 26 (0, 0)), ob b (.cells (pkl k o f t p g i (.slice a n c)).toArray 26 (0, 0))] H2 := hq ▸ (hH.new hb hg _).new hb2 hg2 _
  have w2 := (h2.front 1).ld
  simp only [List.length_cons, List.length_nil, Nat.reduceAdd] at w2
  ((try simp only [S, TY, reduceCtorEq, nq0, nq1, nq2, nq3, nq4, iq0, iq1, iq2, iq3, iq4, iq5, iq6, iq7, iq8, w2]); (try (simp (disch := omega) only [W2, Int.cast_ofNat_Int]; (try simp only [S, TY, reduceCtorEq, nq0, nq1, nq2, nq3, nq4, iq0, iq1, iq2, iq3, iq4, iq5, iq6, iq7, iq8, w2]))))
  refine (dRight k o f t p g i hv).at_ h2 [] _ rfl fun r B H3 hr h3 => ?_
  obtain ⟨rfl, rfl⟩ := hr
  cases rr : right k o f t p g i fr.length with
  | false =>
    rw [rr, if_pos rfl] at hE
    ((try simp only [S, TY, reduceCtorEq, nq0, nq1, nq2, nq3, nq4, iq0, iq1, iq2, iq3, iq4, iq5, iq6, iq7, iq8]); (try (simp (disch := omega) only [W2, Int.cast_ofNat_Int]; (try simp only [S, TY, reduceCtorEq, nq0, nq1, nq2, nq3, nq4, iq0, iq1, iq2, iq3, iq4, iq5, iq6, iq7, iq8]))))
    refine sg.stAll (vs := z0) (h3.front 0) rfl rfl fun H9 h9 => ?_
    have w9 := h9.ld
    simp only [List.length_cons, List.length_nil, Nat.reduceAdd] at w9
    ((try simp only [S, TY, reduceCtorEq, nq0, nq1, nq2, nq3, nq4, iq0, iq1, iq2, iq3, iq4, iq5, iq6, iq7, iq8, w9]); (try (simp (disch := omega) only [W2, Int.cast_ofNat_Int]; (try simp only [S, TY, reduceCtorEq, nq0, nq1, nq2, nq3, nq4, iq0, iq1, iq2, iq3, iq4, iq5, iq6, iq7, iq8, w9]))))
    exact no 1 _ (by decide) hE ⟨h9.1, seps_take (B := []) h9.2⟩
  | true =>
    rw [rr, if_neg (by simp)] at hE
    have c3 := (h3.front 1).c0
    rcases hk rr with k1 | k2
    · have k2 : ¬ k = 2 := by omega
      rw [if_neg (fun q => q k1)] at hE
      have w3 := (h3.front 1).ld
      simp only [List.length_cons, List.length_nil, Nat.reduceAdd] at w3
      ((try simp only [S, TY, reduceCtorEq, nq0, nq1, nq2, nq3, nq4, iq0, iq1, iq2, iq3, iq4, iq5, iq6, iq7, iq8, c3, k2, w3]); (try (simp (disch := omega) only [W2, Int.cast_ofNat_Int]; (try simp only [S, TY, reduceCtorEq, nq0, nq1, nq2, nq3, nq4, iq0, iq1, iq2, iq3, iq4, iq5, iq6, iq7, iq8, c3, k2, w3]))))
      intro b4 hb4 hg4
      have h4 := h3.new hb4 hg4 (.cells z0.toArray 26 (0, 0))
      ((try simp only [S, TY, reduceCtorEq, nq0, nq1, nq2, nq3, nq4, iq0, iq1, iq2, iq3, iq4, iq5, iq6, iq7, iq8]); (try (simp (disch := omega) only [W2, Int.cast_ofNat_Int]; (try simp only [S, TY, reduceCtorEq, nq0, nq1, nq2, nq3, nq4, iq0, iq1, iq2, iq3, iq4, iq5, iq6, iq7, iq8]))))
      refine sg.stAll (vs := pkl k o f t p g i (.slice a n c)) h4 rfl rfl fun H5 h5 => ?_
      have c5 := h5.c0
      have d5 := (h5.front 2).c0
      ((try simp only [S, TY, reduceCtorEq, nq0, nq1, nq2, nq3, nq4, iq0, iq1, iq2, iq3, iq4, iq5, iq6, iq7, iq8, c5, d5]); (try (simp (disch := omega) only [W2, Int.cast_ofNat_Int]; (try simp only [S, TY, reduceCtorEq, nq0, nq1, nq2, nq3, nq4, iq0, iq1, iq2, iq3, iq4, iq5, iq6, iq7, iq8, c5, d5]))))
      refine sg.st h5 rfl rfl fun H6 h6 => ?_
      simp only [front_eq, fronts_nil, fronts_cons, List.getElem?_cons_zero, List.getElem?_cons_succ, List.eraseIdx_cons_zero, List.eraseIdx_cons_succ, List.cons_append, List.nil_append, putL_cons, putL_nil, List.set_cons_zero, List.set_cons_succ, Nat.reduceAdd] at h6
      have c6 := h6.c0
      have d6 := (h6.front 2).c0
      ((try simp only [S, TY, reduceCtorEq, nq0, nq1, nq2, nq3, nq4, iq0, iq1, iq2, iq3, iq4, iq5, iq6, iq7, iq8, c6, d6]); (try (simp (disch := omega) only [W2, Int.cast_ofNat_Int]; (try simp only [S, TY, reduceCtorEq, nq0, nq1, nq2, nq3, nq4, iq0, iq1, iq2, iq3, iq4, iq5, iq6, iq7, iq8, c6, d6]))))
      refine sg.st h6 rfl rfl fun H7 h7 => ?_
      simp only [front_eq, fronts_nil, fronts_cons, List.getElem?_cons_zero, List.getElem?_cons_succ, List.eraseIdx_cons_zero, List.eraseIdx_cons_succ, List.cons_append, List.nil_append, putL_cons, putL_nil, List.set_cons_zero, List.set_cons_succ, Nat.reduceAdd] at h7
      ((try simp only [S, TY, reduceCtorEq, nq0, nq1, nq2, nq3, nq4, iq0, iq1, iq2, iq3, iq4, iq5, iq6, iq7, iq8]); (try (simp (disch := omega) only [W2, Int.cast_ofNat_Int]; (try simp only [S, TY, reduceCtorEq, nq0, nq1, nq2, nq3, nq4, iq0, iq1, iq2, iq3, iq4, iq5, iq6, iq7, iq8]))))
      refine sg.st h7 rfl rfl fun H8 h8 => ?_
      simp only [front_eq, fronts_nil, fronts_cons, List.getElem?_cons_zero, List.getElem?_cons_succ, List.eraseIdx_cons_zero, List.eraseIdx_cons_succ, List.cons_append, List.nil_append, putL_cons, putL_nil, List.set_cons_zero, List.set_cons_succ, Nat.reduceAdd] at h8
      ((try simp only [S, TY, reduceCtorEq, nq0, nq1, nq2, nq3, nq4, iq0, iq1, iq2, iq3, iq4, iq5, iq6, iq7, iq8]); (try (simp (disch := omega) only [W2, Int.cast_ofNat_Int]; (try simp only [S, TY, reduceCtorEq, nq0, nq1, nq2, nq3, nq4, iq0, iq1, iq2, iq3, iq4, iq5, iq6, iq7, iq8]))))
      refine sg.st h8 rfl rfl fun H9 h9 => ?_
      simp only [front_eq, fronts_nil, fronts_cons, List.getElem?_cons_zero, List.getElem?_cons_succ, List.eraseIdx_cons_zero, List.eraseIdx_cons_succ, List.cons_append, List.nil_append, putL_cons, putL_nil, List.set_cons_zero, List.set_cons_succ, Nat.reduceAdd] at h9
      have w9 : ldl (H9.un G) ⟨b4, 0, none⟩ 0 8 = some (pkl 2 o t to p gn i (.slice a n c)) := sg.ld (l := pkl 2 o t to p gn i (.slice a n c)) h9
      ((try simp only [S, TY, reduceCtorEq, nq0, nq1, nq2, nq3, nq4, iq0, iq1, iq2, iq3, iq4, iq5, iq6, iq7, iq8, w9]); (try (simp (disch := omega) only [W2, Int.cast_ofNat_Int]; (try simp only [S, TY, reduceCtorEq, nq0, nq1, nq2, nq3, nq4, iq0, iq1, iq2, iq3, iq4, iq5, iq6, iq7, iq8, w9]))))
      refine (dRight 2 o t to p gn i hv).at_ h9 [] _ rfl fun r B H10 hr h10 => ?_
      obtain ⟨rfl, rfl⟩ := hr
      cases r2 : right 2 o t to p gn i fr.length with
      | false =>
        rw [r2, if_pos rfl] at hE
        ((try simp only [S, TY, reduceCtorEq, nq0, nq1, nq2, nq3, nq4, iq0, iq1, iq2, iq3, iq4, iq5, iq6, iq7, iq8]); (try (simp (disch := omega) only [W2, Int.cast_ofNat_Int]; (try simp only [S, TY, reduceCtorEq, nq0, nq1, nq2, nq3, nq4, iq0, iq1, iq2, iq3, iq4, iq5, iq6, iq7, iq8]))))
        refine sg.stAll (vs := z0) (h10.front 1) rfl rfl fun H9 h9 => ?_
        have w9 := h9.ld
        simp only [List.length_cons, List.length_nil, Nat.reduceAdd] at w9
        ((try simp only [S, TY, reduceCtorEq, nq0, nq1, nq2, nq3, nq4, iq0, iq1, iq2, iq3, iq4, iq5, iq6, iq7, iq8, w9]); (try (simp (disch := omega) only [W2, Int.cast_ofNat_Int]; (try simp only [S, TY, reduceCtorEq, nq0, nq1, nq2, nq3, nq4, iq0, iq1, iq2, iq3, iq4, iq5, iq6, iq7, iq8, w9]))))
        exact no 1 _ (by decide) hE ⟨h9.1, seps_take (B := []) h9.2⟩
      | true =>
        rw [r2, if_neg (by simp)] at hE
        have w10 : ldl (H10.un G) ⟨b4, 0, none⟩ 0 8 = some (pkl 2 o t to p gn i (.slice a n c)) := sg.ld (l := pkl 2 o t to p gn i (.slice a n c)) h10
        ((try simp only [S, TY, reduceCtorEq, nq0, nq1, nq2, nq3, nq4, iq0, iq1, iq2, iq3, iq4, iq5, iq6, iq7, iq8, w10]); (try (simp (disch := omega) only [W2, Int.cast_ofNat_Int]; (try simp only [S, TY, reduceCtorEq, nq0, nq1, nq2, nq3, nq4, iq0, iq1, iq2, iq3, iq4, iq5, iq6, iq7, iq8, w10]))))
        refine sg.stAll (vs := pkl 2 o t to p gn i (.slice a n c)) (h10.front 1) rfl rfl fun H11 h11 => ?_
        have w11 := h11.ld
        simp only [List.length_cons, List.length_nil, Nat.reduceAdd] at w11
        ((try simp only [S, TY, reduceCtorEq, nq0, nq1, nq2, nq3, nq4, iq0, iq1, iq2, iq3, iq4, iq5, iq6, iq7, iq8, w11]); (try (simp (disch := omega) only [W2, Int.cast_ofNat_Int]; (try simp only [S, TY, reduceCtorEq, nq0, nq1, nq2, nq3, nq4, iq0, iq1, iq2, iq3, iq4, iq5, iq6, iq7, iq8, w11]))))
        exact yes _ hE ⟨h11.1, seps_take (B := []) h11.2⟩
    · rw [if_pos (by omega)] at hE
      ((try simp only [S, TY, reduceCtorEq, nq0, nq1, nq2, nq3, nq4, iq0, iq1, iq2, iq3, iq4, iq5, iq6, iq7, iq8, c3, k2]); (try (simp (disch := omega) only [W2, Int.cast_ofNat_Int]; (try simp only [S, TY, reduceCtorEq, nq0, nq1, nq2, nq3, nq4, iq0, iq1, iq2, iq3, iq4, iq5, iq6, iq7, iq8, c3, k2]))))
      refine sg.stAll (vs := z0) (h3.front 0) rfl rfl fun H9 h9 => ?_
      have w9 := h9.ld
      simp only [List.length_cons, List.length_nil, Nat.reduceAdd] at w9
      ((try simp only [S, TY, reduceCtorEq, nq0, nq1, nq2, nq3, nq4, iq0, iq1, iq2, iq3, iq4, iq5, iq6, iq7, iq8, w9]); (try (simp (disch := omega) only [W2, Int.cast_ofNat_Int]; (try simp only [S, TY, reduceCtorEq, nq0, nq1, nq2, nq3, nq4, iq0, iq1, iq2, iq3, iq4, iq5, iq6, iq7, iq8, w9]))))
      exact no 8 _ (by decide) hE ⟨h9.1, seps_take (B := []) h9.2⟩
theorem dSame {G : Hp} {u v : Value} (x y : Pk) (hu : rds G 1 u (bv x.fr)) (hv : rds G 1 v (bv y.fr)) :
    Con Try.prog G 112 [Pk.v x u, Pk.v y v] [] (fun r B => r = .bool (samep x y) ∧ B = []) := by
  obtain ⟨k, o, f, t, p, g, i, fr⟩ := x
  obtain ⟨k', o', f', t', p', g', i', fr'⟩ := y
  simp only [Pk.v] at *
  refine Con.intro Try.func112 rfl (Nat.le_of_ble_eq_true (by kernel_rfl)) (by kernel_rfl) Try.results112 ?_
  intro H hH
  obtain ⟨ua, un, uc, rfl, _, _⟩ := hu.slice
  obtain ⟨va, vn, vc, rfl, _, _⟩ := hv.slice
  ((try simp only [S, TY, reduceCtorEq, nq0, nq1, nq2, nq3, nq4, iq0, iq1, iq2, iq3, iq4, iq5, iq6, iq7, iq8]); (try (simp (disch := omega) only [W2, Int.cast_ofNat_Int]; (try simp only [S, TY, reduceCtorEq, nq0, nq1, nq2, nq3, nq4, iq0, iq1, iq2, iq3, iq4, iq5, iq6, iq7, iq8]))))
  intro b hb hg
  ((try simp only [S, TY, reduceCtorEq, nq0, nq1, nq2, nq3, nq4, iq0, iq1, iq2, iq3, iq4, iq5, iq6, iq7, iq8]); (try (simp (disch := omega) only [W2, Int.cast_ofNat_Int]; (try simp only [S, TY, reduceCtorEq, nq0, nq1, nq2, nq3, nq4, iq0, iq1, iq2, iq3, iq4, iq5, iq6, iq7, iq8]))))
  intro b2 hb2 hg2
  ((try simp only [S, TY, reduceCtorEq, nq0, nq1, nq2, nq3, nq4, iq0, iq1, iq2, iq3, iq4, iq5, iq6, iq7, iq8]); (try (simp (disch := omega) only [W2, Int.cast_ofNat_Int]; (try simp only [S, TY, reduceCtorEq, nq0, nq1, nq2, nq3, nq4, iq0, iq1, iq2, iq3, iq4, iq5, iq6, iq7, iq8]))))
  generalize hq : Hp.set (Hp.set H b _) b2 _ = H1
  have h2 : sg G [ob b2 (.cells (pkl k' o' f' t' p' g' i' (.slice va vn vc)).toArray 26 (0, 0)), ob b (.cells (pkl k o f t p g i (.slice ua un uc)).toArray 26 (0, 0))] H1 := hq ▸ (hH.new hb hg _).new hb2 hg2 _
  have c2 := h2.c0
  have c1 := (h2.front 1).c0
  have s1 := rStr_of (P := Try.prog) (h2.ro hu)
  have s2 := rStr_of (P := Try.prog) (h2.ro hv)
  by_cases all : k = k' ∧ o = o' ∧ f = f' ∧ t = t' ∧ p = p' ∧ g = g' ∧ i = i'
  · obtain ⟨rfl, rfl, rfl, rfl, rfl, rfl, rfl⟩ := all
    have hs : samep ⟨k, o, f, t, p, g, i, fr⟩ ⟨k, o, f, t, p, g, i, fr'⟩ = (fr == fr') := by
      unfold samep
      rw [Bool.eq_iff_iff]
      simp
    rw [hs]
    cases hz : fr == fr' with
    | true =>
      ((try simp only [S, TY, reduceCtorEq, nq0, nq1, nq2, nq3, nq4, iq0, iq1, iq2, iq3, iq4, iq5, iq6, iq7, iq8, c1, c2, s1, s2, hz]); (try (simp (disch := omega) only [W2, Int.cast_ofNat_Int]; (try simp only [S, TY, reduceCtorEq, nq0, nq1, nq2, nq3, nq4, iq0, iq1, iq2, iq3, iq4, iq5, iq6, iq7, iq8, c1, c2, s1, s2, hz]))))
      exact fin_take (B := []) h2 ⟨rfl, rfl⟩
    | false =>
      ((try simp only [S, TY, reduceCtorEq, nq0, nq1, nq2, nq3, nq4, iq0, iq1, iq2, iq3, iq4, iq5, iq6, iq7, iq8, c1, c2, s1, s2, hz]); (try (simp (disch := omega) only [W2, Int.cast_ofNat_Int]; (try simp only [S, TY, reduceCtorEq, nq0, nq1, nq2, nq3, nq4, iq0, iq1, iq2, iq3, iq4, iq5, iq6, iq7, iq8, c1, c2, s1, s2, hz]))))
      exact fin_take (B := []) h2 ⟨rfl, rfl⟩
  · have hs : samep ⟨k, o, f, t, p, g, i, fr⟩ ⟨k', o', f', t', p', g', i', fr'⟩ = false := by
      unfold samep
      rw [decide_eq_false_iff_not]
      simp only
      exact fun q => all ⟨q.1, q.2.1, q.2.2.1, q.2.2.2.1, q.2.2.2.2.1, q.2.2.2.2.2.1, q.2.2.2.2.2.2.1⟩
    rw [hs]
    ((try simp only [S, TY, reduceCtorEq, nq0, nq1, nq2, nq3, nq4, iq0, iq1, iq2, iq3, iq4, iq5, iq6, iq7, iq8, c1, c2]); (try (simp (disch := omega) only [W2, Int.cast_ofNat_Int]; (try simp only [S, TY, reduceCtorEq, nq0, nq1, nq2, nq3, nq4, iq0, iq1, iq2, iq3, iq4, iq5, iq6, iq7, iq8, c1, c2]))))
    repeat' (refine Gate.intro (fun g => ?_) (fun g => ?_) <;> ((try simp only [S, TY, reduceCtorEq, nq0, nq1, nq2, nq3, nq4, iq0, iq1, iq2, iq3, iq4, iq5, iq6, iq7, iq8, c1, c2, g]); (try (simp (disch := omega) only [W2, Int.cast_ofNat_Int]; (try simp only [S, TY, reduceCtorEq, nq0, nq1, nq2, nq3, nq4, iq0, iq1, iq2, iq3, iq4, iq5, iq6, iq7, iq8, c1, c2, g])))))
    all_goals first | exact fin_take (B := []) h2 ⟨rfl, rfl⟩ | (exfalso; omega)
end Go.Proofs.Ytanhmbdcdbcfmaa.TunA
