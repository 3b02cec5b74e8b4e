/- The document's letters, over the machine. -/
import Derived.Test.YtanhmbdcdbcfmaaSe
import Derived.Test.YtanhmbdcdbcfmaaBufF
import Derived.Test.YtanhmbdcdbcfmaaBufOne
import Derived.Test.YtanhmbdcdbcfmaaRf
set_option linter.unusedVariables false
set_option linter.unusedSimpArgs false
set_option maxRecDepth 10000
set_option maxHeartbeats 2000000
namespace Go.Proofs.Ytanhmbdcdbcfmaa.SeD
open Nat renaming reduceEqDiff → nq0, reduceAdd → nq1, reduceLeDiff → nq2, reduceBEq → nq3, reduceMul → nq4
open Int renaming reduceBEq → iq0, reduceEq → iq1, reduceLT → iq2, reduceLE → iq3, reduceAdd → iq4, reduceSub → iq5, reduceMul → iq6, reduceToNat → iq7, cast_ofNat_Int → iq8
open Go Go.Sl Go.Proofs Go.Proofs.Ytanhmbdcdbcfmaa.Buf Go.Proofs.Ytanhmbdcdbcfmaa.BufRd Go.Proofs.Ytanhmbdcdbcfmaa.BufRe Go.Proofs.Ytanhmbdcdbcfmaa.BufP Go.Proofs.Ytanhmbdcdbcfmaa.SeP Go.Proofs.Ytanhmbdcdbcfmaa.Se Go.Proofs.Ytanhmbdcdbcfmaa.BufE Go.Proofs.Ytanhmbdcdbcfmaa.BufF Go.Proofs.Ytanhmbdcdbcfmaa.BufOne
theorem TY : aggN Try.prog 3 = some none ∧
  aggN Try.prog 5 = some none ∧
  aggN Try.prog 9 = some none ∧
  aggN Try.prog 24 = some none ∧
  aggN Try.prog 30 = some none ∧
  aggN Try.prog 62 = some (some 5) ∧
  aggN Try.prog 65 = some (some 5) ∧
  aggN Try.prog 236 = some none ∧
  aggN Try.prog 238 = some (some 2) ∧
  apI Try.prog 24 = some (5, 1, 1) ∧
  bIs Try.prog 62 = true ∧
  bIs Try.prog 65 = true ∧
  bIs Try.prog 238 = true ∧
  bySl Try.prog 24 = true ∧
  csz Try.prog 3 = some 1 ∧
  csz Try.prog 5 = some 1 ∧
  csz Try.prog 9 = some 1 ∧
  csz Try.prog 24 = some 1 ∧
  csz Try.prog 30 = some 1 ∧
  csz Try.prog 62 = some 5 ∧
  csz Try.prog 65 = some 5 ∧
  csz Try.prog 236 = some 1 ∧
  csz Try.prog 238 = some 2 ∧
  eqF Try.prog 65 = some [.i, .i, .i, .i, .s] ∧
  fIs Try.prog 62 0 = true ∧
  fIs Try.prog 62 1 = true ∧
  fIs Try.prog 62 2 = true ∧
  fIs Try.prog 62 3 = true ∧
  fIs Try.prog 62 4 = true ∧
  fIs Try.prog 65 0 = true ∧
  fIs Try.prog 65 1 = true ∧
  fIs Try.prog 65 2 = true ∧
  fIs Try.prog 65 3 = true ∧
  fIs Try.prog 65 4 = true ∧
  fOff Try.prog 62 0 = 0 ∧
  fOff Try.prog 62 1 = 1 ∧
  fOff Try.prog 62 2 = 2 ∧
  fOff Try.prog 62 3 = 3 ∧
  fOff Try.prog 62 4 = 4 ∧
  fOff Try.prog 65 0 = 0 ∧
  fOff Try.prog 65 1 = 1 ∧
  fOff Try.prog 65 2 = 2 ∧
  fOff Try.prog 65 3 = 3 ∧
  fOff Try.prog 65 4 = 4 ∧
  fTy Try.prog 62 0 = 3 ∧
  fTy Try.prog 62 1 = 3 ∧
  fTy Try.prog 62 2 = 3 ∧
  fTy Try.prog 62 3 = 3 ∧
  fTy Try.prog 62 4 = 24 ∧
  fTy Try.prog 65 0 = 3 ∧
  fTy Try.prog 65 1 = 3 ∧
  fTy Try.prog 65 2 = 3 ∧
  fTy Try.prog 65 3 = 3 ∧
  fTy Try.prog 65 4 = 9 ∧
  goes Try.prog 30 = true ∧
  goes Try.prog 114 = true ∧
  goes Try.prog 119 = true ∧
  goes Try.prog 129 = true ∧
  goes Try.prog 130 = true ∧
  goes Try.prog 131 = true ∧
  inIs Try.prog 3 = some .i64 ∧
  inIs Try.prog 5 = some .u8 ∧
  inIs Try.prog 30 = some .i64 ∧
  plcs Try.prog 62 = [(0, 1), (1, 1), (2, 1), (3, 1), (4, 1)] ∧
  plcs Try.prog 65 = [(0, 1), (1, 1), (2, 1), (3, 1), (4, 1)] ∧
  plcs Try.prog 238 = [(0, 1), (1, 1)] ∧
  ptIs Try.prog 236 = true ∧
  slEl Try.prog 24 = 5 ∧
  slIs Try.prog 24 = true ∧
  slSz Try.prog 24 = 1 ∧
  stIs Try.prog 9 = true ∧
  zcs Try.prog 62 = [.int .i64 0, .int .i64 0, .int .i64 0, .int .i64 0, .slice none 0 0] ∧
  zcs Try.prog 65 = [.int .i64 0, .int .i64 0, .int .i64 0, .int .i64 0, .string ByteArray.empty] ∧
  zcs Try.prog 238 = [.slice none 0 0, .bool false] ∧
  zro Try.prog 3 = some (.int .i64 0) ∧
  zro Try.prog 5 = some (.int .u8 0) ∧
  zro Try.prog 9 = some (.string ByteArray.empty) ∧
  zro Try.prog 24 = some (.slice none 0 0) ∧
  zro Try.prog 30 = some (.int .i64 0) ∧
  zro Try.prog 62 = some (.agg #[.int .i64 0, .int .i64 0, .int .i64 0, .int .i64 0, .slice none 0 0]) ∧
  zro Try.prog 65 = some (.agg #[.int .i64 0, .int .i64 0, .int .i64 0, .int .i64 0, .string ByteArray.empty]) ∧
  zro Try.prog 236 = some (.pointer none) ∧
  zro Try.prog 238 = some (.agg #[.slice none 0 0, .bool false]) :=
  ⟨by kernel_rfl, by kernel_rfl, by kernel_rfl, by kernel_rfl, by kernel_rfl, by kernel_rfl, by kernel_rfl, by kernel_rfl, by kernel_rfl, by kernel_rfl, by kernel_rfl, by kernel_rfl, by kernel_rfl, by kernel_rfl, by kernel_rfl, by kernel_rfl, by kernel_rfl, by kernel_rfl, by kernel_rfl, by kernel_rfl, by kernel_rfl, by kernel_rfl, by kernel_rfl, by kernel_rfl, by kernel_rfl, by kernel_rfl, by kernel_rfl, by kernel_rfl, by kernel_rfl, by kernel_rfl, by kernel_rfl, by kernel_rfl, by kernel_rfl, by kernel_rfl, by kernel_rfl, by kernel_rfl, by kernel_rfl, by kernel_rfl, by kernel_rfl, by kernel_rfl, by kernel_rfl, by kernel_rfl, by kernel_rfl, by kernel_rfl, by kernel_rfl, by kernel_rfl, by kernel_rfl, by kernel_rfl, by kernel_rfl, by kernel_rfl, by kernel_rfl, by kernel_rfl, by kernel_rfl, by kernel_rfl, by kernel_rfl, by kernel_rfl, by kernel_rfl, by kernel_rfl, by kernel_rfl, by kernel_rfl, by kernel_rfl, by kernel_rfl, by kernel_rfl, by kernel_rfl, by kernel_rfl, by kernel_rfl, by kernel_rfl, by kernel_rfl, by kernel_rfl, by kernel_rfl, by kernel_rfl, by kernel_rfl, by kernel_rfl, by kernel_rfl, by kernel_rfl, by kernel_rfl, by kernel_rfl, by kernel_rfl, by kernel_rfl, by kernel_rfl, by kernel_rfl, by kernel_rfl, by kernel_rfl⟩
abbrev dll (m p a s : Int) (b : List UInt8) : List Value := [.int .i64 m, .int .i64 p, .int .i64 a, .int .i64 s, .string (bs b)]
abbrev dl (x : Lt) : List Value := dll x.m x.p x.a x.s x.b
abbrev dz : List Value := [.int .i64 0, .int .i64 0, .int .i64 0, .int .i64 0, .string ByteArray.empty]
theorem dRight_ok {G : Hp} (m p a s : Int) (l : List UInt8) :
    Con Try.prog G 30 [.agg (dll m p a s l).toArray] [] (fun r B => r = .bool (right m p a s l.length) ∧ B = []) := by
  refine Con.intro Try.func30 rfl (Nat.le_of_ble_eq_true (by kernel_rfl)) (by kernel_rfl) Try.results30 ?_
  intro H hH
  have hR : right m p a s l.length = (decide ((1 ≤ m ∧ m ≤ 4294967296) ∧ (0 ≤ p ∧ p ≤ 4294967296) ∧ (0 ≤ a ∧ a ≤ 1099511627776) ∧ (0 ≤ s ∧ s ≤ 1099511627776)) && decide ((s = 0 ∧ l.length = 0) ∨ (¬ s = 0 ∧ 1 ≤ l.length ∧ l.length ≤ 1000))) := by
    unfold right
    rw [Bool.eq_iff_iff]
    simp only [decide_eq_true_eq, Bool.and_eq_true]
    omega
  rw [hR]
  refine cl_cut (fun e H => ∃ b, e 1 = .pointer (some ⟨b, 0, none⟩) ∧ sg G [ob b (.cells (dll m p a s l).toArray 65 (0, 0))] H) ?_ ?_
  · intro J hJ
    ((try simp only [S, TY, reduceCtorEq, nq0, nq1, nq2, nq3, nq4, iq0, iq1, iq2, iq3, iq4, iq5, iq6, iq7, iq8]); (try (simp (disch := omega) only [W2, Int.cast_ofNat_Int]; (try simp only [S, TY, reduceCtorEq, nq0, nq1, nq2, nq3, nq4, iq0, iq1, iq2, iq3, iq4, iq5, iq6, iq7, iq8]))))
    intro b hb hg
    ((try simp only [S, TY, reduceCtorEq, nq0, nq1, nq2, nq3, nq4, iq0, iq1, iq2, iq3, iq4, iq5, iq6, iq7, iq8]); (try (simp (disch := omega) only [W2, Int.cast_ofNat_Int]; (try simp only [S, TY, reduceCtorEq, nq0, nq1, nq2, nq3, nq4, iq0, iq1, iq2, iq3, iq4, iq5, iq6, iq7, iq8]))))
    exact hJ _ _ ⟨b, rfl, hH.new hb hg _⟩
  rintro e H1 ⟨b, s1, h1⟩
  have c1 := h1.c0
  refine cl_cut (fun e H => e 1 = .pointer (some ⟨b, 0, none⟩) ∧ e 3 = .bool (decide ((1 ≤ m ∧ m ≤ 4294967296) ∧ (0 ≤ p ∧ p ≤ 4294967296) ∧ (0 ≤ a ∧ a ≤ 1099511627776) ∧ (0 ≤ s ∧ s ≤ 1099511627776))) ∧ sg G [ob b (.cells (dll m p a s l).toArray 65 (0, 0))] H) ?_ ?_
  · intro J hJ
    ((try simp only [S, TY, reduceCtorEq, nq0, nq1, nq2, nq3, nq4, iq0, iq1, iq2, iq3, iq4, iq5, iq6, iq7, iq8, s1, c1]); (try (simp (disch := omega) only [W2, Int.cast_ofNat_Int]; (try simp only [S, TY, reduceCtorEq, nq0, nq1, nq2, nq3, nq4, iq0, iq1, iq2, iq3, iq4, iq5, iq6, iq7, iq8, s1, c1]))))
    refine (In_ok m 1 4294967296).at_ h1 [] _ rfl fun r B H2 hr h2 => ?_
    obtain ⟨rfl, rfl⟩ := hr
    have c2 := h2.c0
    by_cases g1 : 1 ≤ m ∧ m ≤ 4294967296
    · ((try simp only [S, TY, reduceCtorEq, nq0, nq1, nq2, nq3, nq4, iq0, iq1, iq2, iq3, iq4, iq5, iq6, iq7, iq8, s1, c1, c2, g1]); (try (simp (disch := omega) only [W2, Int.cast_ofNat_Int]; (try simp only [S, TY, reduceCtorEq, nq0, nq1, nq2, nq3, nq4, iq0, iq1, iq2, iq3, iq4, iq5, iq6, iq7, iq8, s1, c1, c2, g1]))))
      refine (In_ok p 0 4294967296).at_ h2 [] _ rfl fun r B H3 hr h3 => ?_
      obtain ⟨rfl, rfl⟩ := hr
      have c3 := h3.c0
      by_cases g2 : 0 ≤ p ∧ p ≤ 4294967296
      · ((try simp only [S, TY, reduceCtorEq, nq0, nq1, nq2, nq3, nq4, iq0, iq1, iq2, iq3, iq4, iq5, iq6, iq7, iq8, s1, c2, c3, g1, g2]); (try (simp (disch := omega) only [W2, Int.cast_ofNat_Int]; (try simp only [S, TY, reduceCtorEq, nq0, nq1, nq2, nq3, nq4, iq0, iq1, iq2, iq3, iq4, iq5, iq6, iq7, iq8, s1, c2, c3, g1, g2]))))
        refine (In_ok a 0 1099511627776).at_ h3 [] _ rfl fun r B H4 hr h4 => ?_
        obtain ⟨rfl, rfl⟩ := hr
        have c4 := h4.c0
        by_cases g3 : 0 ≤ a ∧ a ≤ 1099511627776
        · ((try simp only [S, TY, reduceCtorEq, nq0, nq1, nq2, nq3, nq4, iq0, iq1, iq2, iq3, iq4, iq5, iq6, iq7, iq8, s1, c3, c4, g1, g2, g3]); (try (simp (disch := omega) only [W2, Int.cast_ofNat_Int]; (try simp only [S, TY, reduceCtorEq, nq0, nq1, nq2, nq3, nq4, iq0, iq1, iq2, iq3, iq4, iq5, iq6, iq7, iq8, s1, c3, c4, g1, g2, g3]))))
          refine (In_ok s 0 1099511627776).at_ h4 [] _ rfl fun r B H5 hr h5 => ?_
          obtain ⟨rfl, rfl⟩ := hr
          have c5 := h5.c0
          by_cases g4 : 0 ≤ s ∧ s ≤ 1099511627776
          · ((try simp only [S, TY, reduceCtorEq, nq0, nq1, nq2, nq3, nq4, iq0, iq1, iq2, iq3, iq4, iq5, iq6, iq7, iq8, s1, c4, c5, g1, g2, g3, g4]); (try (simp (disch := omega) only [W2, Int.cast_ofNat_Int]; (try simp only [S, TY, reduceCtorEq, nq0, nq1, nq2, nq3, nq4, iq0, iq1, iq2, iq3, iq4, iq5, iq6, iq7, iq8, s1, c4, c5, g1, g2, g3, g4]))))
            exact hJ _ _ ⟨s1, by (refine bb ?_; (try simp only [BB]) <;> (first | omega | grind)), h5⟩
          · ((try simp only [S, TY, reduceCtorEq, nq0, nq1, nq2, nq3, nq4, iq0, iq1, iq2, iq3, iq4, iq5, iq6, iq7, iq8, s1, c4, c5, g1, g2, g3, g4]); (try (simp (disch := omega) only [W2, Int.cast_ofNat_Int]; (try simp only [S, TY, reduceCtorEq, nq0, nq1, nq2, nq3, nq4, iq0, iq1, iq2, iq3, iq4, iq5, iq6, iq7, iq8, s1, c4, c5, g1, g2, g3, g4]))))
            exact hJ _ _ ⟨s1, by (refine bb ?_; (try simp only [BB]) <;> (first | omega | grind)), h5⟩
        · ((try simp only [S, TY, reduceCtorEq, nq0, nq1, nq2, nq3, nq4, iq0, iq1, iq2, iq3, iq4, iq5, iq6, iq7, iq8, s1, c3, c4, g1, g2, g3]); (try (simp (disch := omega) only [W2, Int.cast_ofNat_Int]; (try simp only [S, TY, reduceCtorEq, nq0, nq1, nq2, nq3, nq4, iq0, iq1, iq2, iq3, iq4, iq5, iq6, iq7, iq8, s1, c3, c4, g1, g2, g3]))))
          exact hJ _ _ ⟨s1, by (refine bb ?_; (try simp only [BB]) <;> (first | omega | grind)), h4⟩
      · ((try simp only [S, TY, reduceCtorEq, nq0, nq1, nq2, nq3, nq4, iq0, iq1, iq2, iq3, iq4, iq5, iq6, iq7, iq8, s1, c2, c3, g1, g2]); (try (simp (disch := omega) only [W2, Int.cast_ofNat_Int]; (try simp only [S, TY, reduceCtorEq, nq0, nq1, nq2, nq3, nq4, iq0, iq1, iq2, iq3, iq4, iq5, iq6, iq7, iq8, s1, c2, c3, g1, g2]))))
        exact hJ _ _ ⟨s1, by (refine bb ?_; (try simp only [BB]) <;> (first | omega | grind)), h3⟩
    · ((try simp only [S, TY, reduceCtorEq, nq0, nq1, nq2, nq3, nq4, iq0, iq1, iq2, iq3, iq4, iq5, iq6, iq7, iq8, s1, c2, g1]); (try (simp (disch := omega) only [W2, Int.cast_ofNat_Int]; (try simp only [S, TY, reduceCtorEq, nq0, nq1, nq2, nq3, nq4, iq0, iq1, iq2, iq3, iq4, iq5, iq6, iq7, iq8, s1, c2, g1]))))
      exact hJ _ _ ⟨s1, by (refine bb ?_; (try simp only [BB]) <;> (first | omega | grind)), h2⟩
  clear h1 c1 s1
  rintro e H1 ⟨s1, s3, h1⟩
  have c1 := h1.c0
  obtain ⟨nn, hnn⟩ : ∃ z, decide ((1 ≤ m ∧ m ≤ 4294967296) ∧ (0 ≤ p ∧ p ≤ 4294967296) ∧ (0 ≤ a ∧ a ≤ 1099511627776) ∧ (0 ≤ s ∧ s ≤ 1099511627776)) = z := ⟨_, rfl⟩
  rw [hnn] at s3 ⊢
  have z1 := bs_size l
  by_cases g5 : s = 0
  · by_cases g6 : (l.length : Int) = 0
    · have g6' : l.length = 0 := by omega
      ((try simp only [S, TY, reduceCtorEq, nq0, nq1, nq2, nq3, nq4, iq0, iq1, iq2, iq3, iq4, iq5, iq6, iq7, iq8, s1, s3, c1, g5, g6, z1]); (try (simp (disch := omega) only [W2, Int.cast_ofNat_Int]; (try simp only [S, TY, reduceCtorEq, nq0, nq1, nq2, nq3, nq4, iq0, iq1, iq2, iq3, iq4, iq5, iq6, iq7, iq8, s1, s3, c1, g5, g6, z1]))))
      cases nn with
      | true =>
        ((try simp only [S, TY, reduceCtorEq, nq0, nq1, nq2, nq3, nq4, iq0, iq1, iq2, iq3, iq4, iq5, iq6, iq7, iq8, s1]); (try (simp (disch := omega) only [W2, Int.cast_ofNat_Int]; (try simp only [S, TY, reduceCtorEq, nq0, nq1, nq2, nq3, nq4, iq0, iq1, iq2, iq3, iq4, iq5, iq6, iq7, iq8, s1]))))
        exact fin_take (B := []) h1 ⟨by simp [g5, g6'], rfl⟩
      | false =>
        ((try simp only [S, TY, reduceCtorEq, nq0, nq1, nq2, nq3, nq4, iq0, iq1, iq2, iq3, iq4, iq5, iq6, iq7, iq8, s1]); (try (simp (disch := omega) only [W2, Int.cast_ofNat_Int]; (try simp only [S, TY, reduceCtorEq, nq0, nq1, nq2, nq3, nq4, iq0, iq1, iq2, iq3, iq4, iq5, iq6, iq7, iq8, s1]))))
        exact fin_take (B := []) h1 ⟨rfl, rfl⟩
    · have g6' : ¬ l.length = 0 := by omega
      ((try simp only [S, TY, reduceCtorEq, nq0, nq1, nq2, nq3, nq4, iq0, iq1, iq2, iq3, iq4, iq5, iq6, iq7, iq8, s1, s3, c1, g5, g6, z1]); (try (simp (disch := omega) only [W2, Int.cast_ofNat_Int]; (try simp only [S, TY, reduceCtorEq, nq0, nq1, nq2, nq3, nq4, iq0, iq1, iq2, iq3, iq4, iq5, iq6, iq7, iq8, s1, s3, c1, g5, g6, z1]))))
      cases nn with
      | true =>
        ((try simp only [S, TY, reduceCtorEq, nq0, nq1, nq2, nq3, nq4, iq0, iq1, iq2, iq3, iq4, iq5, iq6, iq7, iq8, s1]); (try (simp (disch := omega) only [W2, Int.cast_ofNat_Int]; (try simp only [S, TY, reduceCtorEq, nq0, nq1, nq2, nq3, nq4, iq0, iq1, iq2, iq3, iq4, iq5, iq6, iq7, iq8, s1]))))
        exact fin_take (B := []) h1 ⟨by simp [g5, g6'], rfl⟩
      | false =>
        ((try simp only [S, TY, reduceCtorEq, nq0, nq1, nq2, nq3, nq4, iq0, iq1, iq2, iq3, iq4, iq5, iq6, iq7, iq8, s1]); (try (simp (disch := omega) only [W2, Int.cast_ofNat_Int]; (try simp only [S, TY, reduceCtorEq, nq0, nq1, nq2, nq3, nq4, iq0, iq1, iq2, iq3, iq4, iq5, iq6, iq7, iq8, s1]))))
        exact fin_take (B := []) h1 ⟨rfl, rfl⟩
  · ((try simp only [S, TY, reduceCtorEq, nq0, nq1, nq2, nq3, nq4, iq0, iq1, iq2, iq3, iq4, iq5, iq6, iq7, iq8, s1, s3, c1, g5, z1]); (try (simp (disch := omega) only [W2, Int.cast_ofNat_Int]; (try simp only [S, TY, reduceCtorEq, nq0, nq1, nq2, nq3, nq4, iq0, iq1, iq2, iq3, iq4, iq5, iq6, iq7, iq8, s1, s3, c1, g5, z1]))))
    refine (In_ok _ _ _).at_ h1 [] _ rfl fun r B H2 hr h2 => ?_
    obtain ⟨rfl, rfl⟩ := hr
    ((try simp only [S, TY, reduceCtorEq, nq0, nq1, nq2, nq3, nq4, iq0, iq1, iq2, iq3, iq4, iq5, iq6, iq7, iq8, s1, s3, g5]); (try (simp (disch := omega) only [W2, Int.cast_ofNat_Int]; (try simp only [S, TY, reduceCtorEq, nq0, nq1, nq2, nq3, nq4, iq0, iq1, iq2, iq3, iq4, iq5, iq6, iq7, iq8, s1, s3, g5]))))
    cases nn with
    | true =>
      ((try simp only [S, TY, reduceCtorEq, nq0, nq1, nq2, nq3, nq4, iq0, iq1, iq2, iq3, iq4, iq5, iq6, iq7, iq8, s1]); (try (simp (disch := omega) only [W2, Int.cast_ofNat_Int]; (try simp only [S, TY, reduceCtorEq, nq0, nq1, nq2, nq3, nq4, iq0, iq1, iq2, iq3, iq4, iq5, iq6, iq7, iq8, s1]))))
      exact fin_take (B := []) h2 ⟨by (refine bb ?_; (try simp only [BB]) <;> (first | omega | grind)), rfl⟩
    | false =>
      ((try simp only [S, TY, reduceCtorEq, nq0, nq1, nq2, nq3, nq4, iq0, iq1, iq2, iq3, iq4, iq5, iq6, iq7, iq8, s1]); (try (simp (disch := omega) only [W2, Int.cast_ofNat_Int]; (try simp only [S, TY, reduceCtorEq, nq0, nq1, nq2, nq3, nq4, iq0, iq1, iq2, iq3, iq4, iq5, iq6, iq7, iq8, s1]))))
      exact fin_take (B := []) h2 ⟨rfl, rfl⟩
theorem Of_ok {G : Hp} {u : Value} (x : Lt) (hv : rds G 1 u (bv x.b)) : Con Try.prog G 31 [Lt.v x u] [] (fun r B => r = .agg (dl x).toArray ∧ B = []) := by
  have hv0 := hv
  obtain ⟨va, n, c, rfl, -, -⟩ := hv.slice
  refine Con.intro Try.func31 rfl (Nat.le_of_ble_eq_true (by kernel_rfl)) (by kernel_rfl) Try.results31 ?_
  intro H hH
  ((try simp only [S, TY, reduceCtorEq, nq0, nq1, nq2, nq3, nq4, iq0, iq1, iq2, iq3, iq4, iq5, iq6, iq7, iq8]); (try (simp (disch := omega) only [W2, Int.cast_ofNat_Int]; (try simp only [S, TY, reduceCtorEq, nq0, nq1, nq2, nq3, nq4, iq0, iq1, iq2, iq3, iq4, iq5, iq6, iq7, iq8]))))
  intro b hb hg
  have h1 := hH.new hb hg (.cells (ltl x.m x.p x.a x.s (.slice va n c)).toArray 62 (0, 0))
  ((try simp only [S, TY, reduceCtorEq, nq0, nq1, nq2, nq3, nq4, iq0, iq1, iq2, iq3, iq4, iq5, iq6, iq7, iq8]); (try (simp (disch := omega) only [W2, Int.cast_ofNat_Int]; (try simp only [S, TY, reduceCtorEq, nq0, nq1, nq2, nq3, nq4, iq0, iq1, iq2, iq3, iq4, iq5, iq6, iq7, iq8]))))
  intro b2 hb2 hg2
  have h2 := h1.new hb2 hg2 (.cells dz.toArray 65 (0, 0))
  have c2 := (h2.front 1).c0
  have s2 := rStr_of (P := Try.prog) (h2.ro hv0)
  ((try simp only [S, TY, reduceCtorEq, nq0, nq1, nq2, nq3, nq4, iq0, iq1, iq2, iq3, iq4, iq5, iq6, iq7, iq8, c2, s2]); (try (simp (disch := omega) only [W2, Int.cast_ofNat_Int]; (try simp only [S, TY, reduceCtorEq, nq0, nq1, nq2, nq3, nq4, iq0, iq1, iq2, iq3, iq4, iq5, iq6, iq7, iq8, c2, s2]))))
  refine sg.stAll (vs := dl x) h2 rfl rfl fun H3 h3 => ?_
  have w3 := h3.ld
  simp only [List.length_cons, List.length_nil, Nat.reduceAdd] at w3
  ((try simp only [S, TY, reduceCtorEq, nq0, nq1, nq2, nq3, nq4, iq0, iq1, iq2, iq3, iq4, iq5, iq6, iq7, iq8, w3]); (try (simp (disch := omega) only [W2, Int.cast_ofNat_Int]; (try simp only [S, TY, reduceCtorEq, nq0, nq1, nq2, nq3, nq4, iq0, iq1, iq2, iq3, iq4, iq5, iq6, iq7, iq8, w3]))))
  exact fin_take (B := []) h3 ⟨rfl, rfl⟩
theorem dBytes_ok {G : Hp} (x : Lt) (hx : x.ok = true) : Con Try.prog G 34 [.agg (dl x).toArray] [] (fun r B => B = [own 5 1 r (bv x.enc)]) := by
  obtain ⟨k1, k2, k3, k4, k5⟩ := Lt.kk hx
  obtain ⟨m, p, a, s, b⟩ := x
  simp only at k1 k2 k3 k4 k5
  obtain ⟨m, rfl⟩ : ∃ n : Nat, m = n := ⟨m.toNat, by omega⟩
  obtain ⟨p, rfl⟩ : ∃ n : Nat, p = n := ⟨p.toNat, by omega⟩
  obtain ⟨a, rfl⟩ : ∃ n : Nat, a = n := ⟨a.toNat, by omega⟩
  obtain ⟨s, rfl⟩ : ∃ n : Nat, s = n := ⟨s.toNat, by omega⟩
  refine Con.intro Try.func34 rfl (Nat.le_of_ble_eq_true (by kernel_rfl)) (by kernel_rfl) Try.results34 ?_
  intro H hH
  ((try simp only [S, TY, reduceCtorEq, nq0, nq1, nq2, nq3, nq4, iq0, iq1, iq2, iq3, iq4, iq5, iq6, iq7, iq8]); (try (simp (disch := omega) only [W2, Int.cast_ofNat_Int]; (try simp only [S, TY, reduceCtorEq, nq0, nq1, nq2, nq3, nq4, iq0, iq1, iq2, iq3, iq4, iq5, iq6, iq7, iq8]))))
  intro b1 hb hg
  have h1 := hH.new hb hg (.cells (dll m p a s b).toArray 65 (0, 0))
  have c1 := h1.c0
  ((try simp only [S, TY, reduceCtorEq, nq0, nq1, nq2, nq3, nq4, iq0, iq1, iq2, iq3, iq4, iq5, iq6, iq7, iq8, c1]); (try (simp (disch := omega) only [W2, Int.cast_ofNat_Int]; (try simp only [S, TY, reduceCtorEq, nq0, nq1, nq2, nq3, nq4, iq0, iq1, iq2, iq3, iq4, iq5, iq6, iq7, iq8, c1]))))
  refine (one_ok (N := 5) (X := m) (by omega)).at_ h1 [] _ rfl fun r B H2 hr h2 => ?_
  subst hr
  have c2 := (h2.front 1).c0
  ((try simp only [S, TY, reduceCtorEq, nq0, nq1, nq2, nq3, nq4, iq0, iq1, iq2, iq3, iq4, iq5, iq6, iq7, iq8, c2]); (try (simp (disch := omega) only [W2, Int.cast_ofNat_Int]; (try simp only [S, TY, reduceCtorEq, nq0, nq1, nq2, nq3, nq4, iq0, iq1, iq2, iq3, iq4, iq5, iq6, iq7, iq8, c2]))))
  refine (one_ok (N := 5) (X := p) (by omega)).at_ h2 [] _ rfl fun r' B H3 hr h3 => ?_
  subst hr
  ((try simp only [S, TY, reduceCtorEq, nq0, nq1, nq2, nq3, nq4, iq0, iq1, iq2, iq3, iq4, iq5, iq6, iq7, iq8]); (try (simp (disch := omega) only [W2, Int.cast_ofNat_Int]; (try simp only [S, TY, reduceCtorEq, nq0, nq1, nq2, nq3, nq4, iq0, iq1, iq2, iq3, iq4, iq5, iq6, iq7, iq8]))))
  refine append_sl (show apI Try.prog 24 = some (5, 1, 1) from by kernel_rfl) (show slIs Try.prog 24 = true from by kernel_rfl) (h3.front 1) ((h3.front 1).rdsi 1 rfl Rd_own) (bv_one _) (by simp [bv_length, num_length]) fun v4 H4 h4 => ?_
  rw [← bv_append] at h4
  have c4 := (h4.front 2).c0
  ((try simp only [S, TY, reduceCtorEq, nq0, nq1, nq2, nq3, nq4, iq0, iq1, iq2, iq3, iq4, iq5, iq6, iq7, iq8, c4]); (try (simp (disch := omega) only [W2, Int.cast_ofNat_Int]; (try simp only [S, TY, reduceCtorEq, nq0, nq1, nq2, nq3, nq4, iq0, iq1, iq2, iq3, iq4, iq5, iq6, iq7, iq8, c4]))))
  refine (one_ok (N := 6) (X := a) (by omega)).at_ h4 [] _ rfl fun r' B H5 hr h5 => ?_
  subst hr
  ((try simp only [S, TY, reduceCtorEq, nq0, nq1, nq2, nq3, nq4, iq0, iq1, iq2, iq3, iq4, iq5, iq6, iq7, iq8]); (try (simp (disch := omega) only [W2, Int.cast_ofNat_Int]; (try simp only [S, TY, reduceCtorEq, nq0, nq1, nq2, nq3, nq4, iq0, iq1, iq2, iq3, iq4, iq5, iq6, iq7, iq8]))))
  refine append_sl (show apI Try.prog 24 = some (5, 1, 1) from by kernel_rfl) (show slIs Try.prog 24 = true from by kernel_rfl) (h5.front 1) ((h5.front 1).rdsi 1 rfl Rd_own) (bv_one _) (by simp [bv_length, num_length]) fun v6 H6 h6 => ?_
  rw [← bv_append] at h6
  have c6 := (h6.front 3).c0
  ((try simp only [S, TY, reduceCtorEq, nq0, nq1, nq2, nq3, nq4, iq0, iq1, iq2, iq3, iq4, iq5, iq6, iq7, iq8, c6]); (try (simp (disch := omega) only [W2, Int.cast_ofNat_Int]; (try simp only [S, TY, reduceCtorEq, nq0, nq1, nq2, nq3, nq4, iq0, iq1, iq2, iq3, iq4, iq5, iq6, iq7, iq8, c6]))))
  refine (one_ok (N := 6) (X := s) (by omega)).at_ h6 [] _ rfl fun r' B H7 hr h7 => ?_
  subst hr
  ((try simp only [S, TY, reduceCtorEq, nq0, nq1, nq2, nq3, nq4, iq0, iq1, iq2, iq3, iq4, iq5, iq6, iq7, iq8]); (try (simp (disch := omega) only [W2, Int.cast_ofNat_Int]; (try simp only [S, TY, reduceCtorEq, nq0, nq1, nq2, nq3, nq4, iq0, iq1, iq2, iq3, iq4, iq5, iq6, iq7, iq8]))))
  refine append_sl (show apI Try.prog 24 = some (5, 1, 1) from by kernel_rfl) (show slIs Try.prog 24 = true from by kernel_rfl) (h7.front 1) ((h7.front 1).rdsi 1 rfl Rd_own) (bv_one _) (by simp [bv_length, num_length]) fun v8 H8 h8 => ?_
  rw [← bv_append] at h8
  have c8 := (h8.front 4).c0
  have z1 := bs_size b
  ((try simp only [S, TY, reduceCtorEq, nq0, nq1, nq2, nq3, nq4, iq0, iq1, iq2, iq3, iq4, iq5, iq6, iq7, iq8, c8, z1]); (try (simp (disch := omega) only [W2, Int.cast_ofNat_Int]; (try simp only [S, TY, reduceCtorEq, nq0, nq1, nq2, nq3, nq4, iq0, iq1, iq2, iq3, iq4, iq5, iq6, iq7, iq8, c8, z1]))))
  refine (one_ok (N := 2) (X := b.length) (by omega)).at_ h8 [] _ rfl fun r' B H9 hr h9 => ?_
  subst hr
  ((try simp only [S, TY, reduceCtorEq, nq0, nq1, nq2, nq3, nq4, iq0, iq1, iq2, iq3, iq4, iq5, iq6, iq7, iq8]); (try (simp (disch := omega) only [W2, Int.cast_ofNat_Int]; (try simp only [S, TY, reduceCtorEq, nq0, nq1, nq2, nq3, nq4, iq0, iq1, iq2, iq3, iq4, iq5, iq6, iq7, iq8]))))
  refine append_sl (show apI Try.prog 24 = some (5, 1, 1) from by kernel_rfl) (show slIs Try.prog 24 = true from by kernel_rfl) (h9.front 1) ((h9.front 1).rdsi 1 rfl Rd_own) (bv_one _) (by simp [bv_length, num_length]) fun v10 H10 h10 => ?_
  rw [← bv_append] at h10
  have c10 := (h10.front 5).c0
  ((try simp only [S, TY, reduceCtorEq, nq0, nq1, nq2, nq3, nq4, iq0, iq1, iq2, iq3, iq4, iq5, iq6, iq7, iq8, c10]); (try (simp (disch := omega) only [W2, Int.cast_ofNat_Int]; (try simp only [S, TY, reduceCtorEq, nq0, nq1, nq2, nq3, nq4, iq0, iq1, iq2, iq3, iq4, iq5, iq6, iq7, iq8, c10]))))
  refine conv_sb (L := _) (show stIs Try.prog 9 = true from by kernel_rfl) (show apI Try.prog 24 = some (5, 1, 1) from by kernel_rfl) (show inIs Try.prog 5 = some .u8 from by kernel_rfl) h10 fun v11 H11 h11 => ?_
  ((try simp only [S, TY, reduceCtorEq, nq0, nq1, nq2, nq3, nq4, iq0, iq1, iq2, iq3, iq4, iq5, iq6, iq7, iq8]); (try (simp (disch := omega) only [W2, Int.cast_ofNat_Int]; (try simp only [S, TY, reduceCtorEq, nq0, nq1, nq2, nq3, nq4, iq0, iq1, iq2, iq3, iq4, iq5, iq6, iq7, iq8]))))
  refine append_sl (show apI Try.prog 24 = some (5, 1, 1) from by kernel_rfl) (show slIs Try.prog 24 = true from by kernel_rfl) (h11.front 1) ((h11.front 1).rdsi 1 rfl Rd_own) (bv_one _) (by simp [bv_length, num_length]; omega) fun v12 H12 h12 => ?_
  rw [← bv_append] at h12
  ((try simp only [S, TY, reduceCtorEq, nq0, nq1, nq2, nq3, nq4, iq0, iq1, iq2, iq3, iq4, iq5, iq6, iq7, iq8]); (try (simp (disch := omega) only [W2, Int.cast_ofNat_Int]; (try simp only [S, TY, reduceCtorEq, nq0, nq1, nq2, nq3, nq4, iq0, iq1, iq2, iq3, iq4, iq5, iq6, iq7, iq8]))))
  exact fin_take (B := [_]) h12 (by simp [Lt.enc, List.append_assoc])
def dDec (l : List UInt8) : Value := match ldec l with
  | some x => .tuple #[.agg (dl x).toArray, .int .i64 0]
  | none => .tuple #[.agg dz.toArray, .int .i64 2]
theorem dParse_ok {G : Hp} {v : Value} {l : List UInt8} (hv : rds G 1 v (bv l)) (hl : l.length ≤ 100000) : Con Try.prog G 36 [v] [] (fun r B => r = dDec l ∧ B = []) := by
  refine Con.intro Try.func36 rfl (Nat.le_of_ble_eq_true (by kernel_rfl)) (by kernel_rfl) Try.results36 ?_
  intro H hH
  ((try simp only [S, TY, reduceCtorEq, nq0, nq1, nq2, nq3, nq4, iq0, iq1, iq2, iq3, iq4, iq5, iq6, iq7, iq8]); (try (simp (disch := omega) only [W2, Int.cast_ofNat_Int]; (try simp only [S, TY, reduceCtorEq, nq0, nq1, nq2, nq3, nq4, iq0, iq1, iq2, iq3, iq4, iq5, iq6, iq7, iq8]))))
  intro b hb hg
  have h1 := hH.new hb hg (.cells dz.toArray 65 (0, 0))
  ((try simp only [S, TY, reduceCtorEq, nq0, nq1, nq2, nq3, nq4, iq0, iq1, iq2, iq3, iq4, iq5, iq6, iq7, iq8]); (try (simp (disch := omega) only [W2, Int.cast_ofNat_Int]; (try simp only [S, TY, reduceCtorEq, nq0, nq1, nq2, nq3, nq4, iq0, iq1, iq2, iq3, iq4, iq5, iq6, iq7, iq8]))))
  intro b2 hb2 hg2
  have h2 := h1.newsl (e := 5) (sz := 1) (n := 0) (xs := bv []) hb2 hg2 rfl
  ((try simp only [S, TY, reduceCtorEq, nq0, nq1, nq2, nq3, nq4, iq0, iq1, iq2, iq3, iq4, iq5, iq6, iq7, iq8]); (try (simp (disch := omega) only [W2, Int.cast_ofNat_Int]; (try simp only [S, TY, reduceCtorEq, nq0, nq1, nq2, nq3, nq4, iq0, iq1, iq2, iq3, iq4, iq5, iq6, iq7, iq8]))))
  refine append_sl (show apI Try.prog 24 = some (5, 1, 1) from by kernel_rfl) (show slIs Try.prog 24 = true from by kernel_rfl) h2 (h2.ro hv) (bv_one _) (by simp [bv_length]; omega) fun u H3 h3 => ?_
  rw [← bv_append, List.nil_append] at h3
  obtain ⟨ya, yn, yc, rfl, _, _⟩ := h3.sl 0 rfl Rd_own
  ((try simp only [S, TY, reduceCtorEq, nq0, nq1, nq2, nq3, nq4, iq0, iq1, iq2, iq3, iq4, iq5, iq6, iq7, iq8]); (try (simp (disch := omega) only [W2, Int.cast_ofNat_Int]; (try simp only [S, TY, reduceCtorEq, nq0, nq1, nq2, nq3, nq4, iq0, iq1, iq2, iq3, iq4, iq5, iq6, iq7, iq8]))))
  intro p hp hpg
  have hA := isQ_shut (w := ⟨l, false⟩) (h3.new hp hpg _)
  have kA : (R.mk l false).b.length ≤ 100000 := hl
  obtain ⟨r1, x1, q1⟩ : ∃ r x, R.get (R.mk l false) 5 = (r, x) := ⟨_, _, rfl⟩
  have k1 : r1.b.length ≤ 100000 := by have := get_len (R.mk l false) 5; rw [q1] at this; simp only at this kA; omega
  ((try simp only [S, TY, reduceCtorEq, nq0, nq1, nq2, nq3, nq4, iq0, iq1, iq2, iq3, iq4, iq5, iq6, iq7, iq8]); (try (simp (disch := omega) only [W2, Int.cast_ofNat_Int]; (try simp only [S, TY, reduceCtorEq, nq0, nq1, nq2, nq3, nq4, iq0, iq1, iq2, iq3, iq4, iq5, iq6, iq7, iq8]))))
  refine (vget_ok (r := (R.mk l false)) 5 (by omega)).at_ hA [0] _ rfl fun r B h_ hr h1 => ?_
  rw [q1] at hr
  obtain ⟨rfl, rfl⟩ := hr
  ((try simp only [S, TY, reduceCtorEq, nq0, nq1, nq2, nq3, nq4, iq0, iq1, iq2, iq3, iq4, iq5, iq6, iq7, iq8]); (try (simp (disch := omega) only [W2, Int.cast_ofNat_Int]; (try simp only [S, TY, reduceCtorEq, nq0, nq1, nq2, nq3, nq4, iq0, iq1, iq2, iq3, iq4, iq5, iq6, iq7, iq8]))))
  intro b3 hb3 hg3
  have hB := h1.new hb3 hg3 (.cells dz.toArray 65 (0, 0))
  ((try simp only [S, TY, reduceCtorEq, nq0, nq1, nq2, nq3, nq4, iq0, iq1, iq2, iq3, iq4, iq5, iq6, iq7, iq8]); (try (simp (disch := omega) only [W2, Int.cast_ofNat_Int]; (try simp only [S, TY, reduceCtorEq, nq0, nq1, nq2, nq3, nq4, iq0, iq1, iq2, iq3, iq4, iq5, iq6, iq7, iq8]))))
  refine sg.stAll (vs := [.int .i64 x1, .int .i64 0, .int .i64 0, .int .i64 0, .string ByteArray.empty]) hB rfl rfl fun H5 hC => ?_
  obtain ⟨r2, x2, q2⟩ : ∃ r x, R.get r1 5 = (r, x) := ⟨_, _, rfl⟩
  have k2 : r2.b.length ≤ 100000 := by have := get_len r1 5; rw [q2] at this; simp only at this k1; omega
  ((try simp only [S, TY, reduceCtorEq, nq0, nq1, nq2, nq3, nq4, iq0, iq1, iq2, iq3, iq4, iq5, iq6, iq7, iq8]); (try (simp (disch := omega) only [W2, Int.cast_ofNat_Int]; (try simp only [S, TY, reduceCtorEq, nq0, nq1, nq2, nq3, nq4, iq0, iq1, iq2, iq3, iq4, iq5, iq6, iq7, iq8]))))
  refine (vget_ok (r := r1) 5 (by omega)).at_ hC [1] _ rfl fun r B h_ hr h2 => ?_
  rw [q2] at hr
  obtain ⟨rfl, rfl⟩ := hr
  ((try simp only [S, TY, reduceCtorEq, nq0, nq1, nq2, nq3, nq4, iq0, iq1, iq2, iq3, iq4, iq5, iq6, iq7, iq8]); (try (simp (disch := omega) only [W2, Int.cast_ofNat_Int]; (try simp only [S, TY, reduceCtorEq, nq0, nq1, nq2, nq3, nq4, iq0, iq1, iq2, iq3, iq4, iq5, iq6, iq7, iq8]))))
  refine sg.st (h2.front 1) rfl rfl fun h_ g2 => ?_
  simp only [front_eq, fronts_nil, fronts_cons, List.getElem?_cons_zero, List.getElem?_cons_succ, List.eraseIdx_cons_zero, List.eraseIdx_cons_succ, List.cons_append, List.nil_append, putL_cons, putL_nil, List.set_cons_zero, List.set_cons_succ, Nat.reduceAdd] at g2
  obtain ⟨r3, x3, q3⟩ : ∃ r x, R.get r2 6 = (r, x) := ⟨_, _, rfl⟩
  have k3 : r3.b.length ≤ 100000 := by have := get_len r2 6; rw [q3] at this; simp only at this k2; omega
  ((try simp only [S, TY, reduceCtorEq, nq0, nq1, nq2, nq3, nq4, iq0, iq1, iq2, iq3, iq4, iq5, iq6, iq7, iq8]); (try (simp (disch := omega) only [W2, Int.cast_ofNat_Int]; (try simp only [S, TY, reduceCtorEq, nq0, nq1, nq2, nq3, nq4, iq0, iq1, iq2, iq3, iq4, iq5, iq6, iq7, iq8]))))
  refine (vget_ok (r := r2) 6 (by omega)).at_ g2 [1] _ rfl fun r B h_ hr h3 => ?_
  rw [q3] at hr
  obtain ⟨rfl, rfl⟩ := hr
  ((try simp only [S, TY, reduceCtorEq, nq0, nq1, nq2, nq3, nq4, iq0, iq1, iq2, iq3, iq4, iq5, iq6, iq7, iq8]); (try (simp (disch := omega) only [W2, Int.cast_ofNat_Int]; (try simp only [S, TY, reduceCtorEq, nq0, nq1, nq2, nq3, nq4, iq0, iq1, iq2, iq3, iq4, iq5, iq6, iq7, iq8]))))
  refine sg.st (h3.front 1) rfl rfl fun h_ g3 => ?_
  simp only [front_eq, fronts_nil, fronts_cons, List.getElem?_cons_zero, List.getElem?_cons_succ, List.eraseIdx_cons_zero, List.eraseIdx_cons_succ, List.cons_append, List.nil_append, putL_cons, putL_nil, List.set_cons_zero, List.set_cons_succ, Nat.reduceAdd] at g3
  obtain ⟨r4, x4, q4⟩ : ∃ r x, R.get r3 6 = (r, x) := ⟨_, _, rfl⟩
  have k4 : r4.b.length ≤ 100000 := by have := get_len r3 6; rw [q4] at this; simp only at this k3; omega
  ((try simp only [S, TY, reduceCtorEq, nq0, nq1, nq2, nq3, nq4, iq0, iq1, iq2, iq3, iq4, iq5, iq6, iq7, iq8]); (try (simp (disch := omega) only [W2, Int.cast_ofNat_Int]; (try simp only [S, TY, reduceCtorEq, nq0, nq1, nq2, nq3, nq4, iq0, iq1, iq2, iq3, iq4, iq5, iq6, iq7, iq8]))))
  refine (vget_ok (r := r3) 6 (by omega)).at_ g3 [1] _ rfl fun r B h_ hr h4 => ?_
  rw [q4] at hr
  obtain ⟨rfl, rfl⟩ := hr
  ((try simp only [S, TY, reduceCtorEq, nq0, nq1, nq2, nq3, nq4, iq0, iq1, iq2, iq3, iq4, iq5, iq6, iq7, iq8]); (try (simp (disch := omega) only [W2, Int.cast_ofNat_Int]; (try simp only [S, TY, reduceCtorEq, nq0, nq1, nq2, nq3, nq4, iq0, iq1, iq2, iq3, iq4, iq5, iq6, iq7, iq8]))))
  refine sg.st (h4.front 1) rfl rfl fun h_ g4 => ?_
  simp only [front_eq, fronts_nil, fronts_cons, List.getElem?_cons_zero, List.getElem?_cons_succ, List.eraseIdx_cons_zero, List.eraseIdx_cons_succ, List.cons_append, List.nil_append, putL_cons, putL_nil, List.set_cons_zero, List.set_cons_succ, Nat.reduceAdd] at g4
  obtain ⟨r5, x5, q5⟩ : ∃ r x, R.bytes r4 1000 = (r, x) := ⟨_, _, rfl⟩
  have z5 := SeP.bytes_len r4 1000
  rw [q5] at z5
  simp only at z5
  have hp := ldec_at q1 q2 q3 q4 q5
  ((try simp only [S, TY, reduceCtorEq, nq0, nq1, nq2, nq3, nq4, iq0, iq1, iq2, iq3, iq4, iq5, iq6, iq7, iq8]); (try (simp (disch := omega) only [W2, Int.cast_ofNat_Int]; (try simp only [S, TY, reduceCtorEq, nq0, nq1, nq2, nq3, nq4, iq0, iq1, iq2, iq3, iq4, iq5, iq6, iq7, iq8]))))
  refine (vbytes_ok (r := r4) 1000 (by omega)).at_ g4 [1] _ rfl fun r B H9 hr h9 => ?_
  rw [q5] at hr
  subst hr
  obtain ⟨ua, un, uc, rfl, f1, f2⟩ := h9.sl 0 rfl Rd_own
  have s9 := rStr_of (P := Try.prog) (h9.rdsi 0 rfl Rd_own)
  ((try simp only [S, TY, reduceCtorEq, nq0, nq1, nq2, nq3, nq4, iq0, iq1, iq2, iq3, iq4, iq5, iq6, iq7, iq8, s9]); (try (simp (disch := omega) only [W2, Int.cast_ofNat_Int]; (try simp only [S, TY, reduceCtorEq, nq0, nq1, nq2, nq3, nq4, iq0, iq1, iq2, iq3, iq4, iq5, iq6, iq7, iq8, s9]))))
  refine sg.st (h9.front 2) rfl rfl fun H10 h10 => ?_
  simp only [front_eq, fronts_nil, fronts_cons, List.getElem?_cons_zero, List.getElem?_cons_succ, List.eraseIdx_cons_zero, List.eraseIdx_cons_succ, List.cons_append, List.nil_append, putL_cons, putL_nil, List.set_cons_zero, List.set_cons_succ, Nat.reduceAdd] at h10
  have w10 := h10.ld
  simp only [List.length_cons, List.length_nil, Nat.reduceAdd] at w10
  ((try simp only [S, TY, reduceCtorEq, nq0, nq1, nq2, nq3, nq4, iq0, iq1, iq2, iq3, iq4, iq5, iq6, iq7, iq8, w10]); (try (simp (disch := omega) only [W2, Int.cast_ofNat_Int]; (try simp only [S, TY, reduceCtorEq, nq0, nq1, nq2, nq3, nq4, iq0, iq1, iq2, iq3, iq4, iq5, iq6, iq7, iq8, w10]))))
  refine (dRight_ok x1 x2 x3 x4 x5).at_ h10 [] _ rfl fun r B H11 hr h11 => ?_
  obtain ⟨rfl, rfl⟩ := hr
  ((try simp only [S, TY, reduceCtorEq, nq0, nq1, nq2, nq3, nq4, iq0, iq1, iq2, iq3, iq4, iq5, iq6, iq7, iq8]); (try (simp (disch := omega) only [W2, Int.cast_ofNat_Int]; (try simp only [S, TY, reduceCtorEq, nq0, nq1, nq2, nq3, nq4, iq0, iq1, iq2, iq3, iq4, iq5, iq6, iq7, iq8]))))
  refine (vdone_ok (r := r5)).at_ h11 [2] _ rfl fun r B H12 hr h12 => ?_
  obtain ⟨rfl, rfl⟩ := hr
  simp only [front_eq, fronts_nil, fronts_cons, List.getElem?_cons_zero, List.getElem?_cons_succ, List.eraseIdx_cons_zero, List.eraseIdx_cons_succ, List.cons_append, List.nil_append, putL_cons, putL_nil, List.set_cons_zero, List.set_cons_succ, Nat.reduceAdd] at h12
  unfold dDec
  by_cases d0 : R.done r5 = 0
  · by_cases rr : right x1 x2 x3 x4 x5.length = true
    · rw [if_pos ⟨d0, rr⟩] at hp
      have w12 := (h12.front 1).ld
      simp only [List.length_cons, List.length_nil, Nat.reduceAdd] at w12
      ((try simp only [S, TY, reduceCtorEq, nq0, nq1, nq2, nq3, nq4, iq0, iq1, iq2, iq3, iq4, iq5, iq6, iq7, iq8, d0, rr, w12]); (try (simp (disch := omega) only [W2, Int.cast_ofNat_Int]; (try simp only [S, TY, reduceCtorEq, nq0, nq1, nq2, nq3, nq4, iq0, iq1, iq2, iq3, iq4, iq5, iq6, iq7, iq8, d0, rr, w12]))))
      refine sg.stAll (vs := dll x1 x2 x3 x4 x5) (h12.front 3) rfl rfl fun H14 h14 => ?_
      have w14 := h14.ld
      simp only [List.length_cons, List.length_nil, Nat.reduceAdd] at w14
      ((try simp only [S, TY, reduceCtorEq, nq0, nq1, nq2, nq3, nq4, iq0, iq1, iq2, iq3, iq4, iq5, iq6, iq7, iq8, w14]); (try (simp (disch := omega) only [W2, Int.cast_ofNat_Int]; (try simp only [S, TY, reduceCtorEq, nq0, nq1, nq2, nq3, nq4, iq0, iq1, iq2, iq3, iq4, iq5, iq6, iq7, iq8, w14]))))
      exact fin_take (B := []) h14 ⟨by rw [hp], rfl⟩
    · rw [if_neg (fun q => rr q.2)] at hp
      rw [Bool.not_eq_true] at rr
      ((try simp only [S, TY, reduceCtorEq, nq0, nq1, nq2, nq3, nq4, iq0, iq1, iq2, iq3, iq4, iq5, iq6, iq7, iq8, d0, rr]); (try (simp (disch := omega) only [W2, Int.cast_ofNat_Int]; (try simp only [S, TY, reduceCtorEq, nq0, nq1, nq2, nq3, nq4, iq0, iq1, iq2, iq3, iq4, iq5, iq6, iq7, iq8, d0, rr]))))
      refine sg.stAll (vs := dz) (h12.front 3) rfl rfl fun H14 h14 => ?_
      have w14 := h14.ld
      simp only [List.length_cons, List.length_nil, Nat.reduceAdd] at w14
      ((try simp only [S, TY, reduceCtorEq, nq0, nq1, nq2, nq3, nq4, iq0, iq1, iq2, iq3, iq4, iq5, iq6, iq7, iq8, w14]); (try (simp (disch := omega) only [W2, Int.cast_ofNat_Int]; (try simp only [S, TY, reduceCtorEq, nq0, nq1, nq2, nq3, nq4, iq0, iq1, iq2, iq3, iq4, iq5, iq6, iq7, iq8, w14]))))
      exact fin_take (B := []) h14 ⟨by rw [hp], rfl⟩
  · rw [if_neg (fun q => d0 q.1)] at hp
    ((try simp only [S, TY, reduceCtorEq, nq0, nq1, nq2, nq3, nq4, iq0, iq1, iq2, iq3, iq4, iq5, iq6, iq7, iq8, d0]); (try (simp (disch := omega) only [W2, Int.cast_ofNat_Int]; (try simp only [S, TY, reduceCtorEq, nq0, nq1, nq2, nq3, nq4, iq0, iq1, iq2, iq3, iq4, iq5, iq6, iq7, iq8, d0]))))
    refine sg.stAll (vs := dz) (h12.front 3) rfl rfl fun H14 h14 => ?_
    have w14 := h14.ld
    simp only [List.length_cons, List.length_nil, Nat.reduceAdd] at w14
    ((try simp only [S, TY, reduceCtorEq, nq0, nq1, nq2, nq3, nq4, iq0, iq1, iq2, iq3, iq4, iq5, iq6, iq7, iq8, w14]); (try (simp (disch := omega) only [W2, Int.cast_ofNat_Int]; (try simp only [S, TY, reduceCtorEq, nq0, nq1, nq2, nq3, nq4, iq0, iq1, iq2, iq3, iq4, iq5, iq6, iq7, iq8, w14]))))
    exact fin_take (B := []) h14 ⟨by rw [hp], rfl⟩
end Go.Proofs.Ytanhmbdcdbcfmaa.SeD
