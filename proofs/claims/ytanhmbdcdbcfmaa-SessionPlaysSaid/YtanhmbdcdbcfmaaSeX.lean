/- Sessions: the law on acts. -/
import Derived.Test.YtanhmbdcdbcfmaaSeA
import Derived.Test.YtanhmbdcdbcfmaaSeR
set_option linter.unusedVariables false
set_option linter.unusedSimpArgs false
set_option maxRecDepth 10000
set_option maxHeartbeats 4000000
namespace Go.Proofs.Ytanhmbdcdbcfmaa.SeX
open Nat renaming reduceEqDiff → nq0, reduceAdd → nq1, reduceLeDiff → nq2, reduceBEq → nq3, reduceMul → nq4
open Int renaming reduceBEq → iq0, reduceEq → iq1, reduceLT → iq2, reduceLE → iq3, reduceAdd → iq4, reduceSub → iq5, reduceMul → iq6, reduceToNat → iq7, cast_ofNat_Int → iq8
open Go Go.Sl Go.Proofs Go.Proofs.Ytanhmbdcdbcfmaa.Buf Go.Proofs.Ytanhmbdcdbcfmaa.BufRd Go.Proofs.Ytanhmbdcdbcfmaa.BufRe Go.Proofs.Ytanhmbdcdbcfmaa.BufP Go.Proofs.Ytanhmbdcdbcfmaa.SeP Go.Proofs.Ytanhmbdcdbcfmaa.Se Go.Proofs.Ytanhmbdcdbcfmaa.SeS Go.Proofs.Ytanhmbdcdbcfmaa.SeD Go.Proofs.Ytanhmbdcdbcfmaa.SeT Go.Proofs.Ytanhmbdcdbcfmaa.SeR Go.Proofs.Ytanhmbdcdbcfmaa.SeW Go.Proofs.Ytanhmbdcdbcfmaa.SeA
theorem TY : aggN Try.prog 3 = some none ∧
  aggN Try.prog 4 = some none ∧
  aggN Try.prog 5 = some none ∧
  aggN Try.prog 9 = some none ∧
  aggN Try.prog 24 = some none ∧
  aggN Try.prog 30 = some none ∧
  aggN Try.prog 62 = some (some 5) ∧
  aggN Try.prog 65 = some (some 5) ∧
  aggN Try.prog 76 = some none ∧
  aggN Try.prog 78 = some none ∧
  aggN Try.prog 81 = some none ∧
  aggN Try.prog 85 = some (some 7) ∧
  aggN Try.prog 87 = some none ∧
  aggN Try.prog 89 = some (some 5) ∧
  aggN Try.prog 91 = some (some 3) ∧
  aggN Try.prog 95 = some none ∧
  aggN Try.prog 115 = some none ∧
  aggN Try.prog 240 = some (some 5) ∧
  aggN Try.prog 243 = some none ∧
  aggN Try.prog 246 = some (some 3) ∧
  apI Try.prog 24 = some (5, 1, 1) ∧
  apI Try.prog 76 = some (85, 7, 88) ∧
  apI Try.prog 87 = some (9, 1, 16) ∧
  apI Try.prog 95 = some (62, 5, 56) ∧
  apI Try.prog 115 = some (24, 1, 24) ∧
  apI Try.prog 243 = some (65, 5, 48) ∧
  bIs Try.prog 62 = true ∧
  bIs Try.prog 65 = true ∧
  bIs Try.prog 85 = true ∧
  bIs Try.prog 89 = true ∧
  bIs Try.prog 91 = true ∧
  bIs Try.prog 240 = true ∧
  bIs Try.prog 246 = true ∧
  boIs Try.prog 4 = true ∧
  bySl Try.prog 24 = true ∧
  csz Try.prog 3 = some 1 ∧
  csz Try.prog 4 = some 1 ∧
  csz Try.prog 5 = some 1 ∧
  csz Try.prog 9 = some 1 ∧
  csz Try.prog 24 = some 1 ∧
  csz Try.prog 30 = some 1 ∧
  csz Try.prog 62 = some 5 ∧
  csz Try.prog 65 = some 5 ∧
  csz Try.prog 76 = some 1 ∧
  csz Try.prog 78 = some 1 ∧
  csz Try.prog 81 = some 1 ∧
  csz Try.prog 85 = some 7 ∧
  csz Try.prog 87 = some 1 ∧
  csz Try.prog 89 = some 5 ∧
  csz Try.prog 91 = some 3 ∧
  csz Try.prog 95 = some 1 ∧
  csz Try.prog 115 = some 1 ∧
  csz Try.prog 240 = some 5 ∧
  csz Try.prog 243 = some 1 ∧
  csz Try.prog 246 = some 3 ∧
  eqF Try.prog 65 = some [.i, .i, .i, .i, .s] ∧
  eqF Try.prog 246 = some [.s, .b, .b] ∧
  fIs Try.prog 62 0 = true ∧
  fIs Try.prog 62 1 = true ∧
  fIs Try.prog 62 2 = true ∧
  fIs Try.prog 62 3 = true ∧
  fIs Try.prog 62 4 = true ∧
  fIs Try.prog 85 0 = true ∧
  fIs Try.prog 85 1 = true ∧
  fIs Try.prog 85 2 = true ∧
  fIs Try.prog 89 1 = true ∧
  fIs Try.prog 89 4 = true ∧
  fIs Try.prog 91 0 = true ∧
  fIs Try.prog 91 1 = true ∧
  fIs Try.prog 91 2 = true ∧
  fIs Try.prog 240 0 = true ∧
  fIs Try.prog 240 1 = true ∧
  fIs Try.prog 240 2 = true ∧
  fIs Try.prog 240 3 = true ∧
  fIs Try.prog 240 4 = true ∧
  fIs Try.prog 246 0 = true ∧
  fIs Try.prog 246 1 = true ∧
  fIs Try.prog 246 2 = true ∧
  fOff Try.prog 62 0 = 0 ∧
  fOff Try.prog 62 1 = 1 ∧
  fOff Try.prog 62 2 = 2 ∧
  fOff Try.prog 62 3 = 3 ∧
  fOff Try.prog 62 4 = 4 ∧
  fOff Try.prog 85 0 = 0 ∧
  fOff Try.prog 85 1 = 1 ∧
  fOff Try.prog 85 2 = 2 ∧
  fOff Try.prog 89 1 = 1 ∧
  fOff Try.prog 89 4 = 4 ∧
  fOff Try.prog 91 0 = 0 ∧
  fOff Try.prog 91 1 = 1 ∧
  fOff Try.prog 91 2 = 2 ∧
  fOff Try.prog 240 0 = 0 ∧
  fOff Try.prog 240 1 = 1 ∧
  fOff Try.prog 240 2 = 2 ∧
  fOff Try.prog 240 3 = 3 ∧
  fOff Try.prog 240 4 = 4 ∧
  fOff Try.prog 246 0 = 0 ∧
  fOff Try.prog 246 1 = 1 ∧
  fOff Try.prog 246 2 = 2 ∧
  fTy Try.prog 62 0 = 3 ∧
  fTy Try.prog 62 1 = 3 ∧
  fTy Try.prog 62 2 = 3 ∧
  fTy Try.prog 62 3 = 3 ∧
  fTy Try.prog 62 4 = 24 ∧
  fTy Try.prog 85 0 = 5 ∧
  fTy Try.prog 85 1 = 24 ∧
  fTy Try.prog 85 2 = 62 ∧
  fTy Try.prog 89 1 = 3 ∧
  fTy Try.prog 89 4 = 87 ∧
  fTy Try.prog 91 0 = 24 ∧
  fTy Try.prog 91 1 = 4 ∧
  fTy Try.prog 91 2 = 4 ∧
  fTy Try.prog 240 0 = 3 ∧
  fTy Try.prog 240 1 = 3 ∧
  fTy Try.prog 240 2 = 115 ∧
  fTy Try.prog 240 3 = 3 ∧
  fTy Try.prog 240 4 = 3 ∧
  fTy Try.prog 246 0 = 9 ∧
  fTy Try.prog 246 1 = 4 ∧
  fTy Try.prog 246 2 = 4 ∧
  goes Try.prog 29 = true ∧
  goes Try.prog 31 = true ∧
  goes Try.prog 33 = true ∧
  goes Try.prog 37 = true ∧
  goes Try.prog 38 = true ∧
  goes Try.prog 39 = true ∧
  goes Try.prog 40 = true ∧
  goes Try.prog 41 = true ∧
  goes Try.prog 42 = true ∧
  goes Try.prog 43 = true ∧
  goes Try.prog 44 = true ∧
  goes Try.prog 45 = true ∧
  goes Try.prog 102 = true ∧
  goes Try.prog 132 = true ∧
  goes Try.prog 133 = true ∧
  goes Try.prog 134 = true ∧
  goes Try.prog 135 = true ∧
  inIs Try.prog 3 = some .i64 ∧
  inIs Try.prog 5 = some .u8 ∧
  inIs Try.prog 30 = some .i64 ∧
  plcs Try.prog 62 = [(0, 1), (1, 1), (2, 1), (3, 1), (4, 1)] ∧
  plcs Try.prog 65 = [(0, 1), (1, 1), (2, 1), (3, 1), (4, 1)] ∧
  plcs Try.prog 85 = [(0, 1), (1, 1), (2, 5)] ∧
  plcs Try.prog 89 = [(0, 1), (1, 1), (2, 1), (3, 1), (4, 1)] ∧
  plcs Try.prog 91 = [(0, 1), (1, 1), (2, 1)] ∧
  plcs Try.prog 240 = [(0, 1), (1, 1), (2, 1), (3, 1), (4, 1)] ∧
  plcs Try.prog 246 = [(0, 1), (1, 1), (2, 1)] ∧
  ptIs Try.prog 78 = true ∧
  ptIs Try.prog 81 = true ∧
  slEl Try.prog 24 = 5 ∧
  slEl Try.prog 76 = 85 ∧
  slEl Try.prog 87 = 9 ∧
  slEl Try.prog 95 = 62 ∧
  slEl Try.prog 115 = 24 ∧
  slEl Try.prog 243 = 65 ∧
  slIs Try.prog 24 = true ∧
  slIs Try.prog 76 = true ∧
  slIs Try.prog 87 = true ∧
  slIs Try.prog 95 = true ∧
  slIs Try.prog 115 = true ∧
  slIs Try.prog 243 = true ∧
  slSz Try.prog 24 = 1 ∧
  slSz Try.prog 76 = 7 ∧
  slSz Try.prog 87 = 1 ∧
  slSz Try.prog 95 = 5 ∧
  slSz Try.prog 115 = 1 ∧
  slSz Try.prog 243 = 5 ∧
  stIs Try.prog 9 = true ∧
  zcs Try.prog 62 = [.int .i64 0, .int .i64 0, .int .i64 0, .int .i64 0, .slice none 0 0] ∧
  zcs Try.prog 65 = [.int .i64 0, .int .i64 0, .int .i64 0, .int .i64 0, .string ByteArray.empty] ∧
  zcs Try.prog 85 = [.int .u8 0, .slice none 0 0, .int .i64 0, .int .i64 0, .int .i64 0, .int .i64 0, .slice none 0 0] ∧
  zcs Try.prog 89 = [.int .i64 0, .int .i64 0, .int .i64 0, .int .i64 0, .slice none 0 0] ∧
  zcs Try.prog 91 = [.slice none 0 0, .bool false, .bool false] ∧
  zcs Try.prog 240 = [.int .i64 0, .int .i64 0, .slice none 0 0, .int .i64 0, .int .i64 0] ∧
  zcs Try.prog 246 = [.string ByteArray.empty, .bool false, .bool false] ∧
  zro Try.prog 3 = some (.int .i64 0) ∧
  zro Try.prog 4 = some (.bool false) ∧
  zro Try.prog 5 = some (.int .u8 0) ∧
  zro Try.prog 9 = some (.string ByteArray.empty) ∧
  zro Try.prog 24 = some (.slice none 0 0) ∧
  zro Try.prog 30 = some (.int .i64 0) ∧
  zro Try.prog 62 = some (.agg #[.int .i64 0, .int .i64 0, .int .i64 0, .int .i64 0, .slice none 0 0]) ∧
  zro Try.prog 65 = some (.agg #[.int .i64 0, .int .i64 0, .int .i64 0, .int .i64 0, .string ByteArray.empty]) ∧
  zro Try.prog 76 = some (.slice none 0 0) ∧
  zro Try.prog 78 = some (.pointer none) ∧
  zro Try.prog 81 = some (.pointer none) ∧
  zro Try.prog 85 = some (.agg #[.int .u8 0, .slice none 0 0, .int .i64 0, .int .i64 0, .int .i64 0, .int .i64 0, .slice none 0 0]) ∧
  zro Try.prog 87 = some (.slice none 0 0) ∧
  zro Try.prog 89 = some (.agg #[.int .i64 0, .int .i64 0, .int .i64 0, .int .i64 0, .slice none 0 0]) ∧
  zro Try.prog 91 = some (.agg #[.slice none 0 0, .bool false, .bool false]) ∧
  zro Try.prog 95 = some (.slice none 0 0) ∧
  zro Try.prog 115 = some (.slice none 0 0) ∧
  zro Try.prog 240 = some (.agg #[.int .i64 0, .int .i64 0, .slice none 0 0, .int .i64 0, .int .i64 0]) ∧
  zro Try.prog 243 = some (.slice none 0 0) ∧
  zro Try.prog 246 = some (.agg #[.string ByteArray.empty, .bool false, .bool false]) :=
  ⟨by kernel_rfl, by kernel_rfl, by kernel_rfl, by kernel_rfl, by kernel_rfl, by kernel_rfl, by kernel_rfl, by kernel_rfl, by kernel_rfl, by kernel_rfl, by kernel_rfl, by kernel_rfl, by kernel_rfl, by kernel_rfl, by kernel_rfl, by kernel_rfl, by kernel_rfl, by kernel_rfl, by kernel_rfl, by kernel_rfl, by kernel_rfl, by kernel_rfl, by kernel_rfl, by kernel_rfl, by kernel_rfl, by kernel_rfl, by kernel_rfl, by kernel_rfl, by kernel_rfl, by kernel_rfl, by kernel_rfl, by kernel_rfl, by kernel_rfl, by kernel_rfl, by kernel_rfl, by kernel_rfl, by kernel_rfl, by kernel_rfl, by kernel_rfl, by kernel_rfl, by kernel_rfl, by kernel_rfl, by kernel_rfl, by kernel_rfl, by kernel_rfl, by kernel_rfl, by kernel_rfl, by kernel_rfl, by kernel_rfl, by kernel_rfl, by kernel_rfl, by kernel_rfl, by kernel_rfl, by kernel_rfl, by kernel_rfl, by kernel_rfl, by kernel_rfl, by kernel_rfl, by kernel_rfl, by kernel_rfl, by kernel_rfl, by kernel_rfl, by kernel_rfl, by kernel_rfl, by kernel_rfl, by kernel_rfl, by kernel_rfl, by kernel_rfl, by kernel_rfl, by kernel_rfl, by kernel_rfl, by kernel_rfl, by kernel_rfl, by kernel_rfl, by kernel_rfl, by kernel_rfl, by kernel_rfl, by kernel_rfl, by kernel_rfl, by kernel_rfl, by kernel_rfl, by kernel_rfl, by kernel_rfl, by kernel_rfl, by kernel_rfl, by kernel_rfl, by kernel_rfl, by kernel_rfl, by kernel_rfl, by kernel_rfl, by kernel_rfl, by kernel_rfl, by kernel_rfl, by kernel_rfl, by kernel_rfl, by kernel_rfl, by kernel_rfl, by kernel_rfl, by kernel_rfl, by kernel_rfl, by kernel_rfl, by kernel_rfl, by kernel_rfl, by kernel_rfl, by kernel_rfl, by kernel_rfl, by kernel_rfl, by kernel_rfl, by kernel_rfl, by kernel_rfl, by kernel_rfl, by kernel_rfl, by kernel_rfl, by kernel_rfl, by kernel_rfl, by kernel_rfl, by kernel_rfl, by kernel_rfl, by kernel_rfl, by kernel_rfl, by kernel_rfl, by kernel_rfl, by kernel_rfl, by kernel_rfl, by kernel_rfl, by kernel_rfl, by kernel_rfl, by kernel_rfl, by kernel_rfl, by kernel_rfl, by kernel_rfl, by kernel_rfl, by kernel_rfl, by kernel_rfl, by kernel_rfl, by kernel_rfl, by kernel_rfl, by kernel_rfl, by kernel_rfl, by kernel_rfl, by kernel_rfl, by kernel_rfl, by kernel_rfl, by kernel_rfl, by kernel_rfl, by kernel_rfl, by kernel_rfl, by kernel_rfl, by kernel_rfl, by kernel_rfl, by kernel_rfl, by kernel_rfl, by kernel_rfl, by kernel_rfl, by kernel_rfl, by kernel_rfl, by kernel_rfl, by kernel_rfl, by kernel_rfl, by kernel_rfl, by kernel_rfl, by kernel_rfl, by kernel_rfl, by kernel_rfl, by kernel_rfl, by kernel_rfl, by kernel_rfl, by kernel_rfl, by kernel_rfl, by kernel_rfl, by kernel_rfl, by kernel_rfl, by kernel_rfl, by kernel_rfl, by kernel_rfl, by kernel_rfl, by kernel_rfl, by kernel_rfl, by kernel_rfl, by kernel_rfl, by kernel_rfl, by kernel_rfl, by kernel_rfl, by kernel_rfl, by kernel_rfl, by kernel_rfl, by kernel_rfl, by kernel_rfl, by kernel_rfl, by kernel_rfl, by kernel_rfl, by kernel_rfl, by kernel_rfl, by kernel_rfl, by kernel_rfl⟩
def D6_14 : List Note := Go.Sl.nn [0, 0, 0, 0, 3, 0, 0, 0, 1, 0, 0, 0, 0, 0, 3, 0, 0, 0] ++ ([(1, [4])] ++ (Go.Sl.nn [0, 0]))
def D43_3 : List Note := Go.Sl.nn [0, 1, 0, 0, 0, 1, 0, 0]
def D43_5 : List Note := Go.Sl.nn [0, 1, 0, 0, 0, 1, 0, 0, 2, 3]
def D43_8 : List Note := Go.Sl.nn [0, 1, 0, 0, 0, 1, 0]
def D43_10 : List Note := Go.Sl.nn [0, 0, 0, 1, 0, 0, 0, 0, 0, 0, 1, 0, 1, 0, 0]
def D43_11 : List Note := Go.Sl.nn [0, 0, 0, 0, 0, 1, 0, 0, 0, 0, 1, 0, 0, 0, 3, 0, 0, 3]
def D43_12 : List Note := Go.Sl.nn [0, 1, 0, 0, 0, 1, 0, 0]
def D133_6 : List Note := Go.Sl.nn [0, 0, 0, 1, 3, 0, 0, 0, 1, 0]
theorem letters_ok {G : Hp} {v w : Value} {zl : List (Lt × Value)} (h1 : rds G 5 v (zl.flatMap lc)) (h2 : rds G 5 w ((zl.map (·.1)).flatMap dl)) (hb : blobs (zl.map (·.2)) (zl.map (·.1.b)) G) (hn : zl.length ≤ 1000) :
    Con Try.prog G 133 [v, w] [] (fun r B => r = .bool true ∧ B = []) := by
  have k1 := h1
  have k2 := h2
  obtain ⟨va, vn, vc, rfl, e1, _⟩ := h1.slice
  obtain ⟨wa, wn, wc, rfl, e2, _⟩ := h2.slice
  rw [flat_len lc_len] at e1
  rw [flat_len dl_len, List.length_map] at e2
  obtain rfl : vn = zl.length := by omega
  obtain rfl : wn = zl.length := by omega
  refine Con.intro Try.func133 rfl (Nat.le_of_ble_eq_true (by kernel_rfl)) (by kernel_rfl) Try.results133 ?_
  intro H h
  ((try simp only [S, TY, reduceCtorEq, nq0, nq1, nq2, nq3, nq4, iq0, iq1, iq2, iq3, iq4, iq5, iq6, iq7, iq8]); (try (simp (disch := omega) only [W2, Int.cast_ofNat_Int]; (try simp only [S, TY, reduceCtorEq, nq0, nq1, nq2, nq3, nq4, iq0, iq1, iq2, iq3, iq4, iq5, iq6, iq7, iq8]))); repeat ((first | (refine cl_drawi 6 D133_6 (List.range 10) (by decide) (by kernel_rfl) ?_; unfold D133_6)); simp only [S, TY, reduceCtorEq, nq0, nq1, nq2, nq3, nq4, iq0, iq1, iq2, iq3, iq4, iq5, iq6, iq7, iq8]; (try (simp (disch := omega) only [W2, Int.cast_ofNat_Int]; (try simp only [S, TY, reduceCtorEq, nq0, nq1, nq2, nq3, nq4, iq0, iq1, iq2, iq3, iq4, iq5, iq6, iq7, iq8])))))
  refine cl_loop (fun i e H => i ≤ zl.length ∧ e 0 = .slice va zl.length vc ∧ e 1 = .slice wa zl.length wc ∧ e 5 = .int .i64 (i : Nat) ∧ sg G [] H) (fun i : Nat => zl.length - i) 0 ⟨by omega, rfl, rfl, rfl, h⟩ ?_
  clear h
  rintro i e H ⟨q, q0, q1, q5, h⟩
  by_cases g1 : (i : Int) < zl.length
  · have g2 : (0 : Int) ≤ i ∧ (i : Int) < zl.length := ⟨by omega, g1⟩
    have hi : i < zl.length := by omega
    obtain ⟨b, off, hl, rfl, _, d1⟩ := (h.ro k1).el lc_len (i := i) hi (by omega)
    obtain ⟨b', off', hl', rfl, _, d2⟩ := (h.ro k2).el dl_len (i := i) (by omega) (by omega)
    have hu := hb.get i (by simpa using hi) (by simpa using hi)
    simp only [List.getElem_map] at hu d2
    ((try simp only [S, TY, reduceCtorEq, nq0, nq1, nq2, nq3, nq4, iq0, iq1, iq2, iq3, iq4, iq5, iq6, iq7, iq8, q0, q1, q5, g1, g2, d1, d2]); (try (simp (disch := omega) only [W2, Int.cast_ofNat_Int]; (try simp only [S, TY, reduceCtorEq, nq0, nq1, nq2, nq3, nq4, iq0, iq1, iq2, iq3, iq4, iq5, iq6, iq7, iq8, q0, q1, q5, g1, g2, d1, d2]))); repeat ((first | (refine cl_drawi 6 D133_6 (List.range 10) (by decide) (by kernel_rfl) ?_; unfold D133_6)); simp only [S, TY, reduceCtorEq, nq0, nq1, nq2, nq3, nq4, iq0, iq1, iq2, iq3, iq4, iq5, iq6, iq7, iq8, q0, q1, q5, g1, g2, d1, d2]; (try (simp (disch := omega) only [W2, Int.cast_ofNat_Int]; (try simp only [S, TY, reduceCtorEq, nq0, nq1, nq2, nq3, nq4, iq0, iq1, iq2, iq3, iq4, iq5, iq6, iq7, iq8, q0, q1, q5, g1, g2, d1, d2])))))
    refine (Of_ok zl[i].1 hu).at_ h [] _ rfl fun r B H2 hr h2 => ?_
    obtain ⟨rfl, rfl⟩ := hr
    obtain ⟨b3, off3, hl3, hk3, _, d3⟩ := (h2.ro k1).el lc_len (i := i) hi (by omega)
    obtain ⟨b4, off4, hl4, hk4, _, d4⟩ := (h2.ro k2).el dl_len (i := i) (by omega) (by omega)
    cases hk3; cases hk4
    simp only [List.getElem_map] at d4
    ((try simp only [S, TY, reduceCtorEq, nq0, nq1, nq2, nq3, nq4, iq0, iq1, iq2, iq3, iq4, iq5, iq6, iq7, iq8, q0, q1, q5, g1, g2, d1, d2, d3, d4]); (try (simp (disch := omega) only [W2, Int.cast_ofNat_Int]; (try simp only [S, TY, reduceCtorEq, nq0, nq1, nq2, nq3, nq4, iq0, iq1, iq2, iq3, iq4, iq5, iq6, iq7, iq8, q0, q1, q5, g1, g2, d1, d2, d3, d4]))); repeat ((first | (refine cl_drawi 6 D133_6 (List.range 10) (by decide) (by kernel_rfl) ?_; unfold D133_6)); simp only [S, TY, reduceCtorEq, nq0, nq1, nq2, nq3, nq4, iq0, iq1, iq2, iq3, iq4, iq5, iq6, iq7, iq8, q0, q1, q5, g1, g2, d1, d2, d3, d4]; (try (simp (disch := omega) only [W2, Int.cast_ofNat_Int]; (try simp only [S, TY, reduceCtorEq, nq0, nq1, nq2, nq3, nq4, iq0, iq1, iq2, iq3, iq4, iq5, iq6, iq7, iq8, q0, q1, q5, g1, g2, d1, d2, d3, d4])))))
    exact .go (i + 1) (by omega) ⟨by omega, q0, q1, rfl, h2⟩
  · ((try simp only [S, TY, reduceCtorEq, nq0, nq1, nq2, nq3, nq4, iq0, iq1, iq2, iq3, iq4, iq5, iq6, iq7, iq8, q0, q1, q5, g1]); (try (simp (disch := omega) only [W2, Int.cast_ofNat_Int]; (try simp only [S, TY, reduceCtorEq, nq0, nq1, nq2, nq3, nq4, iq0, iq1, iq2, iq3, iq4, iq5, iq6, iq7, iq8, q0, q1, q5, g1]))); repeat ((first | (refine cl_drawi 6 D133_6 (List.range 10) (by decide) (by kernel_rfl) ?_; unfold D133_6)); simp only [S, TY, reduceCtorEq, nq0, nq1, nq2, nq3, nq4, iq0, iq1, iq2, iq3, iq4, iq5, iq6, iq7, iq8, q0, q1, q5, g1]; (try (simp (disch := omega) only [W2, Int.cast_ofNat_Int]; (try simp only [S, TY, reduceCtorEq, nq0, nq1, nq2, nq3, nq4, iq0, iq1, iq2, iq3, iq4, iq5, iq6, iq7, iq8, q0, q1, q5, g1])))))
    exact fin_take (B := []) h ⟨rfl, rfl⟩
abbrev actl (k : Int) (w : Value) (m p a s : Int) (u : Value) : List Value := [.int .u8 k, w, .int .i64 m, .int .i64 p, .int .i64 a, .int .i64 s, u]
theorem step_ok {G : Hp} {a m : Nat} {s : Ses} {k : Int} {w u : Value} {b : List UInt8} (x : Lt) (hb : rds G 1 w (bv b)) (hu : rds G 1 u (bv x.b)) (hw : s.wf) :
    Con Try.prog G 40 [.pointer (some ⟨a, 0, none⟩), .pointer (some ⟨m, 0, none⟩), .agg (actl k w x.m x.p x.a x.s u).toArray] [sS a s, dS m s] (fun r B => r = .bool true ∧ ∃ s' : Ses, s'.wf ∧ B = [sS a s', dS m s']) := by
  have hb0 := hb
  have hu0 := hu
  obtain ⟨wa, wn, wc, rfl, _, _⟩ := hb.slice
  obtain ⟨ua, un, uc, rfl, _, _⟩ := hu.slice
  have hwt := Ses.wf_take hw x
  obtain ⟨xm, xp, xa, xs, xb⟩ := x
  have n8 : ¬ (8 : Int) = 0 := by decide
  simp only at *
  refine Con.intro Try.func40 rfl (Nat.le_of_ble_eq_true (by kernel_rfl)) (by kernel_rfl) Try.results40 ?_
  intro H h
  ((try simp only [S, TY, reduceCtorEq, nq0, nq1, nq2, nq3, nq4, iq0, iq1, iq2, iq3, iq4, iq5, iq6, iq7, iq8]); (try (simp (disch := omega) only [W2, Int.cast_ofNat_Int]; (try simp only [S, TY, reduceCtorEq, nq0, nq1, nq2, nq3, nq4, iq0, iq1, iq2, iq3, iq4, iq5, iq6, iq7, iq8]))))
  intro b5 hb5 hg5
  have h1 := h.new hb5 hg5 (.cells (actl k (.slice wa wn wc) xm xp xa xs (.slice ua un uc)).toArray 85 (0, 0))
  have c1 := h1.c0
  have w1 := h1.li 0 rfl
  by_cases g1 : k.tmod 8 < 3
  · ((try simp only [S, TY, reduceCtorEq, nq0, nq1, nq2, nq3, nq4, iq0, iq1, iq2, iq3, iq4, iq5, iq6, iq7, iq8, c1, n8, g1]); (try (simp (disch := omega) only [W2, Int.cast_ofNat_Int]; (try simp only [S, TY, reduceCtorEq, nq0, nq1, nq2, nq3, nq4, iq0, iq1, iq2, iq3, iq4, iq5, iq6, iq7, iq8, c1, n8, g1]))))
    refine (Push_ok hb0 hw.q).at_ h1 [1] _ rfl fun r B H2 hr h2 => ?_
    obtain ⟨rfl, rfl⟩ := hr
    simp only [front_eq, fronts_nil, fronts_cons, List.getElem?_cons_zero, List.getElem?_cons_succ, List.eraseIdx_cons_zero, List.eraseIdx_cons_succ, List.cons_append, List.nil_append, putL_cons, putL_nil, List.set_cons_zero, List.set_cons_succ, Nat.reduceAdd] at h2
    have c2 := h2.ci 1 rfl
    have s2 := rStr_of (P := Try.prog) (h2.ro hb0)
    ((try simp only [S, TY, reduceCtorEq, nq0, nq1, nq2, nq3, nq4, iq0, iq1, iq2, iq3, iq4, iq5, iq6, iq7, iq8, c2, s2]); (try (simp (disch := omega) only [W2, Int.cast_ofNat_Int]; (try simp only [S, TY, reduceCtorEq, nq0, nq1, nq2, nq3, nq4, iq0, iq1, iq2, iq3, iq4, iq5, iq6, iq7, iq8, c2, s2]))))
    refine (dPush_ok hw.q).at_ h2 [2] _ rfl fun r B H3 hr h3 => ?_
    obtain ⟨rfl, rfl⟩ := hr
    simp only [front_eq, fronts_nil, fronts_cons, List.getElem?_cons_zero, List.getElem?_cons_succ, List.eraseIdx_cons_zero, List.eraseIdx_cons_succ, List.cons_append, List.nil_append, putL_cons, putL_nil, List.set_cons_zero, List.set_cons_succ, Nat.reduceAdd] at h3
    obtain ⟨e, he⟩ : ∃ e, (s.push b).2 = e := ⟨_, rfl⟩
    rw [he]
    ((try simp only [S, TY, reduceCtorEq, nq0, nq1, nq2, nq3, nq4, iq0, iq1, iq2, iq3, iq4, iq5, iq6, iq7, iq8]); (try (simp (disch := omega) only [W2, Int.cast_ofNat_Int]; (try simp only [S, TY, reduceCtorEq, nq0, nq1, nq2, nq3, nq4, iq0, iq1, iq2, iq3, iq4, iq5, iq6, iq7, iq8]))))
    exact fin_take (B := [_, _]) (h3.front 1) ⟨rfl, _, Ses.wf_push hw b, rfl⟩
  · by_cases g2 : k.tmod 8 = 3
    · ((try simp only [S, TY, reduceCtorEq, nq0, nq1, nq2, nq3, nq4, iq0, iq1, iq2, iq3, iq4, iq5, iq6, iq7, iq8, c1, n8, g1, g2]); (try (simp (disch := omega) only [W2, Int.cast_ofNat_Int]; (try simp only [S, TY, reduceCtorEq, nq0, nq1, nq2, nq3, nq4, iq0, iq1, iq2, iq3, iq4, iq5, iq6, iq7, iq8, c1, n8, g1, g2]))))
      refine (Out_ok hw).at_ h1 [1] _ rfl fun r B H2 hr h2 => ?_
      obtain ⟨zl, hz, rfl⟩ := hr
      obtain ⟨ra, rn, rc, rfl, _, _⟩ := h2.sl 0 rfl Rd_own
      simp only [front_eq, fronts_nil, fronts_cons, List.getElem?_cons_zero, List.getElem?_cons_succ, List.eraseIdx_cons_zero, List.eraseIdx_cons_succ, List.cons_append, List.nil_append, putL_cons, putL_nil, List.set_cons_zero, List.set_cons_succ, Nat.reduceAdd] at h2
      ((try simp only [S, TY, reduceCtorEq, nq0, nq1, nq2, nq3, nq4, iq0, iq1, iq2, iq3, iq4, iq5, iq6, iq7, iq8]); (try (simp (disch := omega) only [W2, Int.cast_ofNat_Int]; (try simp only [S, TY, reduceCtorEq, nq0, nq1, nq2, nq3, nq4, iq0, iq1, iq2, iq3, iq4, iq5, iq6, iq7, iq8]))))
      refine (dOut_ok hw).at_ h2 [4] _ rfl fun r B H3 hr h3 => ?_
      subst hr
      obtain ⟨ya, yn, yc, rfl, _, _⟩ := h3.sl 0 rfl Rd_own
      rw [← hz] at h3
      simp only [front_eq, fronts_nil, fronts_cons, List.getElem?_cons_zero, List.getElem?_cons_succ, List.eraseIdx_cons_zero, List.eraseIdx_cons_succ, List.cons_append, List.nil_append, putL_cons, putL_nil, List.set_cons_zero, List.set_cons_succ, Nat.reduceAdd] at h3
      have hzn : zl.length ≤ 1000 := by
        have := congrArg List.length hz
        rw [List.length_map] at this
        have hq := hw.q
        unfold Ses.out outN at this
        split at this
        · simp at this; omega
        · simp at this; omega
      ((try simp only [S, TY, reduceCtorEq, nq0, nq1, nq2, nq3, nq4, iq0, iq1, iq2, iq3, iq4, iq5, iq6, iq7, iq8]); (try (simp (disch := omega) only [W2, Int.cast_ofNat_Int]; (try simp only [S, TY, reduceCtorEq, nq0, nq1, nq2, nq3, nq4, iq0, iq1, iq2, iq3, iq4, iq5, iq6, iq7, iq8]))))
      refine Con.lend_at [] [own 62 5 (.slice ra rn rc) (zl.flatMap lc), own 65 5 (.slice ya yn yc) ((zl.map (·.1)).flatMap dl), blobs (zl.map (·.2)) (zl.map (·.1.b))] h3 [2, 0, 1] rfl
        (fun F hF hs => letters_ok (seps_own hs 0 rfl).left (seps_own hs 1 rfl).left ((seps_blob hs 2 rfl).mono un_le_l) hzn) fun r B H4 hr h4 => ?_
      obtain ⟨rfl, rfl⟩ := hr
      simp only [front_eq, fronts_nil, fronts_cons, List.getElem?_cons_zero, List.getElem?_cons_succ, List.eraseIdx_cons_zero, List.eraseIdx_cons_succ, List.cons_append, List.nil_append, putL_cons, putL_nil, List.set_cons_zero, List.set_cons_succ, Nat.reduceAdd] at h4
      ((try simp only [S, TY, reduceCtorEq, nq0, nq1, nq2, nq3, nq4, iq0, iq1, iq2, iq3, iq4, iq5, iq6, iq7, iq8]); (try (simp (disch := omega) only [W2, Int.cast_ofNat_Int]; (try simp only [S, TY, reduceCtorEq, nq0, nq1, nq2, nq3, nq4, iq0, iq1, iq2, iq3, iq4, iq5, iq6, iq7, iq8]))))
      exact fin_take (B := [_, _]) (h4.fronts [4, 3]) ⟨rfl, s, hw, rfl⟩
    · ((try simp only [S, TY, reduceCtorEq, nq0, nq1, nq2, nq3, nq4, iq0, iq1, iq2, iq3, iq4, iq5, iq6, iq7, iq8, c1, n8, g1, g2, w1]); (try (simp (disch := omega) only [W2, Int.cast_ofNat_Int]; (try simp only [S, TY, reduceCtorEq, nq0, nq1, nq2, nq3, nq4, iq0, iq1, iq2, iq3, iq4, iq5, iq6, iq7, iq8, c1, n8, g1, g2, w1]))))
      refine (Take_ok ⟨xm, xp, xa, xs, xb⟩ hu0 hw).at_ h1 [1] _ rfl fun r B H2 hr h2 => ?_
      obtain ⟨v, rfl, rfl⟩ := hr
      obtain ⟨res, hres⟩ : ∃ r, s.take ⟨xm, xp, xa, xs, xb⟩ = r := ⟨_, rfl⟩
      rw [hres] at h2 hwt ⊢
      obtain ⟨s', ⟨tb, tg, tr⟩, te⟩ := res
      simp only at h2 hwt ⊢
      obtain ⟨va, vn, vc, rfl, _, _⟩ := h2.sl 0 rfl Rd_own
      simp only [front_eq, fronts_nil, fronts_cons, List.getElem?_cons_zero, List.getElem?_cons_succ, List.eraseIdx_cons_zero, List.eraseIdx_cons_succ, List.cons_append, List.nil_append, putL_cons, putL_nil, List.set_cons_zero, List.set_cons_succ, Nat.reduceAdd] at h2
      ((try simp only [S, TY, reduceCtorEq, nq0, nq1, nq2, nq3, nq4, iq0, iq1, iq2, iq3, iq4, iq5, iq6, iq7, iq8]); (try (simp (disch := omega) only [W2, Int.cast_ofNat_Int]; (try simp only [S, TY, reduceCtorEq, nq0, nq1, nq2, nq3, nq4, iq0, iq1, iq2, iq3, iq4, iq5, iq6, iq7, iq8]))))
      intro b8 hb8 hg8
      have h3 := h2.new hb8 hg8 (.cells (tkl (.slice none 0 0) false false).toArray 91 (0, 0))
      ((try simp only [S, TY, reduceCtorEq, nq0, nq1, nq2, nq3, nq4, iq0, iq1, iq2, iq3, iq4, iq5, iq6, iq7, iq8]); (try (simp (disch := omega) only [W2, Int.cast_ofNat_Int]; (try simp only [S, TY, reduceCtorEq, nq0, nq1, nq2, nq3, nq4, iq0, iq1, iq2, iq3, iq4, iq5, iq6, iq7, iq8]))))
      refine sg.st h3 rfl rfl fun H4 h4 => ?_
      simp only [front_eq, fronts_nil, fronts_cons, List.getElem?_cons_zero, List.getElem?_cons_succ, List.eraseIdx_cons_zero, List.eraseIdx_cons_succ, List.cons_append, List.nil_append, putL_cons, putL_nil, List.set_cons_zero, List.set_cons_succ, Nat.reduceAdd] at h4
      have w4 := h4.li 3 rfl
      ((try simp only [S, TY, reduceCtorEq, nq0, nq1, nq2, nq3, nq4, iq0, iq1, iq2, iq3, iq4, iq5, iq6, iq7, iq8, w4]); (try (simp (disch := omega) only [W2, Int.cast_ofNat_Int]; (try simp only [S, TY, reduceCtorEq, nq0, nq1, nq2, nq3, nq4, iq0, iq1, iq2, iq3, iq4, iq5, iq6, iq7, iq8, w4]))))
      refine (Of_ok ⟨xm, xp, xa, xs, xb⟩ hu0).at_ h4 [] _ rfl fun r B H5 hr h5 => ?_
      obtain ⟨rfl, rfl⟩ := hr
      ((try simp only [S, TY, reduceCtorEq, nq0, nq1, nq2, nq3, nq4, iq0, iq1, iq2, iq3, iq4, iq5, iq6, iq7, iq8]); (try (simp (disch := omega) only [W2, Int.cast_ofNat_Int]; (try simp only [S, TY, reduceCtorEq, nq0, nq1, nq2, nq3, nq4, iq0, iq1, iq2, iq3, iq4, iq5, iq6, iq7, iq8]))))
      refine (dTake_ok ⟨xm, xp, xa, xs, xb⟩ hw).at_ h5 [4] _ rfl fun r B H6 hr h6 => ?_
      obtain ⟨rfl, rfl⟩ := hr
      rw [hres] at h6 ⊢
      simp only at h6 ⊢
      simp only [front_eq, fronts_nil, fronts_cons, List.getElem?_cons_zero, List.getElem?_cons_succ, List.eraseIdx_cons_zero, List.eraseIdx_cons_succ, List.cons_append, List.nil_append, putL_cons, putL_nil, List.set_cons_zero, List.set_cons_succ, Nat.reduceAdd] at h6
      ((try simp only [S, TY, reduceCtorEq, nq0, nq1, nq2, nq3, nq4, iq0, iq1, iq2, iq3, iq4, iq5, iq6, iq7, iq8]); (try (simp (disch := omega) only [W2, Int.cast_ofNat_Int]; (try simp only [S, TY, reduceCtorEq, nq0, nq1, nq2, nq3, nq4, iq0, iq1, iq2, iq3, iq4, iq5, iq6, iq7, iq8]))))
      intro b10 hb10 hg10
      have h7 := h6.new hb10 hg10 (.cells (dtz false).toArray 246 (0, 0))
      ((try simp only [S, TY, reduceCtorEq, nq0, nq1, nq2, nq3, nq4, iq0, iq1, iq2, iq3, iq4, iq5, iq6, iq7, iq8]); (try (simp (disch := omega) only [W2, Int.cast_ofNat_Int]; (try simp only [S, TY, reduceCtorEq, nq0, nq1, nq2, nq3, nq4, iq0, iq1, iq2, iq3, iq4, iq5, iq6, iq7, iq8]))))
      refine sg.st h7 rfl rfl fun H8 h8 => ?_
      simp only [front_eq, fronts_nil, fronts_cons, List.getElem?_cons_zero, List.getElem?_cons_succ, List.eraseIdx_cons_zero, List.eraseIdx_cons_succ, List.cons_append, List.nil_append, putL_cons, putL_nil, List.set_cons_zero, List.set_cons_succ, Nat.reduceAdd] at h8
      have c8 := h8.c0
      have d8 := h8.ci 2 rfl
      have s8 := rStr_of (P := Try.prog) (h8.rdsi 3 rfl Rd_own)
      ((try simp only [S, TY, reduceCtorEq, nq0, nq1, nq2, nq3, nq4, iq0, iq1, iq2, iq3, iq4, iq5, iq6, iq7, iq8, c8, d8, s8]); (try (simp (disch := omega) only [W2, Int.cast_ofNat_Int]; (try simp only [S, TY, reduceCtorEq, nq0, nq1, nq2, nq3, nq4, iq0, iq1, iq2, iq3, iq4, iq5, iq6, iq7, iq8, c8, d8, s8]))))
      exact fin_take (B := [_, _]) (h8.fronts [4, 1]) ⟨rfl, s', hwt, rfl⟩
theorem Take_nil {G : Hp} (x : Lt) (u : Value) : Con Try.prog G 43 [.pointer none, Lt.v x u] [] (fun r B => r = .tuple #[.agg (tkl (.slice none 0 0) false false).toArray, .int .i64 1] ∧ B = []) := by
  obtain ⟨xm, xp, xa, xs, xb⟩ := x
  simp only [Lt.v]
  refine Con.intro Try.func43 rfl (Nat.le_of_ble_eq_true (by kernel_rfl)) (by kernel_rfl) Try.results43 ?_
  intro H h
  ((try simp only [S, TY, reduceCtorEq, nq0, nq1, nq2, nq3, nq4, iq0, iq1, iq2, iq3, iq4, iq5, iq6, iq7, iq8]); (try (simp (disch := omega) only [W2, Int.cast_ofNat_Int]; (try simp only [S, TY, reduceCtorEq, nq0, nq1, nq2, nq3, nq4, iq0, iq1, iq2, iq3, iq4, iq5, iq6, iq7, iq8]))); repeat ((first | (refine cl_drawi 3 D43_3 (List.range 8) (by decide) (by kernel_rfl) ?_; unfold D43_3) | (refine cl_drawi 5 D43_5 (List.range 10) (by decide) (by kernel_rfl) ?_; unfold D43_5) | (refine cl_drawi 8 D43_8 (List.range 7) (by decide) (by kernel_rfl) ?_; unfold D43_8) | (refine cl_drawi 10 D43_10 (List.range 15) (by decide) (by kernel_rfl) ?_; unfold D43_10) | (refine cl_drawi 11 D43_11 ([0, 14, 1, 2, 3, 4, 5, 6, 7, 8, 9, 10, 11, 12, 13, 15, 16, 17]) (by decide) (by kernel_rfl) ?_; unfold D43_11) | (refine cl_drawi 12 D43_12 (List.range 8) (by decide) (by kernel_rfl) ?_; unfold D43_12)); simp only [S, TY, reduceCtorEq, nq0, nq1, nq2, nq3, nq4, iq0, iq1, iq2, iq3, iq4, iq5, iq6, iq7, iq8]; (try (simp (disch := omega) only [W2, Int.cast_ofNat_Int]; (try simp only [S, TY, reduceCtorEq, nq0, nq1, nq2, nq3, nq4, iq0, iq1, iq2, iq3, iq4, iq5, iq6, iq7, iq8])))))
  intro b3 hb3 hg3
  have h1 := h.new hb3 hg3 (.cells (ltl xm xp xa xs u).toArray 62 (0, 0))
  ((try simp only [S, TY, reduceCtorEq, nq0, nq1, nq2, nq3, nq4, iq0, iq1, iq2, iq3, iq4, iq5, iq6, iq7, iq8]); (try (simp (disch := omega) only [W2, Int.cast_ofNat_Int]; (try simp only [S, TY, reduceCtorEq, nq0, nq1, nq2, nq3, nq4, iq0, iq1, iq2, iq3, iq4, iq5, iq6, iq7, iq8]))); repeat ((first | (refine cl_drawi 3 D43_3 (List.range 8) (by decide) (by kernel_rfl) ?_; unfold D43_3) | (refine cl_drawi 5 D43_5 (List.range 10) (by decide) (by kernel_rfl) ?_; unfold D43_5) | (refine cl_drawi 8 D43_8 (List.range 7) (by decide) (by kernel_rfl) ?_; unfold D43_8) | (refine cl_drawi 10 D43_10 (List.range 15) (by decide) (by kernel_rfl) ?_; unfold D43_10) | (refine cl_drawi 11 D43_11 ([0, 14, 1, 2, 3, 4, 5, 6, 7, 8, 9, 10, 11, 12, 13, 15, 16, 17]) (by decide) (by kernel_rfl) ?_; unfold D43_11) | (refine cl_drawi 12 D43_12 (List.range 8) (by decide) (by kernel_rfl) ?_; unfold D43_12)); simp only [S, TY, reduceCtorEq, nq0, nq1, nq2, nq3, nq4, iq0, iq1, iq2, iq3, iq4, iq5, iq6, iq7, iq8]; (try (simp (disch := omega) only [W2, Int.cast_ofNat_Int]; (try simp only [S, TY, reduceCtorEq, nq0, nq1, nq2, nq3, nq4, iq0, iq1, iq2, iq3, iq4, iq5, iq6, iq7, iq8])))))
  intro b4 hb4 hg4
  have h2 := h1.new hb4 hg4 (.cells (tkl (.slice none 0 0) false false).toArray 91 (0, 0))
  ((try simp only [S, TY, reduceCtorEq, nq0, nq1, nq2, nq3, nq4, iq0, iq1, iq2, iq3, iq4, iq5, iq6, iq7, iq8]); (try (simp (disch := omega) only [W2, Int.cast_ofNat_Int]; (try simp only [S, TY, reduceCtorEq, nq0, nq1, nq2, nq3, nq4, iq0, iq1, iq2, iq3, iq4, iq5, iq6, iq7, iq8]))); repeat ((first | (refine cl_drawi 3 D43_3 (List.range 8) (by decide) (by kernel_rfl) ?_; unfold D43_3) | (refine cl_drawi 5 D43_5 (List.range 10) (by decide) (by kernel_rfl) ?_; unfold D43_5) | (refine cl_drawi 8 D43_8 (List.range 7) (by decide) (by kernel_rfl) ?_; unfold D43_8) | (refine cl_drawi 10 D43_10 (List.range 15) (by decide) (by kernel_rfl) ?_; unfold D43_10) | (refine cl_drawi 11 D43_11 ([0, 14, 1, 2, 3, 4, 5, 6, 7, 8, 9, 10, 11, 12, 13, 15, 16, 17]) (by decide) (by kernel_rfl) ?_; unfold D43_11) | (refine cl_drawi 12 D43_12 (List.range 8) (by decide) (by kernel_rfl) ?_; unfold D43_12)); simp only [S, TY, reduceCtorEq, nq0, nq1, nq2, nq3, nq4, iq0, iq1, iq2, iq3, iq4, iq5, iq6, iq7, iq8]; (try (simp (disch := omega) only [W2, Int.cast_ofNat_Int]; (try simp only [S, TY, reduceCtorEq, nq0, nq1, nq2, nq3, nq4, iq0, iq1, iq2, iq3, iq4, iq5, iq6, iq7, iq8])))))
  refine sg.st h2 rfl rfl fun H3 h3 => ?_
  simp only [front_eq, fronts_nil, fronts_cons, List.getElem?_cons_zero, List.getElem?_cons_succ, List.eraseIdx_cons_zero, List.eraseIdx_cons_succ, List.cons_append, List.nil_append, putL_cons, putL_nil, List.set_cons_zero, List.set_cons_succ, Nat.reduceAdd] at h3
  have w3 := h3.li 0 rfl
  ((try simp only [S, TY, reduceCtorEq, nq0, nq1, nq2, nq3, nq4, iq0, iq1, iq2, iq3, iq4, iq5, iq6, iq7, iq8, w3]); (try (simp (disch := omega) only [W2, Int.cast_ofNat_Int]; (try simp only [S, TY, reduceCtorEq, nq0, nq1, nq2, nq3, nq4, iq0, iq1, iq2, iq3, iq4, iq5, iq6, iq7, iq8, w3]))); repeat ((first | (refine cl_drawi 3 D43_3 (List.range 8) (by decide) (by kernel_rfl) ?_; unfold D43_3) | (refine cl_drawi 5 D43_5 (List.range 10) (by decide) (by kernel_rfl) ?_; unfold D43_5) | (refine cl_drawi 8 D43_8 (List.range 7) (by decide) (by kernel_rfl) ?_; unfold D43_8) | (refine cl_drawi 10 D43_10 (List.range 15) (by decide) (by kernel_rfl) ?_; unfold D43_10) | (refine cl_drawi 11 D43_11 ([0, 14, 1, 2, 3, 4, 5, 6, 7, 8, 9, 10, 11, 12, 13, 15, 16, 17]) (by decide) (by kernel_rfl) ?_; unfold D43_11) | (refine cl_drawi 12 D43_12 (List.range 8) (by decide) (by kernel_rfl) ?_; unfold D43_12)); simp only [S, TY, reduceCtorEq, nq0, nq1, nq2, nq3, nq4, iq0, iq1, iq2, iq3, iq4, iq5, iq6, iq7, iq8, w3]; (try (simp (disch := omega) only [W2, Int.cast_ofNat_Int]; (try simp only [S, TY, reduceCtorEq, nq0, nq1, nq2, nq3, nq4, iq0, iq1, iq2, iq3, iq4, iq5, iq6, iq7, iq8, w3])))))
  exact fin_take (B := []) h3 ⟨rfl, rfl⟩
abbrev LT : Ty := .st (.pr (.int .i64) (.pr (.int .i64) (.pr (.int .i64) (.pr (.int .i64) (.pr .bytes .un)))))
abbrev AT : Ty := .st (.pr (.int .u8) (.pr .bytes (.pr LT .un)))
abbrev Acts (G : Hp) (v : Value) (l : List AT.den) : Prop := rdl G 7 (AT.R G) v l
theorem act_l {G : Hp} {cs : List Value} {y : AT.den} (h : AT.R G cs y) : ∃ (k : Int) (w : Value) (b : List UInt8) (x : Lt) (u : Value), cs = actl k w x.m x.p x.a x.s u ∧ rds G 1 w (bv b) ∧ rds G 1 u (bv x.b) := by
  obtain ⟨_, _, rfl, -, ⟨rfl, -⟩, _, _, rfl, -, ⟨w, rfl, hb⟩, _, _, rfl, -, ⟨_, _, rfl, _, ⟨rfl, _⟩, _, _, rfl, _, ⟨rfl, _⟩, _, _, rfl, _, ⟨rfl, _⟩, _, _, rfl, _, ⟨rfl, _⟩, _, _, rfl, _, ⟨u, rfl, hu⟩, rfl⟩, rfl⟩ := h
  exact ⟨y.1, w, y.2.1, ⟨y.2.2.1.1, y.2.2.1.2.1, y.2.2.1.2.2.1, y.2.2.1.2.2.2.1, y.2.2.1.2.2.2.2.1⟩, u, rfl, hb, hu⟩
theorem fits {G : Hp} {v : Value} {l : List AT.den} (hv : Acts G v l) : Con Try.prog G 37 [v] [] (fun r B => ∃ b : Bool, r = .bool b ∧ B = [] ∧ (b = true → l.length ≤ 120)) := by
  refine Con.intro Try.func37 rfl (Nat.le_of_ble_eq_true (by kernel_rfl)) (by kernel_rfl) Try.results37 ?_
  intro H hH
  obtain ⟨a, n, c, rfl, e1, e2⟩ := hv.shape (by decide)
  ((try simp only [S, TY, reduceCtorEq, nq0, nq1, nq2, nq3, nq4, iq0, iq1, iq2, iq3, iq4, iq5, iq6, iq7, iq8]); (try (simp (disch := omega) only [W2, Int.cast_ofNat_Int]; (try simp only [S, TY, reduceCtorEq, nq0, nq1, nq2, nq3, nq4, iq0, iq1, iq2, iq3, iq4, iq5, iq6, iq7, iq8]))))
  refine cl_loop (fun i e H => i ≤ n ∧ i ≤ 121 ∧ e 0 = .slice a n c ∧ e 3 = .int .i64 (i : Nat) ∧ sg G [] H) (fun i : Nat => n - i) 0
    ⟨by omega, by omega, rfl, rfl, hH⟩ ?_
  rintro i e H ⟨q1, q2, q3, q4, hH⟩
  by_cases g1 : (i : Int) < n
  · by_cases g2 : (i : Int) ≤ 120
    · obtain ⟨b, off, cs, hl, rfl, hQ, _, hc, _⟩ := (hH.rol hv).at (by decide) (i := i) (by omega)
      obtain ⟨k, w, b', x, u, rfl, hb, hu⟩ := act_l hQ
      obtain ⟨wa, wn, wc, rfl, _, _⟩ := hb.slice
      obtain ⟨ua, un, uc, rfl, _, _⟩ := hu.slice
      have d1 := hc 1 (by decide)
      have d6 := hc 6 (by decide)
      simp only [List.getElem?_cons_zero, List.getElem?_cons_succ] at d1 d6
      have g0 : (0 : Int) ≤ i ∧ (i : Int) < n := ⟨by omega, g1⟩
      by_cases g3 : (2000 : Int) < wn
      · ((try simp only [S, TY, reduceCtorEq, nq0, nq1, nq2, nq3, nq4, iq0, iq1, iq2, iq3, iq4, iq5, iq6, iq7, iq8, q3, q4, g1, g2, g0, d1, d6, g3]); (try (simp (disch := omega) only [W2, Int.cast_ofNat_Int]; (try simp only [S, TY, reduceCtorEq, nq0, nq1, nq2, nq3, nq4, iq0, iq1, iq2, iq3, iq4, iq5, iq6, iq7, iq8, q3, q4, g1, g2, g0, d1, d6, g3]))))
        exact fin_ret hH ⟨false, rfl, rfl, fun h => by cases h⟩
      · by_cases g4 : (2000 : Int) < un
        · ((try simp only [S, TY, reduceCtorEq, nq0, nq1, nq2, nq3, nq4, iq0, iq1, iq2, iq3, iq4, iq5, iq6, iq7, iq8, q3, q4, g1, g2, g0, d1, d6, g3, g4]); (try (simp (disch := omega) only [W2, Int.cast_ofNat_Int]; (try simp only [S, TY, reduceCtorEq, nq0, nq1, nq2, nq3, nq4, iq0, iq1, iq2, iq3, iq4, iq5, iq6, iq7, iq8, q3, q4, g1, g2, g0, d1, d6, g3, g4]))))
          exact fin_ret hH ⟨false, rfl, rfl, fun h => by cases h⟩
        · ((try simp only [S, TY, reduceCtorEq, nq0, nq1, nq2, nq3, nq4, iq0, iq1, iq2, iq3, iq4, iq5, iq6, iq7, iq8, q3, q4, g1, g2, g0, d1, d6, g3, g4]); (try (simp (disch := omega) only [W2, Int.cast_ofNat_Int]; (try simp only [S, TY, reduceCtorEq, nq0, nq1, nq2, nq3, nq4, iq0, iq1, iq2, iq3, iq4, iq5, iq6, iq7, iq8, q3, q4, g1, g2, g0, d1, d6, g3, g4]))))
          exact .go (i + 1) (by omega) ⟨by omega, by omega, q3, rfl, hH⟩
    · have g3 : ¬ (n : Int) ≤ 120 := by omega
      ((try simp only [S, TY, reduceCtorEq, nq0, nq1, nq2, nq3, nq4, iq0, iq1, iq2, iq3, iq4, iq5, iq6, iq7, iq8, q3, q4, g1, g2, g3]); (try (simp (disch := omega) only [W2, Int.cast_ofNat_Int]; (try simp only [S, TY, reduceCtorEq, nq0, nq1, nq2, nq3, nq4, iq0, iq1, iq2, iq3, iq4, iq5, iq6, iq7, iq8, q3, q4, g1, g2, g3]))))
      exact fin_ret hH ⟨false, rfl, rfl, fun h => by cases h⟩
  · by_cases g3 : (n : Int) ≤ 120
    · ((try simp only [S, TY, reduceCtorEq, nq0, nq1, nq2, nq3, nq4, iq0, iq1, iq2, iq3, iq4, iq5, iq6, iq7, iq8, q3, q4, g1, g3]); (try (simp (disch := omega) only [W2, Int.cast_ofNat_Int]; (try simp only [S, TY, reduceCtorEq, nq0, nq1, nq2, nq3, nq4, iq0, iq1, iq2, iq3, iq4, iq5, iq6, iq7, iq8, q3, q4, g1, g3]))))
      exact fin_ret hH ⟨_, rfl, rfl, fun _ => by omega⟩
    · ((try simp only [S, TY, reduceCtorEq, nq0, nq1, nq2, nq3, nq4, iq0, iq1, iq2, iq3, iq4, iq5, iq6, iq7, iq8, q3, q4, g1, g3]); (try (simp (disch := omega) only [W2, Int.cast_ofNat_Int]; (try simp only [S, TY, reduceCtorEq, nq0, nq1, nq2, nq3, nq4, iq0, iq1, iq2, iq3, iq4, iq5, iq6, iq7, iq8, q3, q4, g1, g3]))))
      exact fin_ret hH ⟨false, rfl, rfl, fun h => by cases h⟩
theorem playsLaw {G : Hp} (mine : Int) {v : Value} {l : List AT.den} (hv : Acts G v l) : Con Try.prog G 6 [.int .i64 mine, v] [] (fun r B => r = .bool true ∧ B = []) := by
  have hv0 := hv
  obtain ⟨a, n, c, rfl, e1, e2⟩ := hv.shape (by decide)
  refine Con.intro Try.func6 rfl (Nat.le_of_ble_eq_true (by kernel_rfl)) (by kernel_rfl) Try.results6 ?_
  intro H hH
  ((try simp only [S, TY, reduceCtorEq, nq0, nq1, nq2, nq3, nq4, iq0, iq1, iq2, iq3, iq4, iq5, iq6, iq7, iq8]); (try (simp (disch := omega) only [W2, Int.cast_ofNat_Int]; (try simp only [S, TY, reduceCtorEq, nq0, nq1, nq2, nq3, nq4, iq0, iq1, iq2, iq3, iq4, iq5, iq6, iq7, iq8]))); repeat ((first | (refine cl_drawi 14 D6_14 (List.range 21) (by decide) (by kernel_rfl) ?_; unfold D6_14)); simp only [S, TY, reduceCtorEq, nq0, nq1, nq2, nq3, nq4, iq0, iq1, iq2, iq3, iq4, iq5, iq6, iq7, iq8]; (try (simp (disch := omega) only [W2, Int.cast_ofNat_Int]; (try simp only [S, TY, reduceCtorEq, nq0, nq1, nq2, nq3, nq4, iq0, iq1, iq2, iq3, iq4, iq5, iq6, iq7, iq8])))))
  refine (fits hv0).at_ hH [] _ rfl fun r B H1 hr h1 => ?_
  obtain ⟨ok, rfl, rfl, hok⟩ := hr
  cases ok with
  | false =>
    ((try simp only [S, TY, reduceCtorEq, nq0, nq1, nq2, nq3, nq4, iq0, iq1, iq2, iq3, iq4, iq5, iq6, iq7, iq8]); (try (simp (disch := omega) only [W2, Int.cast_ofNat_Int]; (try simp only [S, TY, reduceCtorEq, nq0, nq1, nq2, nq3, nq4, iq0, iq1, iq2, iq3, iq4, iq5, iq6, iq7, iq8]))); repeat ((first | (refine cl_drawi 14 D6_14 (List.range 21) (by decide) (by kernel_rfl) ?_; unfold D6_14)); simp only [S, TY, reduceCtorEq, nq0, nq1, nq2, nq3, nq4, iq0, iq1, iq2, iq3, iq4, iq5, iq6, iq7, iq8]; (try (simp (disch := omega) only [W2, Int.cast_ofNat_Int]; (try simp only [S, TY, reduceCtorEq, nq0, nq1, nq2, nq3, nq4, iq0, iq1, iq2, iq3, iq4, iq5, iq6, iq7, iq8])))))
    refine alive.at_ h1 [] _ rfl fun r B H2 hr h2 => ?_
    obtain ⟨rfl, rfl⟩ := hr
    ((try simp only [S, TY, reduceCtorEq, nq0, nq1, nq2, nq3, nq4, iq0, iq1, iq2, iq3, iq4, iq5, iq6, iq7, iq8]); (try (simp (disch := omega) only [W2, Int.cast_ofNat_Int]; (try simp only [S, TY, reduceCtorEq, nq0, nq1, nq2, nq3, nq4, iq0, iq1, iq2, iq3, iq4, iq5, iq6, iq7, iq8]))); repeat ((first | (refine cl_drawi 14 D6_14 (List.range 21) (by decide) (by kernel_rfl) ?_; unfold D6_14)); simp only [S, TY, reduceCtorEq, nq0, nq1, nq2, nq3, nq4, iq0, iq1, iq2, iq3, iq4, iq5, iq6, iq7, iq8]; (try (simp (disch := omega) only [W2, Int.cast_ofNat_Int]; (try simp only [S, TY, reduceCtorEq, nq0, nq1, nq2, nq3, nq4, iq0, iq1, iq2, iq3, iq4, iq5, iq6, iq7, iq8])))))
    exact fin_take (B := []) h2 ⟨rfl, rfl⟩
  | true =>
    have hn := hok rfl
    ((try simp only [S, TY, reduceCtorEq, nq0, nq1, nq2, nq3, nq4, iq0, iq1, iq2, iq3, iq4, iq5, iq6, iq7, iq8]); (try (simp (disch := omega) only [W2, Int.cast_ofNat_Int]; (try simp only [S, TY, reduceCtorEq, nq0, nq1, nq2, nq3, nq4, iq0, iq1, iq2, iq3, iq4, iq5, iq6, iq7, iq8]))); repeat ((first | (refine cl_drawi 14 D6_14 (List.range 21) (by decide) (by kernel_rfl) ?_; unfold D6_14)); simp only [S, TY, reduceCtorEq, nq0, nq1, nq2, nq3, nq4, iq0, iq1, iq2, iq3, iq4, iq5, iq6, iq7, iq8]; (try (simp (disch := omega) only [W2, Int.cast_ofNat_Int]; (try simp only [S, TY, reduceCtorEq, nq0, nq1, nq2, nq3, nq4, iq0, iq1, iq2, iq3, iq4, iq5, iq6, iq7, iq8])))))
    by_cases gl : 1 ≤ mine ∧ mine ≤ 4294967296
    · refine (New_ok mine gl).at_ h1 [] _ rfl fun r B H2 hr h2 => ?_
      obtain ⟨p, rfl, rfl⟩ := hr
      have g1 : ¬ mine < 1 := by omega
      have g2 : ¬ (4294967296 : Int) < mine := by omega
      ((try simp only [S, TY, reduceCtorEq, nq0, nq1, nq2, nq3, nq4, iq0, iq1, iq2, iq3, iq4, iq5, iq6, iq7, iq8, g1, g2]); (try (simp (disch := omega) only [W2, Int.cast_ofNat_Int]; (try simp only [S, TY, reduceCtorEq, nq0, nq1, nq2, nq3, nq4, iq0, iq1, iq2, iq3, iq4, iq5, iq6, iq7, iq8, g1, g2]))); repeat ((first | (refine cl_drawi 14 D6_14 (List.range 21) (by decide) (by kernel_rfl) ?_; unfold D6_14)); simp only [S, TY, reduceCtorEq, nq0, nq1, nq2, nq3, nq4, iq0, iq1, iq2, iq3, iq4, iq5, iq6, iq7, iq8, g1, g2]; (try (simp (disch := omega) only [W2, Int.cast_ofNat_Int]; (try simp only [S, TY, reduceCtorEq, nq0, nq1, nq2, nq3, nq4, iq0, iq1, iq2, iq3, iq4, iq5, iq6, iq7, iq8, g1, g2])))))
      refine (Begin_ok mine).at_ h2 [] _ rfl fun r B H3 hr h3 => ?_
      obtain ⟨m, rfl, rfl⟩ := hr
      simp only [front_eq, fronts_nil, fronts_cons, List.getElem?_cons_zero, List.getElem?_cons_succ, List.eraseIdx_cons_zero, List.eraseIdx_cons_succ, List.cons_append, List.nil_append, putL_cons, putL_nil, List.set_cons_zero, List.set_cons_succ, Nat.reduceAdd] at h3
      ((try simp only [S, TY, reduceCtorEq, nq0, nq1, nq2, nq3, nq4, iq0, iq1, iq2, iq3, iq4, iq5, iq6, iq7, iq8, g1, g2]); (try (simp (disch := omega) only [W2, Int.cast_ofNat_Int]; (try simp only [S, TY, reduceCtorEq, nq0, nq1, nq2, nq3, nq4, iq0, iq1, iq2, iq3, iq4, iq5, iq6, iq7, iq8, g1, g2]))); repeat ((first | (refine cl_drawi 14 D6_14 (List.range 21) (by decide) (by kernel_rfl) ?_; unfold D6_14)); simp only [S, TY, reduceCtorEq, nq0, nq1, nq2, nq3, nq4, iq0, iq1, iq2, iq3, iq4, iq5, iq6, iq7, iq8, g1, g2]; (try (simp (disch := omega) only [W2, Int.cast_ofNat_Int]; (try simp only [S, TY, reduceCtorEq, nq0, nq1, nq2, nq3, nq4, iq0, iq1, iq2, iq3, iq4, iq5, iq6, iq7, iq8, g1, g2])))))
      refine cl_loop (fun i e H => i ≤ n ∧ e 1 = .slice a n c ∧ e 6 = .pointer (some ⟨p, 0, none⟩) ∧ e 8 = .pointer (some ⟨m, 0, none⟩) ∧ e 9 = .int .i64 (i : Nat) ∧ ∃ s : Ses, s.wf ∧ sg G [sS p s, dS m s] H) (fun i : Nat => n - i) 0
        ⟨by omega, rfl, rfl, rfl, rfl, Ses.new mine, Ses.wf_new gl, h3.front 1⟩ ?_
      clear h1 h2 h3
      rintro i e H ⟨q, q1, q6, q8, q9, s, hw, h⟩
      by_cases g3 : (i : Int) < n
      · obtain ⟨b, off, cs, hl, rfl, hQ, _, hc, hld⟩ := hv0.at (by decide) (i := i) (by omega)
        obtain ⟨k, w, b', x, u, rfl, hb, hu⟩ := act_l hQ
        have g0 : (0 : Int) ≤ i ∧ (i : Int) < n := ⟨by omega, g3⟩
        have el := h.rold hld
        ((try simp only [S, TY, reduceCtorEq, nq0, nq1, nq2, nq3, nq4, iq0, iq1, iq2, iq3, iq4, iq5, iq6, iq7, iq8, q1, q6, q8, q9, g0, g3, el]); (try (simp (disch := omega) only [W2, Int.cast_ofNat_Int]; (try simp only [S, TY, reduceCtorEq, nq0, nq1, nq2, nq3, nq4, iq0, iq1, iq2, iq3, iq4, iq5, iq6, iq7, iq8, q1, q6, q8, q9, g0, g3, el]))); repeat ((first | (refine cl_drawi 14 D6_14 (List.range 21) (by decide) (by kernel_rfl) ?_; unfold D6_14)); simp only [S, TY, reduceCtorEq, nq0, nq1, nq2, nq3, nq4, iq0, iq1, iq2, iq3, iq4, iq5, iq6, iq7, iq8, q1, q6, q8, q9, g0, g3, el]; (try (simp (disch := omega) only [W2, Int.cast_ofNat_Int]; (try simp only [S, TY, reduceCtorEq, nq0, nq1, nq2, nq3, nq4, iq0, iq1, iq2, iq3, iq4, iq5, iq6, iq7, iq8, q1, q6, q8, q9, g0, g3, el])))))
        refine (step_ok x hb hu hw).at_ h [0, 0] _ rfl fun r B H2 hr h2 => ?_
        obtain ⟨rfl, s', hw', rfl⟩ := hr
        obtain ⟨va, vc, _, h3⟩ := dS_open (h2.front 1)
        simp only [front_eq, fronts_nil, fronts_cons, List.getElem?_cons_zero, List.getElem?_cons_succ, List.eraseIdx_cons_zero, List.eraseIdx_cons_succ, List.cons_append, List.nil_append, putL_cons, putL_nil, List.set_cons_zero, List.set_cons_succ, Nat.reduceAdd] at h3
        have c3 := h3.c0
        ((try simp only [S, TY, reduceCtorEq, nq0, nq1, nq2, nq3, nq4, iq0, iq1, iq2, iq3, iq4, iq5, iq6, iq7, iq8, q1, q6, q8, q9, c3]); (try (simp (disch := omega) only [W2, Int.cast_ofNat_Int]; (try simp only [S, TY, reduceCtorEq, nq0, nq1, nq2, nq3, nq4, iq0, iq1, iq2, iq3, iq4, iq5, iq6, iq7, iq8, q1, q6, q8, q9, c3]))); repeat ((first | (refine cl_drawi 14 D6_14 (List.range 21) (by decide) (by kernel_rfl) ?_; unfold D6_14)); simp only [S, TY, reduceCtorEq, nq0, nq1, nq2, nq3, nq4, iq0, iq1, iq2, iq3, iq4, iq5, iq6, iq7, iq8, q1, q6, q8, q9, c3]; (try (simp (disch := omega) only [W2, Int.cast_ofNat_Int]; (try simp only [S, TY, reduceCtorEq, nq0, nq1, nq2, nq3, nq4, iq0, iq1, iq2, iq3, iq4, iq5, iq6, iq7, iq8, q1, q6, q8, q9, c3])))))
        refine Len_ok.at_ h3 [2] _ rfl fun r B H4 hr h4 => ?_
        obtain ⟨rfl, rfl⟩ := hr
        simp only [front_eq, fronts_nil, fronts_cons, List.getElem?_cons_zero, List.getElem?_cons_succ, List.eraseIdx_cons_zero, List.eraseIdx_cons_succ, List.cons_append, List.nil_append, putL_cons, putL_nil, List.set_cons_zero, List.set_cons_succ, Nat.reduceAdd] at h4
        have c4 := h4.ci 1 rfl
        ((try simp only [S, TY, reduceCtorEq, nq0, nq1, nq2, nq3, nq4, iq0, iq1, iq2, iq3, iq4, iq5, iq6, iq7, iq8, q1, q6, q8, q9, c3, c4]); (try (simp (disch := omega) only [W2, Int.cast_ofNat_Int]; (try simp only [S, TY, reduceCtorEq, nq0, nq1, nq2, nq3, nq4, iq0, iq1, iq2, iq3, iq4, iq5, iq6, iq7, iq8, q1, q6, q8, q9, c3, c4]))); repeat ((first | (refine cl_drawi 14 D6_14 (List.range 21) (by decide) (by kernel_rfl) ?_; unfold D6_14)); simp only [S, TY, reduceCtorEq, nq0, nq1, nq2, nq3, nq4, iq0, iq1, iq2, iq3, iq4, iq5, iq6, iq7, iq8, q1, q6, q8, q9, c3, c4]; (try (simp (disch := omega) only [W2, Int.cast_ofNat_Int]; (try simp only [S, TY, reduceCtorEq, nq0, nq1, nq2, nq3, nq4, iq0, iq1, iq2, iq3, iq4, iq5, iq6, iq7, iq8, q1, q6, q8, q9, c3, c4])))))
        refine Peer_ok.at_ h4 [0] _ rfl fun r B H5 hr h5 => ?_
        obtain ⟨rfl, rfl⟩ := hr
        simp only [front_eq, fronts_nil, fronts_cons, List.getElem?_cons_zero, List.getElem?_cons_succ, List.eraseIdx_cons_zero, List.eraseIdx_cons_succ, List.cons_append, List.nil_append, putL_cons, putL_nil, List.set_cons_zero, List.set_cons_succ, Nat.reduceAdd] at h5
        have c5 := h5.ci 1 rfl
        ((try simp only [S, TY, reduceCtorEq, nq0, nq1, nq2, nq3, nq4, iq0, iq1, iq2, iq3, iq4, iq5, iq6, iq7, iq8, q1, q6, q8, q9, c3, c4, c5]); (try (simp (disch := omega) only [W2, Int.cast_ofNat_Int]; (try simp only [S, TY, reduceCtorEq, nq0, nq1, nq2, nq3, nq4, iq0, iq1, iq2, iq3, iq4, iq5, iq6, iq7, iq8, q1, q6, q8, q9, c3, c4, c5]))); repeat ((first | (refine cl_drawi 14 D6_14 (List.range 21) (by decide) (by kernel_rfl) ?_; unfold D6_14)); simp only [S, TY, reduceCtorEq, nq0, nq1, nq2, nq3, nq4, iq0, iq1, iq2, iq3, iq4, iq5, iq6, iq7, iq8, q1, q6, q8, q9, c3, c4, c5]; (try (simp (disch := omega) only [W2, Int.cast_ofNat_Int]; (try simp only [S, TY, reduceCtorEq, nq0, nq1, nq2, nq3, nq4, iq0, iq1, iq2, iq3, iq4, iq5, iq6, iq7, iq8, q1, q6, q8, q9, c3, c4, c5])))))
        have h6 := dS_shut s' (h5.fronts [1, 1])
        exact .go (i + 1) (by omega) ⟨by omega, q1, q6, q8, rfl, s', hw', h6.front 1⟩
      · ((try simp only [S, TY, reduceCtorEq, nq0, nq1, nq2, nq3, nq4, iq0, iq1, iq2, iq3, iq4, iq5, iq6, iq7, iq8, q1, q6, q8, q9, g3]); (try (simp (disch := omega) only [W2, Int.cast_ofNat_Int]; (try simp only [S, TY, reduceCtorEq, nq0, nq1, nq2, nq3, nq4, iq0, iq1, iq2, iq3, iq4, iq5, iq6, iq7, iq8, q1, q6, q8, q9, g3]))); repeat ((first | (refine cl_drawi 14 D6_14 (List.range 21) (by decide) (by kernel_rfl) ?_; unfold D6_14)); simp only [S, TY, reduceCtorEq, nq0, nq1, nq2, nq3, nq4, iq0, iq1, iq2, iq3, iq4, iq5, iq6, iq7, iq8, q1, q6, q8, q9, g3]; (try (simp (disch := omega) only [W2, Int.cast_ofNat_Int]; (try simp only [S, TY, reduceCtorEq, nq0, nq1, nq2, nq3, nq4, iq0, iq1, iq2, iq3, iq4, iq5, iq6, iq7, iq8, q1, q6, q8, q9, g3])))))
        refine (Take_nil ⟨1, 0, 0, 0, []⟩ _).at_ h [] _ rfl fun r B H2 hr h2 => ?_
        obtain ⟨rfl, rfl⟩ := hr
        ((try simp only [S, TY, reduceCtorEq, nq0, nq1, nq2, nq3, nq4, iq0, iq1, iq2, iq3, iq4, iq5, iq6, iq7, iq8]); (try (simp (disch := omega) only [W2, Int.cast_ofNat_Int]; (try simp only [S, TY, reduceCtorEq, nq0, nq1, nq2, nq3, nq4, iq0, iq1, iq2, iq3, iq4, iq5, iq6, iq7, iq8]))); repeat ((first | (refine cl_drawi 14 D6_14 (List.range 21) (by decide) (by kernel_rfl) ?_; unfold D6_14)); simp only [S, TY, reduceCtorEq, nq0, nq1, nq2, nq3, nq4, iq0, iq1, iq2, iq3, iq4, iq5, iq6, iq7, iq8]; (try (simp (disch := omega) only [W2, Int.cast_ofNat_Int]; (try simp only [S, TY, reduceCtorEq, nq0, nq1, nq2, nq3, nq4, iq0, iq1, iq2, iq3, iq4, iq5, iq6, iq7, iq8])))))
        intro b12 hb12 hg12
        have h3 := h2.new hb12 hg12 (.cells (tkl (.slice none 0 0) false false).toArray 91 (0, 0))
        ((try simp only [S, TY, reduceCtorEq, nq0, nq1, nq2, nq3, nq4, iq0, iq1, iq2, iq3, iq4, iq5, iq6, iq7, iq8]); (try (simp (disch := omega) only [W2, Int.cast_ofNat_Int]; (try simp only [S, TY, reduceCtorEq, nq0, nq1, nq2, nq3, nq4, iq0, iq1, iq2, iq3, iq4, iq5, iq6, iq7, iq8]))); repeat ((first | (refine cl_drawi 14 D6_14 (List.range 21) (by decide) (by kernel_rfl) ?_; unfold D6_14)); simp only [S, TY, reduceCtorEq, nq0, nq1, nq2, nq3, nq4, iq0, iq1, iq2, iq3, iq4, iq5, iq6, iq7, iq8]; (try (simp (disch := omega) only [W2, Int.cast_ofNat_Int]; (try simp only [S, TY, reduceCtorEq, nq0, nq1, nq2, nq3, nq4, iq0, iq1, iq2, iq3, iq4, iq5, iq6, iq7, iq8])))))
        refine sg.st h3 rfl rfl fun H4 h4 => ?_
        simp only [front_eq, fronts_nil, fronts_cons, List.getElem?_cons_zero, List.getElem?_cons_succ, List.eraseIdx_cons_zero, List.eraseIdx_cons_succ, List.cons_append, List.nil_append, putL_cons, putL_nil, List.set_cons_zero, List.set_cons_succ, Nat.reduceAdd] at h4
        ((try simp only [S, TY, reduceCtorEq, nq0, nq1, nq2, nq3, nq4, iq0, iq1, iq2, iq3, iq4, iq5, iq6, iq7, iq8]); (try (simp (disch := omega) only [W2, Int.cast_ofNat_Int]; (try simp only [S, TY, reduceCtorEq, nq0, nq1, nq2, nq3, nq4, iq0, iq1, iq2, iq3, iq4, iq5, iq6, iq7, iq8]))); repeat ((first | (refine cl_drawi 14 D6_14 (List.range 21) (by decide) (by kernel_rfl) ?_; unfold D6_14)); simp only [S, TY, reduceCtorEq, nq0, nq1, nq2, nq3, nq4, iq0, iq1, iq2, iq3, iq4, iq5, iq6, iq7, iq8]; (try (simp (disch := omega) only [W2, Int.cast_ofNat_Int]; (try simp only [S, TY, reduceCtorEq, nq0, nq1, nq2, nq3, nq4, iq0, iq1, iq2, iq3, iq4, iq5, iq6, iq7, iq8])))))
        refine alive.at_ h4 [] _ rfl fun r B H5 hr h5 => ?_
        obtain ⟨rfl, rfl⟩ := hr
        ((try simp only [S, TY, reduceCtorEq, nq0, nq1, nq2, nq3, nq4, iq0, iq1, iq2, iq3, iq4, iq5, iq6, iq7, iq8]); (try (simp (disch := omega) only [W2, Int.cast_ofNat_Int]; (try simp only [S, TY, reduceCtorEq, nq0, nq1, nq2, nq3, nq4, iq0, iq1, iq2, iq3, iq4, iq5, iq6, iq7, iq8]))); repeat ((first | (refine cl_drawi 14 D6_14 (List.range 21) (by decide) (by kernel_rfl) ?_; unfold D6_14)); simp only [S, TY, reduceCtorEq, nq0, nq1, nq2, nq3, nq4, iq0, iq1, iq2, iq3, iq4, iq5, iq6, iq7, iq8]; (try (simp (disch := omega) only [W2, Int.cast_ofNat_Int]; (try simp only [S, TY, reduceCtorEq, nq0, nq1, nq2, nq3, nq4, iq0, iq1, iq2, iq3, iq4, iq5, iq6, iq7, iq8])))))
        intro k6 hk6 hg6
        have h6 := h5.newsl (e := 5) (sz := 1) (n := 1) (xs := bv [1]) hk6 hg6 rfl
        ((try simp only [S, TY, reduceCtorEq, nq0, nq1, nq2, nq3, nq4, iq0, iq1, iq2, iq3, iq4, iq5, iq6, iq7, iq8]); (try (simp (disch := omega) only [W2, Int.cast_ofNat_Int]; (try simp only [S, TY, reduceCtorEq, nq0, nq1, nq2, nq3, nq4, iq0, iq1, iq2, iq3, iq4, iq5, iq6, iq7, iq8]))); repeat ((first | (refine cl_drawi 14 D6_14 (List.range 21) (by decide) (by kernel_rfl) ?_; unfold D6_14)); simp only [S, TY, reduceCtorEq, nq0, nq1, nq2, nq3, nq4, iq0, iq1, iq2, iq3, iq4, iq5, iq6, iq7, iq8]; (try (simp (disch := omega) only [W2, Int.cast_ofNat_Int]; (try simp only [S, TY, reduceCtorEq, nq0, nq1, nq2, nq3, nq4, iq0, iq1, iq2, iq3, iq4, iq5, iq6, iq7, iq8])))))
        refine Con.lend_at [] [own 5 1 _ (bv [1])] h6 [0] rfl (fun F hF hs => Push_nil (seps_own hs 0 rfl).left) fun r B H7 hr h7 => ?_
        obtain ⟨rfl, rfl⟩ := hr
        ((try simp only [S, TY, reduceCtorEq, nq0, nq1, nq2, nq3, nq4, iq0, iq1, iq2, iq3, iq4, iq5, iq6, iq7, iq8]); (try (simp (disch := omega) only [W2, Int.cast_ofNat_Int]; (try simp only [S, TY, reduceCtorEq, nq0, nq1, nq2, nq3, nq4, iq0, iq1, iq2, iq3, iq4, iq5, iq6, iq7, iq8]))); repeat ((first | (refine cl_drawi 14 D6_14 (List.range 21) (by decide) (by kernel_rfl) ?_; unfold D6_14)); simp only [S, TY, reduceCtorEq, nq0, nq1, nq2, nq3, nq4, iq0, iq1, iq2, iq3, iq4, iq5, iq6, iq7, iq8]; (try (simp (disch := omega) only [W2, Int.cast_ofNat_Int]; (try simp only [S, TY, reduceCtorEq, nq0, nq1, nq2, nq3, nq4, iq0, iq1, iq2, iq3, iq4, iq5, iq6, iq7, iq8])))))
        refine Out_nil.at_ h7 [] _ rfl fun r B H8 hr h8 => ?_
        obtain ⟨rfl, rfl⟩ := hr
        ((try simp only [S, TY, reduceCtorEq, nq0, nq1, nq2, nq3, nq4, iq0, iq1, iq2, iq3, iq4, iq5, iq6, iq7, iq8]); (try (simp (disch := omega) only [W2, Int.cast_ofNat_Int]; (try simp only [S, TY, reduceCtorEq, nq0, nq1, nq2, nq3, nq4, iq0, iq1, iq2, iq3, iq4, iq5, iq6, iq7, iq8]))); repeat ((first | (refine cl_drawi 14 D6_14 (List.range 21) (by decide) (by kernel_rfl) ?_; unfold D6_14)); simp only [S, TY, reduceCtorEq, nq0, nq1, nq2, nq3, nq4, iq0, iq1, iq2, iq3, iq4, iq5, iq6, iq7, iq8]; (try (simp (disch := omega) only [W2, Int.cast_ofNat_Int]; (try simp only [S, TY, reduceCtorEq, nq0, nq1, nq2, nq3, nq4, iq0, iq1, iq2, iq3, iq4, iq5, iq6, iq7, iq8])))))
        refine Len_nil.at_ h8 [] _ rfl fun r B H9 hr h9 => ?_
        obtain ⟨rfl, rfl⟩ := hr
        ((try simp only [S, TY, reduceCtorEq, nq0, nq1, nq2, nq3, nq4, iq0, iq1, iq2, iq3, iq4, iq5, iq6, iq7, iq8]); (try (simp (disch := omega) only [W2, Int.cast_ofNat_Int]; (try simp only [S, TY, reduceCtorEq, nq0, nq1, nq2, nq3, nq4, iq0, iq1, iq2, iq3, iq4, iq5, iq6, iq7, iq8]))); repeat ((first | (refine cl_drawi 14 D6_14 (List.range 21) (by decide) (by kernel_rfl) ?_; unfold D6_14)); simp only [S, TY, reduceCtorEq, nq0, nq1, nq2, nq3, nq4, iq0, iq1, iq2, iq3, iq4, iq5, iq6, iq7, iq8]; (try (simp (disch := omega) only [W2, Int.cast_ofNat_Int]; (try simp only [S, TY, reduceCtorEq, nq0, nq1, nq2, nq3, nq4, iq0, iq1, iq2, iq3, iq4, iq5, iq6, iq7, iq8])))))
        refine Peer_nil.at_ h9 [] _ rfl fun r B H10 hr h10 => ?_
        obtain ⟨rfl, rfl⟩ := hr
        ((try simp only [S, TY, reduceCtorEq, nq0, nq1, nq2, nq3, nq4, iq0, iq1, iq2, iq3, iq4, iq5, iq6, iq7, iq8]); (try (simp (disch := omega) only [W2, Int.cast_ofNat_Int]; (try simp only [S, TY, reduceCtorEq, nq0, nq1, nq2, nq3, nq4, iq0, iq1, iq2, iq3, iq4, iq5, iq6, iq7, iq8]))); repeat ((first | (refine cl_drawi 14 D6_14 (List.range 21) (by decide) (by kernel_rfl) ?_; unfold D6_14)); simp only [S, TY, reduceCtorEq, nq0, nq1, nq2, nq3, nq4, iq0, iq1, iq2, iq3, iq4, iq5, iq6, iq7, iq8]; (try (simp (disch := omega) only [W2, Int.cast_ofNat_Int]; (try simp only [S, TY, reduceCtorEq, nq0, nq1, nq2, nq3, nq4, iq0, iq1, iq2, iq3, iq4, iq5, iq6, iq7, iq8])))))
        exact fin_take (B := []) h10 ⟨rfl, rfl⟩
    · refine (New_no mine gl).at_ h1 [] _ rfl fun r B H2 hr h2 => ?_
      obtain ⟨rfl, rfl⟩ := hr
      by_cases g1 : mine < 1
      · ((try simp only [S, TY, reduceCtorEq, nq0, nq1, nq2, nq3, nq4, iq0, iq1, iq2, iq3, iq4, iq5, iq6, iq7, iq8, g1]); (try (simp (disch := omega) only [W2, Int.cast_ofNat_Int]; (try simp only [S, TY, reduceCtorEq, nq0, nq1, nq2, nq3, nq4, iq0, iq1, iq2, iq3, iq4, iq5, iq6, iq7, iq8, g1]))); repeat ((first | (refine cl_drawi 14 D6_14 (List.range 21) (by decide) (by kernel_rfl) ?_; unfold D6_14)); simp only [S, TY, reduceCtorEq, nq0, nq1, nq2, nq3, nq4, iq0, iq1, iq2, iq3, iq4, iq5, iq6, iq7, iq8, g1]; (try (simp (disch := omega) only [W2, Int.cast_ofNat_Int]; (try simp only [S, TY, reduceCtorEq, nq0, nq1, nq2, nq3, nq4, iq0, iq1, iq2, iq3, iq4, iq5, iq6, iq7, iq8, g1])))))
        refine alive.at_ h2 [] _ rfl fun r B H3 hr h3 => ?_
        obtain ⟨rfl, rfl⟩ := hr
        ((try simp only [S, TY, reduceCtorEq, nq0, nq1, nq2, nq3, nq4, iq0, iq1, iq2, iq3, iq4, iq5, iq6, iq7, iq8]); (try (simp (disch := omega) only [W2, Int.cast_ofNat_Int]; (try simp only [S, TY, reduceCtorEq, nq0, nq1, nq2, nq3, nq4, iq0, iq1, iq2, iq3, iq4, iq5, iq6, iq7, iq8]))); repeat ((first | (refine cl_drawi 14 D6_14 (List.range 21) (by decide) (by kernel_rfl) ?_; unfold D6_14)); simp only [S, TY, reduceCtorEq, nq0, nq1, nq2, nq3, nq4, iq0, iq1, iq2, iq3, iq4, iq5, iq6, iq7, iq8]; (try (simp (disch := omega) only [W2, Int.cast_ofNat_Int]; (try simp only [S, TY, reduceCtorEq, nq0, nq1, nq2, nq3, nq4, iq0, iq1, iq2, iq3, iq4, iq5, iq6, iq7, iq8])))))
        exact fin_take (B := []) h3 ⟨rfl, rfl⟩
      · have g2 : (4294967296 : Int) < mine := by omega
        ((try simp only [S, TY, reduceCtorEq, nq0, nq1, nq2, nq3, nq4, iq0, iq1, iq2, iq3, iq4, iq5, iq6, iq7, iq8, g1, g2]); (try (simp (disch := omega) only [W2, Int.cast_ofNat_Int]; (try simp only [S, TY, reduceCtorEq, nq0, nq1, nq2, nq3, nq4, iq0, iq1, iq2, iq3, iq4, iq5, iq6, iq7, iq8, g1, g2]))); repeat ((first | (refine cl_drawi 14 D6_14 (List.range 21) (by decide) (by kernel_rfl) ?_; unfold D6_14)); simp only [S, TY, reduceCtorEq, nq0, nq1, nq2, nq3, nq4, iq0, iq1, iq2, iq3, iq4, iq5, iq6, iq7, iq8, g1, g2]; (try (simp (disch := omega) only [W2, Int.cast_ofNat_Int]; (try simp only [S, TY, reduceCtorEq, nq0, nq1, nq2, nq3, nq4, iq0, iq1, iq2, iq3, iq4, iq5, iq6, iq7, iq8, g1, g2])))))
        refine alive.at_ h2 [] _ rfl fun r B H3 hr h3 => ?_
        obtain ⟨rfl, rfl⟩ := hr
        ((try simp only [S, TY, reduceCtorEq, nq0, nq1, nq2, nq3, nq4, iq0, iq1, iq2, iq3, iq4, iq5, iq6, iq7, iq8]); (try (simp (disch := omega) only [W2, Int.cast_ofNat_Int]; (try simp only [S, TY, reduceCtorEq, nq0, nq1, nq2, nq3, nq4, iq0, iq1, iq2, iq3, iq4, iq5, iq6, iq7, iq8]))); repeat ((first | (refine cl_drawi 14 D6_14 (List.range 21) (by decide) (by kernel_rfl) ?_; unfold D6_14)); simp only [S, TY, reduceCtorEq, nq0, nq1, nq2, nq3, nq4, iq0, iq1, iq2, iq3, iq4, iq5, iq6, iq7, iq8]; (try (simp (disch := omega) only [W2, Int.cast_ofNat_Int]; (try simp only [S, TY, reduceCtorEq, nq0, nq1, nq2, nq3, nq4, iq0, iq1, iq2, iq3, iq4, iq5, iq6, iq7, iq8])))))
        exact fin_take (B := []) h3 ⟨rfl, rfl⟩
theorem playsV {G : Hp} {v0 v1 : Value} {y0 : (Ty.int .i64).den} {y1 : (Ty.sl AT).den} (h0 : Ty.V G (.int .i64) v0 y0) (h1 : Ty.V G (.sl AT) v1 y1) :
    Con Try.prog G 6 [v0, v1] [] (fun r B => r = .bool true ∧ B = []) := by
  rcases h0 with ⟨h, _⟩ | ⟨_, h0, _⟩
  · cases h
  rcases h1 with ⟨h, _⟩ | ⟨_, w, h1, hv⟩
  · cases h
  cases h0; cases h1
  exact playsLaw _ hv
end Go.Proofs.Ytanhmbdcdbcfmaa.SeX
