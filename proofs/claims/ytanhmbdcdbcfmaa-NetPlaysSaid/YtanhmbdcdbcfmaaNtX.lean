/- Nets: the law on acts. -/
import Derived.Test.YtanhmbdcdbcfmaaNtA
set_option linter.unusedVariables false
set_option linter.unusedSimpArgs false
set_option maxRecDepth 10000
set_option maxHeartbeats 4000000
namespace Go.Proofs.Ytanhmbdcdbcfmaa.NtX
open Nat renaming reduceEqDiff → nq0, reduceAdd → nq1, reduceLeDiff → nq2, reduceBEq → nq3, reduceMul → nq4
open Int renaming reduceBEq → iq0, reduceEq → iq1, reduceLT → iq2, reduceLE → iq3, reduceAdd → iq4, reduceSub → iq5, reduceMul → iq6, reduceToNat → iq7, cast_ofNat_Int → iq8
open Go Go.Sl Go.Proofs Go.Proofs.Ytanhmbdcdbcfmaa.NtP Go.Proofs.Ytanhmbdcdbcfmaa.Nt Go.Proofs.Ytanhmbdcdbcfmaa.NtK Go.Proofs.Ytanhmbdcdbcfmaa.NtD Go.Proofs.Ytanhmbdcdbcfmaa.NtL Go.Proofs.Ytanhmbdcdbcfmaa.NtS Go.Proofs.Ytanhmbdcdbcfmaa.NtA
theorem TY : aggN Try.prog 3 = some none ∧
  aggN Try.prog 30 = some none ∧
  aggN Try.prog 138 = some none ∧
  aggN Try.prog 140 = some none ∧
  aggN Try.prog 143 = some none ∧
  aggN Try.prog 144 = some none ∧
  aggN Try.prog 146 = some (some 3) ∧
  aggN Try.prog 148 = some none ∧
  aggN Try.prog 150 = some (some 3) ∧
  aggN Try.prog 152 = some (some 3) ∧
  aggN Try.prog 160 = some (some 3) ∧
  apI Try.prog 138 = some (150, 3, 40) ∧
  apI Try.prog 144 = some (160, 3, 32) ∧
  apI Try.prog 148 = some (152, 3, 40) ∧
  bIs Try.prog 146 = true ∧
  bIs Try.prog 150 = true ∧
  bIs Try.prog 152 = true ∧
  bIs Try.prog 160 = true ∧
  csz Try.prog 3 = some 1 ∧
  csz Try.prog 30 = some 1 ∧
  csz Try.prog 138 = some 1 ∧
  csz Try.prog 140 = some 1 ∧
  csz Try.prog 143 = some 1 ∧
  csz Try.prog 144 = some 1 ∧
  csz Try.prog 146 = some 3 ∧
  csz Try.prog 148 = some 1 ∧
  csz Try.prog 150 = some 3 ∧
  csz Try.prog 152 = some 3 ∧
  csz Try.prog 160 = some 3 ∧
  eqF Try.prog 160 = some [.i, .i, .s] ∧
  fIs Try.prog 146 0 = true ∧
  fIs Try.prog 146 2 = true ∧
  fOff Try.prog 146 0 = 0 ∧
  fOff Try.prog 146 2 = 2 ∧
  fTy Try.prog 146 0 = 144 ∧
  fTy Try.prog 146 2 = 3 ∧
  goes Try.prog 70 = true ∧
  goes Try.prog 71 = true ∧
  goes Try.prog 72 = true ∧
  goes Try.prog 73 = true ∧
  goes Try.prog 74 = true ∧
  goes Try.prog 75 = true ∧
  goes Try.prog 76 = true ∧
  goes Try.prog 77 = true ∧
  goes Try.prog 78 = true ∧
  goes Try.prog 79 = true ∧
  goes Try.prog 80 = true ∧
  inIs Try.prog 3 = some .i64 ∧
  inIs Try.prog 30 = some .i64 ∧
  plcs Try.prog 146 = [(0, 1), (1, 1), (2, 1)] ∧
  plcs Try.prog 150 = [(0, 1), (1, 1), (2, 1)] ∧
  plcs Try.prog 152 = [(0, 1), (1, 1), (2, 1)] ∧
  plcs Try.prog 160 = [(0, 1), (1, 1), (2, 1)] ∧
  ptIs Try.prog 140 = true ∧
  ptIs Try.prog 143 = true ∧
  slEl Try.prog 138 = 150 ∧
  slEl Try.prog 144 = 160 ∧
  slEl Try.prog 148 = 152 ∧
  slIs Try.prog 138 = true ∧
  slIs Try.prog 144 = true ∧
  slIs Try.prog 148 = true ∧
  slSz Try.prog 138 = 3 ∧
  slSz Try.prog 144 = 3 ∧
  slSz Try.prog 148 = 3 ∧
  zcs Try.prog 146 = [.slice none 0 0, .int .i64 0, .int .i64 0] ∧
  zcs Try.prog 150 = [.int .u8 0, .slice none 0 0, .int .i64 0] ∧
  zcs Try.prog 152 = [.int .i64 0, .int .i64 0, .slice none 0 0] ∧
  zcs Try.prog 160 = [.int .i64 0, .int .i64 0, .string ByteArray.empty] ∧
  zro Try.prog 3 = some (.int .i64 0) ∧
  zro Try.prog 30 = some (.int .i64 0) ∧
  zro Try.prog 138 = some (.slice none 0 0) ∧
  zro Try.prog 140 = some (.pointer none) ∧
  zro Try.prog 143 = some (.pointer none) ∧
  zro Try.prog 144 = some (.slice none 0 0) ∧
  zro Try.prog 146 = some (.agg #[.slice none 0 0, .int .i64 0, .int .i64 0]) ∧
  zro Try.prog 148 = some (.slice none 0 0) ∧
  zro Try.prog 150 = some (.agg #[.int .u8 0, .slice none 0 0, .int .i64 0]) ∧
  zro Try.prog 152 = some (.agg #[.int .i64 0, .int .i64 0, .slice none 0 0]) ∧
  zro Try.prog 160 = some (.agg #[.int .i64 0, .int .i64 0, .string ByteArray.empty]) :=
  ⟨by kernel_rfl, by kernel_rfl, by kernel_rfl, by kernel_rfl, by kernel_rfl, by kernel_rfl, by kernel_rfl, by kernel_rfl, by kernel_rfl, by kernel_rfl, by kernel_rfl, by kernel_rfl, by kernel_rfl, by kernel_rfl, by kernel_rfl, by kernel_rfl, by kernel_rfl, by kernel_rfl, by kernel_rfl, by kernel_rfl, by kernel_rfl, by kernel_rfl, by kernel_rfl, by kernel_rfl, by kernel_rfl, by kernel_rfl, by kernel_rfl, by kernel_rfl, by kernel_rfl, by kernel_rfl, by kernel_rfl, by kernel_rfl, by kernel_rfl, by kernel_rfl, by kernel_rfl, by kernel_rfl, by kernel_rfl, by kernel_rfl, by kernel_rfl, by kernel_rfl, by kernel_rfl, by kernel_rfl, by kernel_rfl, by kernel_rfl, by kernel_rfl, by kernel_rfl, by kernel_rfl, by kernel_rfl, by kernel_rfl, by kernel_rfl, by kernel_rfl, by kernel_rfl, by kernel_rfl, by kernel_rfl, by kernel_rfl, by kernel_rfl, by kernel_rfl, by kernel_rfl, by kernel_rfl, by kernel_rfl, by kernel_rfl, by kernel_rfl, by kernel_rfl, by kernel_rfl, by kernel_rfl, by kernel_rfl, by kernel_rfl, by kernel_rfl, by kernel_rfl, by kernel_rfl, by kernel_rfl, by kernel_rfl, by kernel_rfl, by kernel_rfl, by kernel_rfl, by kernel_rfl, by kernel_rfl, by kernel_rfl, by kernel_rfl⟩
def D11_14 : List Note := Go.Sl.nn [0, 0, 0, 0, 3, 0, 0, 0, 1, 0, 0, 0, 0, 0, 3, 0, 0, 0] ++ ([(1, [4])] ++ (Go.Sl.nn [0, 0]))
theorem playsLaw {G : Hp} (room : Int) {v : Value} {l : List AT.den} (hv : Acts G v l) : Con Try.prog G 11 [.int .i64 room, v] [] (fun r B => r = .bool true ∧ B = []) := by
  have hv0 := hv
  obtain ⟨a, n, c, rfl, e1, e2⟩ := hv.shape (by decide)
  refine Con.intro Try.func11 rfl (Nat.le_of_ble_eq_true (by kernel_rfl)) (by kernel_rfl) Try.results11 ?_
  intro H hH
  ((try simp only [S, TY, reduceCtorEq, nq0, nq1, nq2, nq3, nq4, iq0, iq1, iq2, iq3, iq4, iq5, iq6, iq7, iq8]); (try (simp (disch := omega) only [W2, Int.cast_ofNat_Int]; (try simp only [S, TY, reduceCtorEq, nq0, nq1, nq2, nq3, nq4, iq0, iq1, iq2, iq3, iq4, iq5, iq6, iq7, iq8]))); repeat ((first | (refine cl_drawi 14 D11_14 (List.range 21) (by decide) (by kernel_rfl) ?_; unfold D11_14)); simp only [S, TY, reduceCtorEq, nq0, nq1, nq2, nq3, nq4, iq0, iq1, iq2, iq3, iq4, iq5, iq6, iq7, iq8]; (try (simp (disch := omega) only [W2, Int.cast_ofNat_Int]; (try simp only [S, TY, reduceCtorEq, nq0, nq1, nq2, nq3, nq4, iq0, iq1, iq2, iq3, iq4, iq5, iq6, iq7, iq8])))))
  refine (fits hv0).at_ hH [] _ rfl fun r B H1 hr h1 => ?_
  obtain ⟨ok, rfl, rfl, hok⟩ := hr
  cases ok with
  | false =>
    ((try simp only [S, TY, reduceCtorEq, nq0, nq1, nq2, nq3, nq4, iq0, iq1, iq2, iq3, iq4, iq5, iq6, iq7, iq8]); (try (simp (disch := omega) only [W2, Int.cast_ofNat_Int]; (try simp only [S, TY, reduceCtorEq, nq0, nq1, nq2, nq3, nq4, iq0, iq1, iq2, iq3, iq4, iq5, iq6, iq7, iq8]))); repeat ((first | (refine cl_drawi 14 D11_14 (List.range 21) (by decide) (by kernel_rfl) ?_; unfold D11_14)); simp only [S, TY, reduceCtorEq, nq0, nq1, nq2, nq3, nq4, iq0, iq1, iq2, iq3, iq4, iq5, iq6, iq7, iq8]; (try (simp (disch := omega) only [W2, Int.cast_ofNat_Int]; (try simp only [S, TY, reduceCtorEq, nq0, nq1, nq2, nq3, nq4, iq0, iq1, iq2, iq3, iq4, iq5, iq6, iq7, iq8])))))
    refine alive.at_ h1 [] _ rfl fun r B H2 hr h2 => ?_
    obtain ⟨rfl, rfl⟩ := hr
    ((try simp only [S, TY, reduceCtorEq, nq0, nq1, nq2, nq3, nq4, iq0, iq1, iq2, iq3, iq4, iq5, iq6, iq7, iq8]); (try (simp (disch := omega) only [W2, Int.cast_ofNat_Int]; (try simp only [S, TY, reduceCtorEq, nq0, nq1, nq2, nq3, nq4, iq0, iq1, iq2, iq3, iq4, iq5, iq6, iq7, iq8]))); repeat ((first | (refine cl_drawi 14 D11_14 (List.range 21) (by decide) (by kernel_rfl) ?_; unfold D11_14)); simp only [S, TY, reduceCtorEq, nq0, nq1, nq2, nq3, nq4, iq0, iq1, iq2, iq3, iq4, iq5, iq6, iq7, iq8]; (try (simp (disch := omega) only [W2, Int.cast_ofNat_Int]; (try simp only [S, TY, reduceCtorEq, nq0, nq1, nq2, nq3, nq4, iq0, iq1, iq2, iq3, iq4, iq5, iq6, iq7, iq8])))))
    exact fin_take (B := []) h2 ⟨rfl, rfl⟩
  | true =>
    have hn := (hok rfl).1
    have hm := (hok rfl).2
    ((try simp only [S, TY, reduceCtorEq, nq0, nq1, nq2, nq3, nq4, iq0, iq1, iq2, iq3, iq4, iq5, iq6, iq7, iq8]); (try (simp (disch := omega) only [W2, Int.cast_ofNat_Int]; (try simp only [S, TY, reduceCtorEq, nq0, nq1, nq2, nq3, nq4, iq0, iq1, iq2, iq3, iq4, iq5, iq6, iq7, iq8]))); repeat ((first | (refine cl_drawi 14 D11_14 (List.range 21) (by decide) (by kernel_rfl) ?_; unfold D11_14)); simp only [S, TY, reduceCtorEq, nq0, nq1, nq2, nq3, nq4, iq0, iq1, iq2, iq3, iq4, iq5, iq6, iq7, iq8]; (try (simp (disch := omega) only [W2, Int.cast_ofNat_Int]; (try simp only [S, TY, reduceCtorEq, nq0, nq1, nq2, nq3, nq4, iq0, iq1, iq2, iq3, iq4, iq5, iq6, iq7, iq8])))))
    by_cases gl : 0 ≤ room ∧ room ≤ 4096
    · refine (New_ok room gl).at_ h1 [] _ rfl fun r B H2 hr h2 => ?_
      obtain ⟨p, rfl, rfl⟩ := hr
      have g1 : ¬ room < 0 := by omega
      have g2 : ¬ (4096 : Int) < room := by omega
      ((try simp only [S, TY, reduceCtorEq, nq0, nq1, nq2, nq3, nq4, iq0, iq1, iq2, iq3, iq4, iq5, iq6, iq7, iq8, g1, g2]); (try (simp (disch := omega) only [W2, Int.cast_ofNat_Int]; (try simp only [S, TY, reduceCtorEq, nq0, nq1, nq2, nq3, nq4, iq0, iq1, iq2, iq3, iq4, iq5, iq6, iq7, iq8, g1, g2]))); repeat ((first | (refine cl_drawi 14 D11_14 (List.range 21) (by decide) (by kernel_rfl) ?_; unfold D11_14)); simp only [S, TY, reduceCtorEq, nq0, nq1, nq2, nq3, nq4, iq0, iq1, iq2, iq3, iq4, iq5, iq6, iq7, iq8, g1, g2]; (try (simp (disch := omega) only [W2, Int.cast_ofNat_Int]; (try simp only [S, TY, reduceCtorEq, nq0, nq1, nq2, nq3, nq4, iq0, iq1, iq2, iq3, iq4, iq5, iq6, iq7, iq8, g1, g2])))))
      intro q hq hqg
      have h3 := dN_shut ⟨[], room, 0⟩ ((h2.nil_ 160 3).new hq hqg (.cells #[.slice none 0 0, .int .i64 room, .int .i64 0] 146 (0, 0)))
      ((try simp only [S, TY, reduceCtorEq, nq0, nq1, nq2, nq3, nq4, iq0, iq1, iq2, iq3, iq4, iq5, iq6, iq7, iq8, g1, g2]); (try (simp (disch := omega) only [W2, Int.cast_ofNat_Int]; (try simp only [S, TY, reduceCtorEq, nq0, nq1, nq2, nq3, nq4, iq0, iq1, iq2, iq3, iq4, iq5, iq6, iq7, iq8, g1, g2]))); repeat ((first | (refine cl_drawi 14 D11_14 (List.range 21) (by decide) (by kernel_rfl) ?_; unfold D11_14)); simp only [S, TY, reduceCtorEq, nq0, nq1, nq2, nq3, nq4, iq0, iq1, iq2, iq3, iq4, iq5, iq6, iq7, iq8, g1, g2]; (try (simp (disch := omega) only [W2, Int.cast_ofNat_Int]; (try simp only [S, TY, reduceCtorEq, nq0, nq1, nq2, nq3, nq4, iq0, iq1, iq2, iq3, iq4, iq5, iq6, iq7, iq8, g1, g2])))))
      refine cl_loop (fun i e H => i ≤ n ∧ e 1 = .slice a n c ∧ e 6 = .pointer (some ⟨p, 0, none⟩) ∧ e 8 = .pointer (some ⟨q, 0, none⟩) ∧ e 9 = .int .i64 (i : Nat) ∧ ∃ m : Nt, m.wf (100 * i) ∧ sg G [nN p m, dN q m] H) (fun i : Nat => n - i) 0
        ⟨by omega, rfl, rfl, rfl, rfl, ⟨[], room, 0⟩, wf_new gl, h3.front 1⟩ ?_
      clear h1 h2 h3
      rintro i e H ⟨qi, q1, q6, q8, q9, m, hw, h⟩
      by_cases g3 : (i : Int) < n
      · obtain ⟨b, off, cs, hl, rfl, hQ, _, hc, hld⟩ := hv0.at (by decide) (i := i) (by omega)
        have hyl := hm _ (List.getElem_mem hl)
        obtain ⟨k, w, yl, at_, rfl, hr0, hb0, hy⟩ := act_l hQ
        have g0 : (0 : Int) ≤ i ∧ (i : Int) < n := ⟨by omega, g3⟩
        have el := h.rold hld
        ((try simp only [S, TY, reduceCtorEq, nq0, nq1, nq2, nq3, nq4, iq0, iq1, iq2, iq3, iq4, iq5, iq6, iq7, iq8, q1, q6, q8, q9, g0, g3, el]); (try (simp (disch := omega) only [W2, Int.cast_ofNat_Int]; (try simp only [S, TY, reduceCtorEq, nq0, nq1, nq2, nq3, nq4, iq0, iq1, iq2, iq3, iq4, iq5, iq6, iq7, iq8, q1, q6, q8, q9, g0, g3, el]))); repeat ((first | (refine cl_drawi 14 D11_14 (List.range 21) (by decide) (by kernel_rfl) ?_; unfold D11_14)); simp only [S, TY, reduceCtorEq, nq0, nq1, nq2, nq3, nq4, iq0, iq1, iq2, iq3, iq4, iq5, iq6, iq7, iq8, q1, q6, q8, q9, g0, g3, el]; (try (simp (disch := omega) only [W2, Int.cast_ofNat_Int]; (try simp only [S, TY, reduceCtorEq, nq0, nq1, nq2, nq3, nq4, iq0, iq1, iq2, iq3, iq4, iq5, iq6, iq7, iq8, q1, q6, q8, q9, g0, g3, el])))))
        refine (step_ok hw (by omega) (by omega) hr0 hb0).at_ h [0, 0] _ rfl fun r B H2 hr h2 => ?_
        obtain ⟨rfl, m', hw', rfl⟩ := hr
        obtain ⟨va, vc, _, h3⟩ := dN_open (h2.front 1)
        simp only [front_eq, fronts_nil, fronts_cons, List.getElem?_cons_zero, List.getElem?_cons_succ, List.eraseIdx_cons_zero, List.eraseIdx_cons_succ, List.cons_append, List.nil_append, putL_cons, putL_nil, List.set_cons_zero, List.set_cons_succ, Nat.reduceAdd] at h3
        have c3 := h3.c0
        ((try simp only [S, TY, reduceCtorEq, nq0, nq1, nq2, nq3, nq4, iq0, iq1, iq2, iq3, iq4, iq5, iq6, iq7, iq8, q1, q6, q8, q9, c3]); (try (simp (disch := omega) only [W2, Int.cast_ofNat_Int]; (try simp only [S, TY, reduceCtorEq, nq0, nq1, nq2, nq3, nq4, iq0, iq1, iq2, iq3, iq4, iq5, iq6, iq7, iq8, q1, q6, q8, q9, c3]))); repeat ((first | (refine cl_drawi 14 D11_14 (List.range 21) (by decide) (by kernel_rfl) ?_; unfold D11_14)); simp only [S, TY, reduceCtorEq, nq0, nq1, nq2, nq3, nq4, iq0, iq1, iq2, iq3, iq4, iq5, iq6, iq7, iq8, q1, q6, q8, q9, c3]; (try (simp (disch := omega) only [W2, Int.cast_ofNat_Int]; (try simp only [S, TY, reduceCtorEq, nq0, nq1, nq2, nq3, nq4, iq0, iq1, iq2, iq3, iq4, iq5, iq6, iq7, iq8, q1, q6, q8, q9, c3])))))
        refine Len_ok.at_ h3 [2] _ rfl fun r B H4 hr h4 => ?_
        obtain ⟨rfl, rfl⟩ := hr
        simp only [front_eq, fronts_nil, fronts_cons, List.getElem?_cons_zero, List.getElem?_cons_succ, List.eraseIdx_cons_zero, List.eraseIdx_cons_succ, List.cons_append, List.nil_append, putL_cons, putL_nil, List.set_cons_zero, List.set_cons_succ, Nat.reduceAdd] at h4
        have c4 := h4.ci 1 rfl
        ((try simp only [S, TY, reduceCtorEq, nq0, nq1, nq2, nq3, nq4, iq0, iq1, iq2, iq3, iq4, iq5, iq6, iq7, iq8, q1, q6, q8, q9, c3, c4]); (try (simp (disch := omega) only [W2, Int.cast_ofNat_Int]; (try simp only [S, TY, reduceCtorEq, nq0, nq1, nq2, nq3, nq4, iq0, iq1, iq2, iq3, iq4, iq5, iq6, iq7, iq8, q1, q6, q8, q9, c3, c4]))); repeat ((first | (refine cl_drawi 14 D11_14 (List.range 21) (by decide) (by kernel_rfl) ?_; unfold D11_14)); simp only [S, TY, reduceCtorEq, nq0, nq1, nq2, nq3, nq4, iq0, iq1, iq2, iq3, iq4, iq5, iq6, iq7, iq8, q1, q6, q8, q9, c3, c4]; (try (simp (disch := omega) only [W2, Int.cast_ofNat_Int]; (try simp only [S, TY, reduceCtorEq, nq0, nq1, nq2, nq3, nq4, iq0, iq1, iq2, iq3, iq4, iq5, iq6, iq7, iq8, q1, q6, q8, q9, c3, c4])))))
        refine Lost_ok.at_ h4 [0] _ rfl fun r B H5 hr h5 => ?_
        obtain ⟨rfl, rfl⟩ := hr
        simp only [front_eq, fronts_nil, fronts_cons, List.getElem?_cons_zero, List.getElem?_cons_succ, List.eraseIdx_cons_zero, List.eraseIdx_cons_succ, List.cons_append, List.nil_append, putL_cons, putL_nil, List.set_cons_zero, List.set_cons_succ, Nat.reduceAdd] at h5
        have c5 := h5.ci 1 rfl
        ((try simp only [S, TY, reduceCtorEq, nq0, nq1, nq2, nq3, nq4, iq0, iq1, iq2, iq3, iq4, iq5, iq6, iq7, iq8, q1, q6, q8, q9, c3, c4, c5]); (try (simp (disch := omega) only [W2, Int.cast_ofNat_Int]; (try simp only [S, TY, reduceCtorEq, nq0, nq1, nq2, nq3, nq4, iq0, iq1, iq2, iq3, iq4, iq5, iq6, iq7, iq8, q1, q6, q8, q9, c3, c4, c5]))); repeat ((first | (refine cl_drawi 14 D11_14 (List.range 21) (by decide) (by kernel_rfl) ?_; unfold D11_14)); simp only [S, TY, reduceCtorEq, nq0, nq1, nq2, nq3, nq4, iq0, iq1, iq2, iq3, iq4, iq5, iq6, iq7, iq8, q1, q6, q8, q9, c3, c4, c5]; (try (simp (disch := omega) only [W2, Int.cast_ofNat_Int]; (try simp only [S, TY, reduceCtorEq, nq0, nq1, nq2, nq3, nq4, iq0, iq1, iq2, iq3, iq4, iq5, iq6, iq7, iq8, q1, q6, q8, q9, c3, c4, c5])))))
        have h6 := dN_shut m' (h5.fronts [1, 1])
        exact .go (i + 1) (by omega) ⟨by omega, q1, q6, q8, rfl, m', hw'.mono (by omega), h6.front 1⟩
      · ((try simp only [S, TY, reduceCtorEq, nq0, nq1, nq2, nq3, nq4, iq0, iq1, iq2, iq3, iq4, iq5, iq6, iq7, iq8, q1, q6, q8, q9, g3]); (try (simp (disch := omega) only [W2, Int.cast_ofNat_Int]; (try simp only [S, TY, reduceCtorEq, nq0, nq1, nq2, nq3, nq4, iq0, iq1, iq2, iq3, iq4, iq5, iq6, iq7, iq8, q1, q6, q8, q9, g3]))); repeat ((first | (refine cl_drawi 14 D11_14 (List.range 21) (by decide) (by kernel_rfl) ?_; unfold D11_14)); simp only [S, TY, reduceCtorEq, nq0, nq1, nq2, nq3, nq4, iq0, iq1, iq2, iq3, iq4, iq5, iq6, iq7, iq8, q1, q6, q8, q9, g3]; (try (simp (disch := omega) only [W2, Int.cast_ofNat_Int]; (try simp only [S, TY, reduceCtorEq, nq0, nq1, nq2, nq3, nq4, iq0, iq1, iq2, iq3, iq4, iq5, iq6, iq7, iq8, q1, q6, q8, q9, g3])))))
        refine (At_nil 0).at_ h [] _ rfl fun r B H2 hr h2 => ?_
        obtain ⟨rfl, rfl⟩ := hr
        ((try simp only [S, TY, reduceCtorEq, nq0, nq1, nq2, nq3, nq4, iq0, iq1, iq2, iq3, iq4, iq5, iq6, iq7, iq8]); (try (simp (disch := omega) only [W2, Int.cast_ofNat_Int]; (try simp only [S, TY, reduceCtorEq, nq0, nq1, nq2, nq3, nq4, iq0, iq1, iq2, iq3, iq4, iq5, iq6, iq7, iq8]))); repeat ((first | (refine cl_drawi 14 D11_14 (List.range 21) (by decide) (by kernel_rfl) ?_; unfold D11_14)); simp only [S, TY, reduceCtorEq, nq0, nq1, nq2, nq3, nq4, iq0, iq1, iq2, iq3, iq4, iq5, iq6, iq7, iq8]; (try (simp (disch := omega) only [W2, Int.cast_ofNat_Int]; (try simp only [S, TY, reduceCtorEq, nq0, nq1, nq2, nq3, nq4, iq0, iq1, iq2, iq3, iq4, iq5, iq6, iq7, iq8])))))
        intro k3 hk3 hg3
        have h3 := h2.new hk3 hg3 (.cells (il 0 0 (.slice none 0 0)).toArray 152 (0, 0))
        ((try simp only [S, TY, reduceCtorEq, nq0, nq1, nq2, nq3, nq4, iq0, iq1, iq2, iq3, iq4, iq5, iq6, iq7, iq8]); (try (simp (disch := omega) only [W2, Int.cast_ofNat_Int]; (try simp only [S, TY, reduceCtorEq, nq0, nq1, nq2, nq3, nq4, iq0, iq1, iq2, iq3, iq4, iq5, iq6, iq7, iq8]))); repeat ((first | (refine cl_drawi 14 D11_14 (List.range 21) (by decide) (by kernel_rfl) ?_; unfold D11_14)); simp only [S, TY, reduceCtorEq, nq0, nq1, nq2, nq3, nq4, iq0, iq1, iq2, iq3, iq4, iq5, iq6, iq7, iq8]; (try (simp (disch := omega) only [W2, Int.cast_ofNat_Int]; (try simp only [S, TY, reduceCtorEq, nq0, nq1, nq2, nq3, nq4, iq0, iq1, iq2, iq3, iq4, iq5, iq6, iq7, iq8])))))
        refine sg.st h3 rfl rfl fun H4 h4 => ?_
        simp only [front_eq, fronts_nil, fronts_cons, List.getElem?_cons_zero, List.getElem?_cons_succ, List.eraseIdx_cons_zero, List.eraseIdx_cons_succ, List.cons_append, List.nil_append, putL_cons, putL_nil, List.set_cons_zero, List.set_cons_succ, Nat.reduceAdd] at h4
        ((try simp only [S, TY, reduceCtorEq, nq0, nq1, nq2, nq3, nq4, iq0, iq1, iq2, iq3, iq4, iq5, iq6, iq7, iq8]); (try (simp (disch := omega) only [W2, Int.cast_ofNat_Int]; (try simp only [S, TY, reduceCtorEq, nq0, nq1, nq2, nq3, nq4, iq0, iq1, iq2, iq3, iq4, iq5, iq6, iq7, iq8]))); repeat ((first | (refine cl_drawi 14 D11_14 (List.range 21) (by decide) (by kernel_rfl) ?_; unfold D11_14)); simp only [S, TY, reduceCtorEq, nq0, nq1, nq2, nq3, nq4, iq0, iq1, iq2, iq3, iq4, iq5, iq6, iq7, iq8]; (try (simp (disch := omega) only [W2, Int.cast_ofNat_Int]; (try simp only [S, TY, reduceCtorEq, nq0, nq1, nq2, nq3, nq4, iq0, iq1, iq2, iq3, iq4, iq5, iq6, iq7, iq8])))))
        refine (Take_nil 0).at_ h4 [] _ rfl fun r B H5 hr h5 => ?_
        obtain ⟨rfl, rfl⟩ := hr
        ((try simp only [S, TY, reduceCtorEq, nq0, nq1, nq2, nq3, nq4, iq0, iq1, iq2, iq3, iq4, iq5, iq6, iq7, iq8]); (try (simp (disch := omega) only [W2, Int.cast_ofNat_Int]; (try simp only [S, TY, reduceCtorEq, nq0, nq1, nq2, nq3, nq4, iq0, iq1, iq2, iq3, iq4, iq5, iq6, iq7, iq8]))); repeat ((first | (refine cl_drawi 14 D11_14 (List.range 21) (by decide) (by kernel_rfl) ?_; unfold D11_14)); simp only [S, TY, reduceCtorEq, nq0, nq1, nq2, nq3, nq4, iq0, iq1, iq2, iq3, iq4, iq5, iq6, iq7, iq8]; (try (simp (disch := omega) only [W2, Int.cast_ofNat_Int]; (try simp only [S, TY, reduceCtorEq, nq0, nq1, nq2, nq3, nq4, iq0, iq1, iq2, iq3, iq4, iq5, iq6, iq7, iq8])))))
        intro k6 hk6 hg6
        have h6 := h5.new hk6 hg6 (.cells (il 0 0 (.slice none 0 0)).toArray 152 (0, 0))
        ((try simp only [S, TY, reduceCtorEq, nq0, nq1, nq2, nq3, nq4, iq0, iq1, iq2, iq3, iq4, iq5, iq6, iq7, iq8]); (try (simp (disch := omega) only [W2, Int.cast_ofNat_Int]; (try simp only [S, TY, reduceCtorEq, nq0, nq1, nq2, nq3, nq4, iq0, iq1, iq2, iq3, iq4, iq5, iq6, iq7, iq8]))); repeat ((first | (refine cl_drawi 14 D11_14 (List.range 21) (by decide) (by kernel_rfl) ?_; unfold D11_14)); simp only [S, TY, reduceCtorEq, nq0, nq1, nq2, nq3, nq4, iq0, iq1, iq2, iq3, iq4, iq5, iq6, iq7, iq8]; (try (simp (disch := omega) only [W2, Int.cast_ofNat_Int]; (try simp only [S, TY, reduceCtorEq, nq0, nq1, nq2, nq3, nq4, iq0, iq1, iq2, iq3, iq4, iq5, iq6, iq7, iq8])))))
        refine sg.st h6 rfl rfl fun H7 h7 => ?_
        simp only [front_eq, fronts_nil, fronts_cons, List.getElem?_cons_zero, List.getElem?_cons_succ, List.eraseIdx_cons_zero, List.eraseIdx_cons_succ, List.cons_append, List.nil_append, putL_cons, putL_nil, List.set_cons_zero, List.set_cons_succ, Nat.reduceAdd] at h7
        ((try simp only [S, TY, reduceCtorEq, nq0, nq1, nq2, nq3, nq4, iq0, iq1, iq2, iq3, iq4, iq5, iq6, iq7, iq8]); (try (simp (disch := omega) only [W2, Int.cast_ofNat_Int]; (try simp only [S, TY, reduceCtorEq, nq0, nq1, nq2, nq3, nq4, iq0, iq1, iq2, iq3, iq4, iq5, iq6, iq7, iq8]))); repeat ((first | (refine cl_drawi 14 D11_14 (List.range 21) (by decide) (by kernel_rfl) ?_; unfold D11_14)); simp only [S, TY, reduceCtorEq, nq0, nq1, nq2, nq3, nq4, iq0, iq1, iq2, iq3, iq4, iq5, iq6, iq7, iq8]; (try (simp (disch := omega) only [W2, Int.cast_ofNat_Int]; (try simp only [S, TY, reduceCtorEq, nq0, nq1, nq2, nq3, nq4, iq0, iq1, iq2, iq3, iq4, iq5, iq6, iq7, iq8])))))
        refine alive.at_ h7 [] _ rfl fun r B H8 hr h8 => ?_
        obtain ⟨rfl, rfl⟩ := hr
        ((try simp only [S, TY, reduceCtorEq, nq0, nq1, nq2, nq3, nq4, iq0, iq1, iq2, iq3, iq4, iq5, iq6, iq7, iq8]); (try (simp (disch := omega) only [W2, Int.cast_ofNat_Int]; (try simp only [S, TY, reduceCtorEq, nq0, nq1, nq2, nq3, nq4, iq0, iq1, iq2, iq3, iq4, iq5, iq6, iq7, iq8]))); repeat ((first | (refine cl_drawi 14 D11_14 (List.range 21) (by decide) (by kernel_rfl) ?_; unfold D11_14)); simp only [S, TY, reduceCtorEq, nq0, nq1, nq2, nq3, nq4, iq0, iq1, iq2, iq3, iq4, iq5, iq6, iq7, iq8]; (try (simp (disch := omega) only [W2, Int.cast_ofNat_Int]; (try simp only [S, TY, reduceCtorEq, nq0, nq1, nq2, nq3, nq4, iq0, iq1, iq2, iq3, iq4, iq5, iq6, iq7, iq8])))))
        refine (Double_nil 0).at_ h8 [] _ rfl fun r B H9 hr h9 => ?_
        obtain ⟨rfl, rfl⟩ := hr
        ((try simp only [S, TY, reduceCtorEq, nq0, nq1, nq2, nq3, nq4, iq0, iq1, iq2, iq3, iq4, iq5, iq6, iq7, iq8]); (try (simp (disch := omega) only [W2, Int.cast_ofNat_Int]; (try simp only [S, TY, reduceCtorEq, nq0, nq1, nq2, nq3, nq4, iq0, iq1, iq2, iq3, iq4, iq5, iq6, iq7, iq8]))); repeat ((first | (refine cl_drawi 14 D11_14 (List.range 21) (by decide) (by kernel_rfl) ?_; unfold D11_14)); simp only [S, TY, reduceCtorEq, nq0, nq1, nq2, nq3, nq4, iq0, iq1, iq2, iq3, iq4, iq5, iq6, iq7, iq8]; (try (simp (disch := omega) only [W2, Int.cast_ofNat_Int]; (try simp only [S, TY, reduceCtorEq, nq0, nq1, nq2, nq3, nq4, iq0, iq1, iq2, iq3, iq4, iq5, iq6, iq7, iq8])))))
        refine (Find_nil 0 0).at_ h9 [] _ rfl fun r B H10 hr h10 => ?_
        obtain ⟨rfl, rfl⟩ := hr
        ((try simp only [S, TY, reduceCtorEq, nq0, nq1, nq2, nq3, nq4, iq0, iq1, iq2, iq3, iq4, iq5, iq6, iq7, iq8]); (try (simp (disch := omega) only [W2, Int.cast_ofNat_Int]; (try simp only [S, TY, reduceCtorEq, nq0, nq1, nq2, nq3, nq4, iq0, iq1, iq2, iq3, iq4, iq5, iq6, iq7, iq8]))); repeat ((first | (refine cl_drawi 14 D11_14 (List.range 21) (by decide) (by kernel_rfl) ?_; unfold D11_14)); simp only [S, TY, reduceCtorEq, nq0, nq1, nq2, nq3, nq4, iq0, iq1, iq2, iq3, iq4, iq5, iq6, iq7, iq8]; (try (simp (disch := omega) only [W2, Int.cast_ofNat_Int]; (try simp only [S, TY, reduceCtorEq, nq0, nq1, nq2, nq3, nq4, iq0, iq1, iq2, iq3, iq4, iq5, iq6, iq7, iq8])))))
        intro k11 hk11 hg11
        have h11 := h10.newsl (e := 152) (sz := 3) (n := 1) (xs := il 0 0 (.slice none 0 0)) hk11 hg11 rfl
        ((try simp only [S, TY, reduceCtorEq, nq0, nq1, nq2, nq3, nq4, iq0, iq1, iq2, iq3, iq4, iq5, iq6, iq7, iq8]); (try (simp (disch := omega) only [W2, Int.cast_ofNat_Int]; (try simp only [S, TY, reduceCtorEq, nq0, nq1, nq2, nq3, nq4, iq0, iq1, iq2, iq3, iq4, iq5, iq6, iq7, iq8]))); repeat ((first | (refine cl_drawi 14 D11_14 (List.range 21) (by decide) (by kernel_rfl) ?_; unfold D11_14)); simp only [S, TY, reduceCtorEq, nq0, nq1, nq2, nq3, nq4, iq0, iq1, iq2, iq3, iq4, iq5, iq6, iq7, iq8]; (try (simp (disch := omega) only [W2, Int.cast_ofNat_Int]; (try simp only [S, TY, reduceCtorEq, nq0, nq1, nq2, nq3, nq4, iq0, iq1, iq2, iq3, iq4, iq5, iq6, iq7, iq8])))))
        refine (Put_nil _).at_ h11 [] _ rfl fun r B H12 hr h12 => ?_
        obtain ⟨rfl, rfl⟩ := hr
        ((try simp only [S, TY, reduceCtorEq, nq0, nq1, nq2, nq3, nq4, iq0, iq1, iq2, iq3, iq4, iq5, iq6, iq7, iq8]); (try (simp (disch := omega) only [W2, Int.cast_ofNat_Int]; (try simp only [S, TY, reduceCtorEq, nq0, nq1, nq2, nq3, nq4, iq0, iq1, iq2, iq3, iq4, iq5, iq6, iq7, iq8]))); repeat ((first | (refine cl_drawi 14 D11_14 (List.range 21) (by decide) (by kernel_rfl) ?_; unfold D11_14)); simp only [S, TY, reduceCtorEq, nq0, nq1, nq2, nq3, nq4, iq0, iq1, iq2, iq3, iq4, iq5, iq6, iq7, iq8]; (try (simp (disch := omega) only [W2, Int.cast_ofNat_Int]; (try simp only [S, TY, reduceCtorEq, nq0, nq1, nq2, nq3, nq4, iq0, iq1, iq2, iq3, iq4, iq5, iq6, iq7, iq8])))))
        refine Len_nil.at_ h12 [] _ rfl fun r B H13 hr h13 => ?_
        obtain ⟨rfl, rfl⟩ := hr
        ((try simp only [S, TY, reduceCtorEq, nq0, nq1, nq2, nq3, nq4, iq0, iq1, iq2, iq3, iq4, iq5, iq6, iq7, iq8]); (try (simp (disch := omega) only [W2, Int.cast_ofNat_Int]; (try simp only [S, TY, reduceCtorEq, nq0, nq1, nq2, nq3, nq4, iq0, iq1, iq2, iq3, iq4, iq5, iq6, iq7, iq8]))); repeat ((first | (refine cl_drawi 14 D11_14 (List.range 21) (by decide) (by kernel_rfl) ?_; unfold D11_14)); simp only [S, TY, reduceCtorEq, nq0, nq1, nq2, nq3, nq4, iq0, iq1, iq2, iq3, iq4, iq5, iq6, iq7, iq8]; (try (simp (disch := omega) only [W2, Int.cast_ofNat_Int]; (try simp only [S, TY, reduceCtorEq, nq0, nq1, nq2, nq3, nq4, iq0, iq1, iq2, iq3, iq4, iq5, iq6, iq7, iq8])))))
        refine Lost_nil.at_ h13 [] _ rfl fun r B H14 hr h14 => ?_
        obtain ⟨rfl, rfl⟩ := hr
        ((try simp only [S, TY, reduceCtorEq, nq0, nq1, nq2, nq3, nq4, iq0, iq1, iq2, iq3, iq4, iq5, iq6, iq7, iq8]); (try (simp (disch := omega) only [W2, Int.cast_ofNat_Int]; (try simp only [S, TY, reduceCtorEq, nq0, nq1, nq2, nq3, nq4, iq0, iq1, iq2, iq3, iq4, iq5, iq6, iq7, iq8]))); repeat ((first | (refine cl_drawi 14 D11_14 (List.range 21) (by decide) (by kernel_rfl) ?_; unfold D11_14)); simp only [S, TY, reduceCtorEq, nq0, nq1, nq2, nq3, nq4, iq0, iq1, iq2, iq3, iq4, iq5, iq6, iq7, iq8]; (try (simp (disch := omega) only [W2, Int.cast_ofNat_Int]; (try simp only [S, TY, reduceCtorEq, nq0, nq1, nq2, nq3, nq4, iq0, iq1, iq2, iq3, iq4, iq5, iq6, iq7, iq8])))))
        exact fin_take (B := []) h14 ⟨rfl, rfl⟩
    · refine (New_no room gl).at_ h1 [] _ rfl fun r B H2 hr h2 => ?_
      obtain ⟨rfl, rfl⟩ := hr
      by_cases g1 : room < 0
      · ((try simp only [S, TY, reduceCtorEq, nq0, nq1, nq2, nq3, nq4, iq0, iq1, iq2, iq3, iq4, iq5, iq6, iq7, iq8, g1]); (try (simp (disch := omega) only [W2, Int.cast_ofNat_Int]; (try simp only [S, TY, reduceCtorEq, nq0, nq1, nq2, nq3, nq4, iq0, iq1, iq2, iq3, iq4, iq5, iq6, iq7, iq8, g1]))); repeat ((first | (refine cl_drawi 14 D11_14 (List.range 21) (by decide) (by kernel_rfl) ?_; unfold D11_14)); simp only [S, TY, reduceCtorEq, nq0, nq1, nq2, nq3, nq4, iq0, iq1, iq2, iq3, iq4, iq5, iq6, iq7, iq8, g1]; (try (simp (disch := omega) only [W2, Int.cast_ofNat_Int]; (try simp only [S, TY, reduceCtorEq, nq0, nq1, nq2, nq3, nq4, iq0, iq1, iq2, iq3, iq4, iq5, iq6, iq7, iq8, g1])))))
        refine alive.at_ h2 [] _ rfl fun r B H3 hr h3 => ?_
        obtain ⟨rfl, rfl⟩ := hr
        ((try simp only [S, TY, reduceCtorEq, nq0, nq1, nq2, nq3, nq4, iq0, iq1, iq2, iq3, iq4, iq5, iq6, iq7, iq8]); (try (simp (disch := omega) only [W2, Int.cast_ofNat_Int]; (try simp only [S, TY, reduceCtorEq, nq0, nq1, nq2, nq3, nq4, iq0, iq1, iq2, iq3, iq4, iq5, iq6, iq7, iq8]))); repeat ((first | (refine cl_drawi 14 D11_14 (List.range 21) (by decide) (by kernel_rfl) ?_; unfold D11_14)); simp only [S, TY, reduceCtorEq, nq0, nq1, nq2, nq3, nq4, iq0, iq1, iq2, iq3, iq4, iq5, iq6, iq7, iq8]; (try (simp (disch := omega) only [W2, Int.cast_ofNat_Int]; (try simp only [S, TY, reduceCtorEq, nq0, nq1, nq2, nq3, nq4, iq0, iq1, iq2, iq3, iq4, iq5, iq6, iq7, iq8])))))
        exact fin_take (B := []) h3 ⟨rfl, rfl⟩
      · have g2 : (4096 : Int) < room := by omega
        ((try simp only [S, TY, reduceCtorEq, nq0, nq1, nq2, nq3, nq4, iq0, iq1, iq2, iq3, iq4, iq5, iq6, iq7, iq8, g1, g2]); (try (simp (disch := omega) only [W2, Int.cast_ofNat_Int]; (try simp only [S, TY, reduceCtorEq, nq0, nq1, nq2, nq3, nq4, iq0, iq1, iq2, iq3, iq4, iq5, iq6, iq7, iq8, g1, g2]))); repeat ((first | (refine cl_drawi 14 D11_14 (List.range 21) (by decide) (by kernel_rfl) ?_; unfold D11_14)); simp only [S, TY, reduceCtorEq, nq0, nq1, nq2, nq3, nq4, iq0, iq1, iq2, iq3, iq4, iq5, iq6, iq7, iq8, g1, g2]; (try (simp (disch := omega) only [W2, Int.cast_ofNat_Int]; (try simp only [S, TY, reduceCtorEq, nq0, nq1, nq2, nq3, nq4, iq0, iq1, iq2, iq3, iq4, iq5, iq6, iq7, iq8, g1, g2])))))
        refine alive.at_ h2 [] _ rfl fun r B H3 hr h3 => ?_
        obtain ⟨rfl, rfl⟩ := hr
        ((try simp only [S, TY, reduceCtorEq, nq0, nq1, nq2, nq3, nq4, iq0, iq1, iq2, iq3, iq4, iq5, iq6, iq7, iq8]); (try (simp (disch := omega) only [W2, Int.cast_ofNat_Int]; (try simp only [S, TY, reduceCtorEq, nq0, nq1, nq2, nq3, nq4, iq0, iq1, iq2, iq3, iq4, iq5, iq6, iq7, iq8]))); repeat ((first | (refine cl_drawi 14 D11_14 (List.range 21) (by decide) (by kernel_rfl) ?_; unfold D11_14)); simp only [S, TY, reduceCtorEq, nq0, nq1, nq2, nq3, nq4, iq0, iq1, iq2, iq3, iq4, iq5, iq6, iq7, iq8]; (try (simp (disch := omega) only [W2, Int.cast_ofNat_Int]; (try simp only [S, TY, reduceCtorEq, nq0, nq1, nq2, nq3, nq4, iq0, iq1, iq2, iq3, iq4, iq5, iq6, iq7, iq8])))))
        exact fin_take (B := []) h3 ⟨rfl, rfl⟩
theorem playsV {G : Hp} {v0 v1 : Value} {y0 : (Ty.int .i64).den} {y1 : (Ty.sl AT).den} (h0 : Ty.V G (.int .i64) v0 y0) (h1 : Ty.V G (.sl AT) v1 y1) :
    Con Try.prog G 11 [v0, v1] [] (fun r B => r = .bool true ∧ B = []) := by
  rcases h0 with ⟨h, _⟩ | ⟨_, h0, _⟩
  · cases h
  rcases h1 with ⟨h, _⟩ | ⟨_, w, h1, hv⟩
  · cases h
  cases h0; cases h1
  exact playsLaw _ hv
end Go.Proofs.Ytanhmbdcdbcfmaa.NtX
