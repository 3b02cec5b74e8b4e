/- Nets: a step; the laws' live question. -/
import Derived.Test.YtanhmbdcdbcfmaaNtL
set_option linter.unusedVariables false
set_option linter.unusedSimpArgs false
set_option maxRecDepth 10000
set_option maxHeartbeats 4000000
namespace Go.Proofs.Ytanhmbdcdbcfmaa.NtS
open Nat renaming reduceEqDiff → nq0, reduceAdd → nq1, reduceLeDiff → nq2, reduceBEq → nq3, reduceMul → nq4
open Int renaming reduceBEq → iq0, reduceEq → iq1, reduceLT → iq2, reduceLE → iq3, reduceAdd → iq4, reduceSub → iq5, reduceMul → iq6, reduceToNat → iq7, cast_ofNat_Int → iq8
open Go Go.Sl Go.Proofs Go.Proofs.Ytanhmbdcdbcfmaa.NtP Go.Proofs.Ytanhmbdcdbcfmaa.Nt Go.Proofs.Ytanhmbdcdbcfmaa.NtK Go.Proofs.Ytanhmbdcdbcfmaa.NtD Go.Proofs.Ytanhmbdcdbcfmaa.NtL
theorem TY : aggN Try.prog 3 = some none ∧
  aggN Try.prog 5 = some none ∧
  aggN Try.prog 30 = some none ∧
  aggN Try.prog 140 = some none ∧
  aggN Try.prog 143 = some none ∧
  aggN Try.prog 148 = some none ∧
  aggN Try.prog 150 = some (some 3) ∧
  aggN Try.prog 152 = some (some 3) ∧
  aggN Try.prog 160 = some (some 3) ∧
  apI Try.prog 148 = some (152, 3, 40) ∧
  bIs Try.prog 150 = true ∧
  bIs Try.prog 152 = true ∧
  bIs Try.prog 160 = true ∧
  csz Try.prog 3 = some 1 ∧
  csz Try.prog 5 = some 1 ∧
  csz Try.prog 30 = some 1 ∧
  csz Try.prog 140 = some 1 ∧
  csz Try.prog 143 = some 1 ∧
  csz Try.prog 148 = some 1 ∧
  csz Try.prog 150 = some 3 ∧
  csz Try.prog 152 = some 3 ∧
  csz Try.prog 160 = some 3 ∧
  eqF Try.prog 160 = some [.i, .i, .s] ∧
  fIs Try.prog 150 0 = true ∧
  fIs Try.prog 150 1 = true ∧
  fIs Try.prog 150 2 = true ∧
  fIs Try.prog 152 0 = true ∧
  fIs Try.prog 152 1 = true ∧
  fOff Try.prog 150 0 = 0 ∧
  fOff Try.prog 150 1 = 1 ∧
  fOff Try.prog 150 2 = 2 ∧
  fOff Try.prog 152 0 = 0 ∧
  fOff Try.prog 152 1 = 1 ∧
  fTy Try.prog 150 0 = 5 ∧
  fTy Try.prog 150 1 = 148 ∧
  fTy Try.prog 150 2 = 3 ∧
  fTy Try.prog 152 0 = 3 ∧
  fTy Try.prog 152 1 = 3 ∧
  goes Try.prog 76 = true ∧
  goes Try.prog 77 = true ∧
  goes Try.prog 78 = true ∧
  goes Try.prog 79 = true ∧
  goes Try.prog 80 = true ∧
  goes Try.prog 81 = true ∧
  goes Try.prog 145 = true ∧
  goes Try.prog 146 = true ∧
  goes Try.prog 147 = true ∧
  goes Try.prog 148 = true ∧
  goes Try.prog 149 = true ∧
  inIs Try.prog 3 = some .i64 ∧
  inIs Try.prog 5 = some .u8 ∧
  inIs Try.prog 30 = some .i64 ∧
  plcs Try.prog 150 = [(0, 1), (1, 1), (2, 1)] ∧
  plcs Try.prog 152 = [(0, 1), (1, 1), (2, 1)] ∧
  plcs Try.prog 160 = [(0, 1), (1, 1), (2, 1)] ∧
  ptIs Try.prog 140 = true ∧
  ptIs Try.prog 143 = true ∧
  slEl Try.prog 148 = 152 ∧
  slIs Try.prog 148 = true ∧
  slSz Try.prog 148 = 3 ∧
  zcs Try.prog 150 = [.int .u8 0, .slice none 0 0, .int .i64 0] ∧
  zcs Try.prog 152 = [.int .i64 0, .int .i64 0, .slice none 0 0] ∧
  zcs Try.prog 160 = [.int .i64 0, .int .i64 0, .string ByteArray.empty] ∧
  zro Try.prog 3 = some (.int .i64 0) ∧
  zro Try.prog 5 = some (.int .u8 0) ∧
  zro Try.prog 30 = some (.int .i64 0) ∧
  zro Try.prog 140 = some (.pointer none) ∧
  zro Try.prog 143 = some (.pointer none) ∧
  zro Try.prog 148 = some (.slice none 0 0) ∧
  zro Try.prog 150 = some (.agg #[.int .u8 0, .slice none 0 0, .int .i64 0]) ∧
  zro Try.prog 152 = some (.agg #[.int .i64 0, .int .i64 0, .slice none 0 0]) ∧
  zro Try.prog 160 = some (.agg #[.int .i64 0, .int .i64 0, .string ByteArray.empty]) :=
  ⟨by kernel_rfl, by kernel_rfl, by kernel_rfl, by kernel_rfl, by kernel_rfl, by kernel_rfl, by kernel_rfl, by kernel_rfl, by kernel_rfl, by kernel_rfl, by kernel_rfl, by kernel_rfl, by kernel_rfl, by kernel_rfl, by kernel_rfl, by kernel_rfl, by kernel_rfl, by kernel_rfl, by kernel_rfl, by kernel_rfl, by kernel_rfl, by kernel_rfl, by kernel_rfl, by kernel_rfl, by kernel_rfl, by kernel_rfl, by kernel_rfl, by kernel_rfl, by kernel_rfl, by kernel_rfl, by kernel_rfl, by kernel_rfl, by kernel_rfl, by kernel_rfl, by kernel_rfl, by kernel_rfl, by kernel_rfl, by kernel_rfl, by kernel_rfl, by kernel_rfl, by kernel_rfl, by kernel_rfl, by kernel_rfl, by kernel_rfl, by kernel_rfl, by kernel_rfl, by kernel_rfl, by kernel_rfl, by kernel_rfl, by kernel_rfl, by kernel_rfl, by kernel_rfl, by kernel_rfl, by kernel_rfl, by kernel_rfl, by kernel_rfl, by kernel_rfl, by kernel_rfl, by kernel_rfl, by kernel_rfl, by kernel_rfl, by kernel_rfl, by kernel_rfl, by kernel_rfl, by kernel_rfl, by kernel_rfl, by kernel_rfl, by kernel_rfl, by kernel_rfl, by kernel_rfl, by kernel_rfl, by kernel_rfl⟩
def D73_6 : List Note := Go.Sl.nn [1, 3, 1, 0, 0, 0, 0, 0, 0, 0]
def D73_13 : List Note := Go.Sl.nn [1, 3, 1, 0, 0, 0, 0, 0, 0, 0]
theorem step_ok {G : Hp} {p q : Nat} {n : Nt} {N : Int} {k i : Int} {w : Value} {yl : List (It × Value)} (hw : n.wf N) (hN : 0 ≤ N ∧ N ≤ 50000) (hy : yl.length ≤ 100) (hr0 : rds G 3 w (yl.flatMap ic)) (hb0 : blobs (yl.map (·.2)) (yl.map (·.1.b)) G) :
    Con Try.prog G 73 [.pointer (some ⟨p, 0, none⟩), .pointer (some ⟨q, 0, none⟩), .agg (actl k w i).toArray] [nN p n, dN q n] (fun r B => r = .bool true ∧ ∃ n' : Nt, n'.wf (N + 100) ∧ B = [nN p n', dN q n']) := by
  have hr1 := hr0
  obtain ⟨wa, wn, wc, rfl, f1, _⟩ := hr0.slice
  rw [flat_len ic_len] at f1
  obtain rfl : wn = yl.length := by omega
  have hwl := hw.l
  have hwr := hw.r
  have n9 : ¬ (9 : Int) = 0 := by decide
  refine Con.intro Try.func73 rfl (Nat.le_of_ble_eq_true (by kernel_rfl)) (by kernel_rfl) Try.results73 ?_
  intro H h
  ((try simp only [S, TY, reduceCtorEq, nq0, nq1, nq2, nq3, nq4, iq0, iq1, iq2, iq3, iq4, iq5, iq6, iq7, iq8]); (try (simp (disch := omega) only [W2, Int.cast_ofNat_Int]; (try simp only [S, TY, reduceCtorEq, nq0, nq1, nq2, nq3, nq4, iq0, iq1, iq2, iq3, iq4, iq5, iq6, iq7, iq8]))); repeat ((first | (refine cl_drawi 6 D73_6 (List.range 10) (by decide) (by kernel_rfl) ?_; unfold D73_6) | (refine cl_drawi 13 D73_13 (List.range 10) (by decide) (by kernel_rfl) ?_; unfold D73_13)); simp only [S, TY, reduceCtorEq, nq0, nq1, nq2, nq3, nq4, iq0, iq1, iq2, iq3, iq4, iq5, iq6, iq7, iq8]; (try (simp (disch := omega) only [W2, Int.cast_ofNat_Int]; (try simp only [S, TY, reduceCtorEq, nq0, nq1, nq2, nq3, nq4, iq0, iq1, iq2, iq3, iq4, iq5, iq6, iq7, iq8])))))
  intro b5 hb5 hg5
  have h1 := h.new hb5 hg5 (.cells (actl k (.slice wa yl.length wc) i).toArray 150 (0, 0))
  have c1 := h1.c0
  by_cases g4 : k.tmod 9 = 4
  · ((try simp only [S, TY, reduceCtorEq, nq0, nq1, nq2, nq3, nq4, iq0, iq1, iq2, iq3, iq4, iq5, iq6, iq7, iq8, c1, n9, g4]); (try (simp (disch := omega) only [W2, Int.cast_ofNat_Int]; (try simp only [S, TY, reduceCtorEq, nq0, nq1, nq2, nq3, nq4, iq0, iq1, iq2, iq3, iq4, iq5, iq6, iq7, iq8, c1, n9, g4]))); repeat ((first | (refine cl_drawi 6 D73_6 (List.range 10) (by decide) (by kernel_rfl) ?_; unfold D73_6) | (refine cl_drawi 13 D73_13 (List.range 10) (by decide) (by kernel_rfl) ?_; unfold D73_13)); simp only [S, TY, reduceCtorEq, nq0, nq1, nq2, nq3, nq4, iq0, iq1, iq2, iq3, iq4, iq5, iq6, iq7, iq8, c1, n9, g4]; (try (simp (disch := omega) only [W2, Int.cast_ofNat_Int]; (try simp only [S, TY, reduceCtorEq, nq0, nq1, nq2, nq3, nq4, iq0, iq1, iq2, iq3, iq4, iq5, iq6, iq7, iq8, c1, n9, g4])))))
    refine (Take_ok hw i).at_ h1 [1] _ rfl fun r B H2 hr h2 => ?_
    unfold TakeR at hr
    by_cases g : n.has i
    · rw [if_pos g] at hr
      obtain ⟨u, rfl, rfl⟩ := hr
      obtain ⟨ua, un, uc, rfl, _, _⟩ := h2.sl 0 rfl Rd_own
      obtain ⟨x, hx⟩ : ∃ x, n.l.getD i.toNat ⟨0, 0, []⟩ = x := ⟨_, rfl⟩
      rw [hx] at h2 ⊢
      obtain ⟨xk, xc, xb⟩ := x
      simp only [front_eq, fronts_nil, fronts_cons, List.getElem?_cons_zero, List.getElem?_cons_succ, List.eraseIdx_cons_zero, List.eraseIdx_cons_succ, List.cons_append, List.nil_append, putL_cons, putL_nil, List.set_cons_zero, List.set_cons_succ, Nat.reduceAdd] at h2
      ((try simp only [S, TY, reduceCtorEq, nq0, nq1, nq2, nq3, nq4, iq0, iq1, iq2, iq3, iq4, iq5, iq6, iq7, iq8]); (try (simp (disch := omega) only [W2, Int.cast_ofNat_Int]; (try simp only [S, TY, reduceCtorEq, nq0, nq1, nq2, nq3, nq4, iq0, iq1, iq2, iq3, iq4, iq5, iq6, iq7, iq8]))); repeat ((first | (refine cl_drawi 6 D73_6 (List.range 10) (by decide) (by kernel_rfl) ?_; unfold D73_6) | (refine cl_drawi 13 D73_13 (List.range 10) (by decide) (by kernel_rfl) ?_; unfold D73_13)); simp only [S, TY, reduceCtorEq, nq0, nq1, nq2, nq3, nq4, iq0, iq1, iq2, iq3, iq4, iq5, iq6, iq7, iq8]; (try (simp (disch := omega) only [W2, Int.cast_ofNat_Int]; (try simp only [S, TY, reduceCtorEq, nq0, nq1, nq2, nq3, nq4, iq0, iq1, iq2, iq3, iq4, iq5, iq6, iq7, iq8])))))
      intro k3 hk3 hg3
      have h3 := h2.new hk3 hg3 (.cells (il 0 0 (.slice none 0 0)).toArray 152 (0, 0))
      ((try simp only [S, TY, reduceCtorEq, nq0, nq1, nq2, nq3, nq4, iq0, iq1, iq2, iq3, iq4, iq5, iq6, iq7, iq8]); (try (simp (disch := omega) only [W2, Int.cast_ofNat_Int]; (try simp only [S, TY, reduceCtorEq, nq0, nq1, nq2, nq3, nq4, iq0, iq1, iq2, iq3, iq4, iq5, iq6, iq7, iq8]))); repeat ((first | (refine cl_drawi 6 D73_6 (List.range 10) (by decide) (by kernel_rfl) ?_; unfold D73_6) | (refine cl_drawi 13 D73_13 (List.range 10) (by decide) (by kernel_rfl) ?_; unfold D73_13)); simp only [S, TY, reduceCtorEq, nq0, nq1, nq2, nq3, nq4, iq0, iq1, iq2, iq3, iq4, iq5, iq6, iq7, iq8]; (try (simp (disch := omega) only [W2, Int.cast_ofNat_Int]; (try simp only [S, TY, reduceCtorEq, nq0, nq1, nq2, nq3, nq4, iq0, iq1, iq2, iq3, iq4, iq5, iq6, iq7, iq8])))))
      refine sg.st h3 rfl rfl fun H4 h4 => ?_
      simp only [front_eq, fronts_nil, fronts_cons, List.getElem?_cons_zero, List.getElem?_cons_succ, List.eraseIdx_cons_zero, List.eraseIdx_cons_succ, List.cons_append, List.nil_append, putL_cons, putL_nil, List.set_cons_zero, List.set_cons_succ, Nat.reduceAdd] at h4
      have c4 := h4.ci 3 rfl
      ((try simp only [S, TY, reduceCtorEq, nq0, nq1, nq2, nq3, nq4, iq0, iq1, iq2, iq3, iq4, iq5, iq6, iq7, iq8, c4]); (try (simp (disch := omega) only [W2, Int.cast_ofNat_Int]; (try simp only [S, TY, reduceCtorEq, nq0, nq1, nq2, nq3, nq4, iq0, iq1, iq2, iq3, iq4, iq5, iq6, iq7, iq8, c4]))); repeat ((first | (refine cl_drawi 6 D73_6 (List.range 10) (by decide) (by kernel_rfl) ?_; unfold D73_6) | (refine cl_drawi 13 D73_13 (List.range 10) (by decide) (by kernel_rfl) ?_; unfold D73_13)); simp only [S, TY, reduceCtorEq, nq0, nq1, nq2, nq3, nq4, iq0, iq1, iq2, iq3, iq4, iq5, iq6, iq7, iq8, c4]; (try (simp (disch := omega) only [W2, Int.cast_ofNat_Int]; (try simp only [S, TY, reduceCtorEq, nq0, nq1, nq2, nq3, nq4, iq0, iq1, iq2, iq3, iq4, iq5, iq6, iq7, iq8, c4])))))
      refine (dTake_ok hw i).at_ h4 [4] _ rfl fun r B H5 hr h5 => ?_
      unfold dAtR at hr
      rw [if_pos g, hx] at hr
      obtain ⟨rfl, rfl⟩ := hr
      simp only [front_eq, fronts_nil, fronts_cons, List.getElem?_cons_zero, List.getElem?_cons_succ, List.eraseIdx_cons_zero, List.eraseIdx_cons_succ, List.cons_append, List.nil_append, putL_cons, putL_nil, List.set_cons_zero, List.set_cons_succ, Nat.reduceAdd] at h5
      ((try simp only [S, TY, reduceCtorEq, nq0, nq1, nq2, nq3, nq4, iq0, iq1, iq2, iq3, iq4, iq5, iq6, iq7, iq8]); (try (simp (disch := omega) only [W2, Int.cast_ofNat_Int]; (try simp only [S, TY, reduceCtorEq, nq0, nq1, nq2, nq3, nq4, iq0, iq1, iq2, iq3, iq4, iq5, iq6, iq7, iq8]))); repeat ((first | (refine cl_drawi 6 D73_6 (List.range 10) (by decide) (by kernel_rfl) ?_; unfold D73_6) | (refine cl_drawi 13 D73_13 (List.range 10) (by decide) (by kernel_rfl) ?_; unfold D73_13)); simp only [S, TY, reduceCtorEq, nq0, nq1, nq2, nq3, nq4, iq0, iq1, iq2, iq3, iq4, iq5, iq6, iq7, iq8]; (try (simp (disch := omega) only [W2, Int.cast_ofNat_Int]; (try simp only [S, TY, reduceCtorEq, nq0, nq1, nq2, nq3, nq4, iq0, iq1, iq2, iq3, iq4, iq5, iq6, iq7, iq8])))))
      intro k6 hk6 hg6
      have h6 := h5.new hk6 hg6 (.cells dz.toArray 160 (0, 0))
      ((try simp only [S, TY, reduceCtorEq, nq0, nq1, nq2, nq3, nq4, iq0, iq1, iq2, iq3, iq4, iq5, iq6, iq7, iq8]); (try (simp (disch := omega) only [W2, Int.cast_ofNat_Int]; (try simp only [S, TY, reduceCtorEq, nq0, nq1, nq2, nq3, nq4, iq0, iq1, iq2, iq3, iq4, iq5, iq6, iq7, iq8]))); repeat ((first | (refine cl_drawi 6 D73_6 (List.range 10) (by decide) (by kernel_rfl) ?_; unfold D73_6) | (refine cl_drawi 13 D73_13 (List.range 10) (by decide) (by kernel_rfl) ?_; unfold D73_13)); simp only [S, TY, reduceCtorEq, nq0, nq1, nq2, nq3, nq4, iq0, iq1, iq2, iq3, iq4, iq5, iq6, iq7, iq8]; (try (simp (disch := omega) only [W2, Int.cast_ofNat_Int]; (try simp only [S, TY, reduceCtorEq, nq0, nq1, nq2, nq3, nq4, iq0, iq1, iq2, iq3, iq4, iq5, iq6, iq7, iq8])))))
      refine sg.st h6 rfl rfl fun H7 h7 => ?_
      simp only [front_eq, fronts_nil, fronts_cons, List.getElem?_cons_zero, List.getElem?_cons_succ, List.eraseIdx_cons_zero, List.eraseIdx_cons_succ, List.cons_append, List.nil_append, putL_cons, putL_nil, List.set_cons_zero, List.set_cons_succ, Nat.reduceAdd] at h7
      have w7 := h7.li 2 rfl
      have v7 := h7.li 0 rfl
      ((try simp only [S, TY, reduceCtorEq, nq0, nq1, nq2, nq3, nq4, iq0, iq1, iq2, iq3, iq4, iq5, iq6, iq7, iq8, w7, v7]); (try (simp (disch := omega) only [W2, Int.cast_ofNat_Int]; (try simp only [S, TY, reduceCtorEq, nq0, nq1, nq2, nq3, nq4, iq0, iq1, iq2, iq3, iq4, iq5, iq6, iq7, iq8, w7, v7]))); repeat ((first | (refine cl_drawi 6 D73_6 (List.range 10) (by decide) (by kernel_rfl) ?_; unfold D73_6) | (refine cl_drawi 13 D73_13 (List.range 10) (by decide) (by kernel_rfl) ?_; unfold D73_13)); simp only [S, TY, reduceCtorEq, nq0, nq1, nq2, nq3, nq4, iq0, iq1, iq2, iq3, iq4, iq5, iq6, iq7, iq8, w7, v7]; (try (simp (disch := omega) only [W2, Int.cast_ofNat_Int]; (try simp only [S, TY, reduceCtorEq, nq0, nq1, nq2, nq3, nq4, iq0, iq1, iq2, iq3, iq4, iq5, iq6, iq7, iq8, w7, v7])))))
      refine Con.lend_at [] [own 5 1 (.slice ua un uc) (bv xb)] h7 [3] rfl (fun F hF hs => Of_ok ⟨xk, xc, xb⟩ (seps_own hs 0 rfl).left) fun r B H8 hr h8 => ?_
      obtain ⟨rfl, rfl⟩ := hr
      simp only [front_eq, fronts_nil, fronts_cons, List.getElem?_cons_zero, List.getElem?_cons_succ, List.eraseIdx_cons_zero, List.eraseIdx_cons_succ, List.cons_append, List.nil_append, putL_cons, putL_nil, List.set_cons_zero, List.set_cons_succ, Nat.reduceAdd] at h8
      have w8 := h8.li 3 rfl
      have v8 := h8.li 1 rfl
      ((try simp only [S, TY, reduceCtorEq, nq0, nq1, nq2, nq3, nq4, iq0, iq1, iq2, iq3, iq4, iq5, iq6, iq7, iq8, w7, v7, w8, v8]); (try (simp (disch := omega) only [W2, Int.cast_ofNat_Int]; (try simp only [S, TY, reduceCtorEq, nq0, nq1, nq2, nq3, nq4, iq0, iq1, iq2, iq3, iq4, iq5, iq6, iq7, iq8, w7, v7, w8, v8]))); repeat ((first | (refine cl_drawi 6 D73_6 (List.range 10) (by decide) (by kernel_rfl) ?_; unfold D73_6) | (refine cl_drawi 13 D73_13 (List.range 10) (by decide) (by kernel_rfl) ?_; unfold D73_13)); simp only [S, TY, reduceCtorEq, nq0, nq1, nq2, nq3, nq4, iq0, iq1, iq2, iq3, iq4, iq5, iq6, iq7, iq8, w7, v7, w8, v8]; (try (simp (disch := omega) only [W2, Int.cast_ofNat_Int]; (try simp only [S, TY, reduceCtorEq, nq0, nq1, nq2, nq3, nq4, iq0, iq1, iq2, iq3, iq4, iq5, iq6, iq7, iq8, w7, v7, w8, v8])))))
      exact fin_take (B := [_, _]) (h8.fronts [4, 2]) ⟨rfl, _, (wf_drop hw i).mono (by omega), rfl⟩
    · rw [if_neg g] at hr
      obtain ⟨rfl, rfl⟩ := hr
      simp only [front_eq, fronts_nil, fronts_cons, List.getElem?_cons_zero, List.getElem?_cons_succ, List.eraseIdx_cons_zero, List.eraseIdx_cons_succ, List.cons_append, List.nil_append, putL_cons, putL_nil, List.set_cons_zero, List.set_cons_succ, Nat.reduceAdd] at h2
      ((try simp only [S, TY, reduceCtorEq, nq0, nq1, nq2, nq3, nq4, iq0, iq1, iq2, iq3, iq4, iq5, iq6, iq7, iq8]); (try (simp (disch := omega) only [W2, Int.cast_ofNat_Int]; (try simp only [S, TY, reduceCtorEq, nq0, nq1, nq2, nq3, nq4, iq0, iq1, iq2, iq3, iq4, iq5, iq6, iq7, iq8]))); repeat ((first | (refine cl_drawi 6 D73_6 (List.range 10) (by decide) (by kernel_rfl) ?_; unfold D73_6) | (refine cl_drawi 13 D73_13 (List.range 10) (by decide) (by kernel_rfl) ?_; unfold D73_13)); simp only [S, TY, reduceCtorEq, nq0, nq1, nq2, nq3, nq4, iq0, iq1, iq2, iq3, iq4, iq5, iq6, iq7, iq8]; (try (simp (disch := omega) only [W2, Int.cast_ofNat_Int]; (try simp only [S, TY, reduceCtorEq, nq0, nq1, nq2, nq3, nq4, iq0, iq1, iq2, iq3, iq4, iq5, iq6, iq7, iq8])))))
      intro k3 hk3 hg3
      have h3 := h2.new hk3 hg3 (.cells (il 0 0 (.slice none 0 0)).toArray 152 (0, 0))
      ((try simp only [S, TY, reduceCtorEq, nq0, nq1, nq2, nq3, nq4, iq0, iq1, iq2, iq3, iq4, iq5, iq6, iq7, iq8]); (try (simp (disch := omega) only [W2, Int.cast_ofNat_Int]; (try simp only [S, TY, reduceCtorEq, nq0, nq1, nq2, nq3, nq4, iq0, iq1, iq2, iq3, iq4, iq5, iq6, iq7, iq8]))); repeat ((first | (refine cl_drawi 6 D73_6 (List.range 10) (by decide) (by kernel_rfl) ?_; unfold D73_6) | (refine cl_drawi 13 D73_13 (List.range 10) (by decide) (by kernel_rfl) ?_; unfold D73_13)); simp only [S, TY, reduceCtorEq, nq0, nq1, nq2, nq3, nq4, iq0, iq1, iq2, iq3, iq4, iq5, iq6, iq7, iq8]; (try (simp (disch := omega) only [W2, Int.cast_ofNat_Int]; (try simp only [S, TY, reduceCtorEq, nq0, nq1, nq2, nq3, nq4, iq0, iq1, iq2, iq3, iq4, iq5, iq6, iq7, iq8])))))
      refine sg.st h3 rfl rfl fun H4 h4 => ?_
      simp only [front_eq, fronts_nil, fronts_cons, List.getElem?_cons_zero, List.getElem?_cons_succ, List.eraseIdx_cons_zero, List.eraseIdx_cons_succ, List.cons_append, List.nil_append, putL_cons, putL_nil, List.set_cons_zero, List.set_cons_succ, Nat.reduceAdd] at h4
      have c4 := h4.ci 2 rfl
      ((try simp only [S, TY, reduceCtorEq, nq0, nq1, nq2, nq3, nq4, iq0, iq1, iq2, iq3, iq4, iq5, iq6, iq7, iq8, c4]); (try (simp (disch := omega) only [W2, Int.cast_ofNat_Int]; (try simp only [S, TY, reduceCtorEq, nq0, nq1, nq2, nq3, nq4, iq0, iq1, iq2, iq3, iq4, iq5, iq6, iq7, iq8, c4]))); repeat ((first | (refine cl_drawi 6 D73_6 (List.range 10) (by decide) (by kernel_rfl) ?_; unfold D73_6) | (refine cl_drawi 13 D73_13 (List.range 10) (by decide) (by kernel_rfl) ?_; unfold D73_13)); simp only [S, TY, reduceCtorEq, nq0, nq1, nq2, nq3, nq4, iq0, iq1, iq2, iq3, iq4, iq5, iq6, iq7, iq8, c4]; (try (simp (disch := omega) only [W2, Int.cast_ofNat_Int]; (try simp only [S, TY, reduceCtorEq, nq0, nq1, nq2, nq3, nq4, iq0, iq1, iq2, iq3, iq4, iq5, iq6, iq7, iq8, c4])))))
      refine (dTake_ok hw i).at_ h4 [3] _ rfl fun r B H5 hr h5 => ?_
      unfold dAtR at hr
      rw [if_neg g] at hr
      obtain ⟨rfl, rfl⟩ := hr
      simp only [front_eq, fronts_nil, fronts_cons, List.getElem?_cons_zero, List.getElem?_cons_succ, List.eraseIdx_cons_zero, List.eraseIdx_cons_succ, List.cons_append, List.nil_append, putL_cons, putL_nil, List.set_cons_zero, List.set_cons_succ, Nat.reduceAdd] at h5
      ((try simp only [S, TY, reduceCtorEq, nq0, nq1, nq2, nq3, nq4, iq0, iq1, iq2, iq3, iq4, iq5, iq6, iq7, iq8]); (try (simp (disch := omega) only [W2, Int.cast_ofNat_Int]; (try simp only [S, TY, reduceCtorEq, nq0, nq1, nq2, nq3, nq4, iq0, iq1, iq2, iq3, iq4, iq5, iq6, iq7, iq8]))); repeat ((first | (refine cl_drawi 6 D73_6 (List.range 10) (by decide) (by kernel_rfl) ?_; unfold D73_6) | (refine cl_drawi 13 D73_13 (List.range 10) (by decide) (by kernel_rfl) ?_; unfold D73_13)); simp only [S, TY, reduceCtorEq, nq0, nq1, nq2, nq3, nq4, iq0, iq1, iq2, iq3, iq4, iq5, iq6, iq7, iq8]; (try (simp (disch := omega) only [W2, Int.cast_ofNat_Int]; (try simp only [S, TY, reduceCtorEq, nq0, nq1, nq2, nq3, nq4, iq0, iq1, iq2, iq3, iq4, iq5, iq6, iq7, iq8])))))
      intro k6 hk6 hg6
      have h6 := h5.new hk6 hg6 (.cells dz.toArray 160 (0, 0))
      ((try simp only [S, TY, reduceCtorEq, nq0, nq1, nq2, nq3, nq4, iq0, iq1, iq2, iq3, iq4, iq5, iq6, iq7, iq8]); (try (simp (disch := omega) only [W2, Int.cast_ofNat_Int]; (try simp only [S, TY, reduceCtorEq, nq0, nq1, nq2, nq3, nq4, iq0, iq1, iq2, iq3, iq4, iq5, iq6, iq7, iq8]))); repeat ((first | (refine cl_drawi 6 D73_6 (List.range 10) (by decide) (by kernel_rfl) ?_; unfold D73_6) | (refine cl_drawi 13 D73_13 (List.range 10) (by decide) (by kernel_rfl) ?_; unfold D73_13)); simp only [S, TY, reduceCtorEq, nq0, nq1, nq2, nq3, nq4, iq0, iq1, iq2, iq3, iq4, iq5, iq6, iq7, iq8]; (try (simp (disch := omega) only [W2, Int.cast_ofNat_Int]; (try simp only [S, TY, reduceCtorEq, nq0, nq1, nq2, nq3, nq4, iq0, iq1, iq2, iq3, iq4, iq5, iq6, iq7, iq8])))))
      refine sg.st h6 rfl rfl fun H7 h7 => ?_
      simp only [front_eq, fronts_nil, fronts_cons, List.getElem?_cons_zero, List.getElem?_cons_succ, List.eraseIdx_cons_zero, List.eraseIdx_cons_succ, List.cons_append, List.nil_append, putL_cons, putL_nil, List.set_cons_zero, List.set_cons_succ, Nat.reduceAdd] at h7
      have w7 := h7.li 2 rfl
      have v7 := h7.li 0 rfl
      have ez : bs [] = ByteArray.empty := rfl
      ((try simp only [S, TY, reduceCtorEq, nq0, nq1, nq2, nq3, nq4, iq0, iq1, iq2, iq3, iq4, iq5, iq6, iq7, iq8, w7, v7]); (try (simp (disch := omega) only [W2, Int.cast_ofNat_Int]; (try simp only [S, TY, reduceCtorEq, nq0, nq1, nq2, nq3, nq4, iq0, iq1, iq2, iq3, iq4, iq5, iq6, iq7, iq8, w7, v7]))); repeat ((first | (refine cl_drawi 6 D73_6 (List.range 10) (by decide) (by kernel_rfl) ?_; unfold D73_6) | (refine cl_drawi 13 D73_13 (List.range 10) (by decide) (by kernel_rfl) ?_; unfold D73_13)); simp only [S, TY, reduceCtorEq, nq0, nq1, nq2, nq3, nq4, iq0, iq1, iq2, iq3, iq4, iq5, iq6, iq7, iq8, w7, v7]; (try (simp (disch := omega) only [W2, Int.cast_ofNat_Int]; (try simp only [S, TY, reduceCtorEq, nq0, nq1, nq2, nq3, nq4, iq0, iq1, iq2, iq3, iq4, iq5, iq6, iq7, iq8, w7, v7])))))
      refine (Of_ok ⟨0, 0, []⟩ SeW.nil8).at_ h7 [] _ rfl fun r B H8 hr h8 => ?_
      obtain ⟨rfl, rfl⟩ := hr
      simp only [front_eq, fronts_nil, fronts_cons, List.getElem?_cons_zero, List.getElem?_cons_succ, List.eraseIdx_cons_zero, List.eraseIdx_cons_succ, List.cons_append, List.nil_append, putL_cons, putL_nil, List.set_cons_zero, List.set_cons_succ, Nat.reduceAdd] at h8
      have w8 := h8.li 2 rfl
      have v8 := h8.li 0 rfl
      ((try simp only [S, TY, reduceCtorEq, nq0, nq1, nq2, nq3, nq4, iq0, iq1, iq2, iq3, iq4, iq5, iq6, iq7, iq8, w7, v7, w8, v8, ez]); (try (simp (disch := omega) only [W2, Int.cast_ofNat_Int]; (try simp only [S, TY, reduceCtorEq, nq0, nq1, nq2, nq3, nq4, iq0, iq1, iq2, iq3, iq4, iq5, iq6, iq7, iq8, w7, v7, w8, v8, ez]))); repeat ((first | (refine cl_drawi 6 D73_6 (List.range 10) (by decide) (by kernel_rfl) ?_; unfold D73_6) | (refine cl_drawi 13 D73_13 (List.range 10) (by decide) (by kernel_rfl) ?_; unfold D73_13)); simp only [S, TY, reduceCtorEq, nq0, nq1, nq2, nq3, nq4, iq0, iq1, iq2, iq3, iq4, iq5, iq6, iq7, iq8, w7, v7, w8, v8, ez]; (try (simp (disch := omega) only [W2, Int.cast_ofNat_Int]; (try simp only [S, TY, reduceCtorEq, nq0, nq1, nq2, nq3, nq4, iq0, iq1, iq2, iq3, iq4, iq5, iq6, iq7, iq8, w7, v7, w8, v8, ez])))))
      exact fin_take (B := [_, _]) (h8.fronts [3, 1]) ⟨rfl, _, hw.mono (by omega), rfl⟩
  · by_cases g5 : k.tmod 9 = 5
    · ((try simp only [S, TY, reduceCtorEq, nq0, nq1, nq2, nq3, nq4, iq0, iq1, iq2, iq3, iq4, iq5, iq6, iq7, iq8, c1, n9, g4, g5]); (try (simp (disch := omega) only [W2, Int.cast_ofNat_Int]; (try simp only [S, TY, reduceCtorEq, nq0, nq1, nq2, nq3, nq4, iq0, iq1, iq2, iq3, iq4, iq5, iq6, iq7, iq8, c1, n9, g4, g5]))); repeat ((first | (refine cl_drawi 6 D73_6 (List.range 10) (by decide) (by kernel_rfl) ?_; unfold D73_6) | (refine cl_drawi 13 D73_13 (List.range 10) (by decide) (by kernel_rfl) ?_; unfold D73_13)); simp only [S, TY, reduceCtorEq, nq0, nq1, nq2, nq3, nq4, iq0, iq1, iq2, iq3, iq4, iq5, iq6, iq7, iq8, c1, n9, g4, g5]; (try (simp (disch := omega) only [W2, Int.cast_ofNat_Int]; (try simp only [S, TY, reduceCtorEq, nq0, nq1, nq2, nq3, nq4, iq0, iq1, iq2, iq3, iq4, iq5, iq6, iq7, iq8, c1, n9, g4, g5])))))
      refine (Take_ok hw i).at_ h1 [1] _ rfl fun r B H2 hr h2 => ?_
      unfold TakeR at hr
      by_cases g : n.has i
      · rw [if_pos g] at hr
        obtain ⟨u, rfl, rfl⟩ := hr
        obtain ⟨ua, un, uc, rfl, _, _⟩ := h2.sl 0 rfl Rd_own
        obtain ⟨x, hx⟩ : ∃ x, n.l.getD i.toNat ⟨0, 0, []⟩ = x := ⟨_, rfl⟩
        rw [hx] at h2 ⊢
        obtain ⟨xk, xc, xb⟩ := x
        simp only [front_eq, fronts_nil, fronts_cons, List.getElem?_cons_zero, List.getElem?_cons_succ, List.eraseIdx_cons_zero, List.eraseIdx_cons_succ, List.cons_append, List.nil_append, putL_cons, putL_nil, List.set_cons_zero, List.set_cons_succ, Nat.reduceAdd] at h2
        ((try simp only [S, TY, reduceCtorEq, nq0, nq1, nq2, nq3, nq4, iq0, iq1, iq2, iq3, iq4, iq5, iq6, iq7, iq8]); (try (simp (disch := omega) only [W2, Int.cast_ofNat_Int]; (try simp only [S, TY, reduceCtorEq, nq0, nq1, nq2, nq3, nq4, iq0, iq1, iq2, iq3, iq4, iq5, iq6, iq7, iq8]))); repeat ((first | (refine cl_drawi 6 D73_6 (List.range 10) (by decide) (by kernel_rfl) ?_; unfold D73_6) | (refine cl_drawi 13 D73_13 (List.range 10) (by decide) (by kernel_rfl) ?_; unfold D73_13)); simp only [S, TY, reduceCtorEq, nq0, nq1, nq2, nq3, nq4, iq0, iq1, iq2, iq3, iq4, iq5, iq6, iq7, iq8]; (try (simp (disch := omega) only [W2, Int.cast_ofNat_Int]; (try simp only [S, TY, reduceCtorEq, nq0, nq1, nq2, nq3, nq4, iq0, iq1, iq2, iq3, iq4, iq5, iq6, iq7, iq8])))))
        intro k3 hk3 hg3
        have h3 := h2.new hk3 hg3 (.cells (il 0 0 (.slice none 0 0)).toArray 152 (0, 0))
        ((try simp only [S, TY, reduceCtorEq, nq0, nq1, nq2, nq3, nq4, iq0, iq1, iq2, iq3, iq4, iq5, iq6, iq7, iq8]); (try (simp (disch := omega) only [W2, Int.cast_ofNat_Int]; (try simp only [S, TY, reduceCtorEq, nq0, nq1, nq2, nq3, nq4, iq0, iq1, iq2, iq3, iq4, iq5, iq6, iq7, iq8]))); repeat ((first | (refine cl_drawi 6 D73_6 (List.range 10) (by decide) (by kernel_rfl) ?_; unfold D73_6) | (refine cl_drawi 13 D73_13 (List.range 10) (by decide) (by kernel_rfl) ?_; unfold D73_13)); simp only [S, TY, reduceCtorEq, nq0, nq1, nq2, nq3, nq4, iq0, iq1, iq2, iq3, iq4, iq5, iq6, iq7, iq8]; (try (simp (disch := omega) only [W2, Int.cast_ofNat_Int]; (try simp only [S, TY, reduceCtorEq, nq0, nq1, nq2, nq3, nq4, iq0, iq1, iq2, iq3, iq4, iq5, iq6, iq7, iq8])))))
        refine sg.st h3 rfl rfl fun H4 h4 => ?_
        simp only [front_eq, fronts_nil, fronts_cons, List.getElem?_cons_zero, List.getElem?_cons_succ, List.eraseIdx_cons_zero, List.eraseIdx_cons_succ, List.cons_append, List.nil_append, putL_cons, putL_nil, List.set_cons_zero, List.set_cons_succ, Nat.reduceAdd] at h4
        have c4 := h4.ci 3 rfl
        ((try simp only [S, TY, reduceCtorEq, nq0, nq1, nq2, nq3, nq4, iq0, iq1, iq2, iq3, iq4, iq5, iq6, iq7, iq8, c4]); (try (simp (disch := omega) only [W2, Int.cast_ofNat_Int]; (try simp only [S, TY, reduceCtorEq, nq0, nq1, nq2, nq3, nq4, iq0, iq1, iq2, iq3, iq4, iq5, iq6, iq7, iq8, c4]))); repeat ((first | (refine cl_drawi 6 D73_6 (List.range 10) (by decide) (by kernel_rfl) ?_; unfold D73_6) | (refine cl_drawi 13 D73_13 (List.range 10) (by decide) (by kernel_rfl) ?_; unfold D73_13)); simp only [S, TY, reduceCtorEq, nq0, nq1, nq2, nq3, nq4, iq0, iq1, iq2, iq3, iq4, iq5, iq6, iq7, iq8, c4]; (try (simp (disch := omega) only [W2, Int.cast_ofNat_Int]; (try simp only [S, TY, reduceCtorEq, nq0, nq1, nq2, nq3, nq4, iq0, iq1, iq2, iq3, iq4, iq5, iq6, iq7, iq8, c4])))))
        refine (dTake_ok hw i).at_ h4 [4] _ rfl fun r B H5 hr h5 => ?_
        unfold dAtR at hr
        rw [if_pos g, hx] at hr
        obtain ⟨rfl, rfl⟩ := hr
        simp only [front_eq, fronts_nil, fronts_cons, List.getElem?_cons_zero, List.getElem?_cons_succ, List.eraseIdx_cons_zero, List.eraseIdx_cons_succ, List.cons_append, List.nil_append, putL_cons, putL_nil, List.set_cons_zero, List.set_cons_succ, Nat.reduceAdd] at h5
        ((try simp only [S, TY, reduceCtorEq, nq0, nq1, nq2, nq3, nq4, iq0, iq1, iq2, iq3, iq4, iq5, iq6, iq7, iq8]); (try (simp (disch := omega) only [W2, Int.cast_ofNat_Int]; (try simp only [S, TY, reduceCtorEq, nq0, nq1, nq2, nq3, nq4, iq0, iq1, iq2, iq3, iq4, iq5, iq6, iq7, iq8]))); repeat ((first | (refine cl_drawi 6 D73_6 (List.range 10) (by decide) (by kernel_rfl) ?_; unfold D73_6) | (refine cl_drawi 13 D73_13 (List.range 10) (by decide) (by kernel_rfl) ?_; unfold D73_13)); simp only [S, TY, reduceCtorEq, nq0, nq1, nq2, nq3, nq4, iq0, iq1, iq2, iq3, iq4, iq5, iq6, iq7, iq8]; (try (simp (disch := omega) only [W2, Int.cast_ofNat_Int]; (try simp only [S, TY, reduceCtorEq, nq0, nq1, nq2, nq3, nq4, iq0, iq1, iq2, iq3, iq4, iq5, iq6, iq7, iq8])))))
        intro k6 hk6 hg6
        have h6 := h5.new hk6 hg6 (.cells dz.toArray 160 (0, 0))
        ((try simp only [S, TY, reduceCtorEq, nq0, nq1, nq2, nq3, nq4, iq0, iq1, iq2, iq3, iq4, iq5, iq6, iq7, iq8]); (try (simp (disch := omega) only [W2, Int.cast_ofNat_Int]; (try simp only [S, TY, reduceCtorEq, nq0, nq1, nq2, nq3, nq4, iq0, iq1, iq2, iq3, iq4, iq5, iq6, iq7, iq8]))); repeat ((first | (refine cl_drawi 6 D73_6 (List.range 10) (by decide) (by kernel_rfl) ?_; unfold D73_6) | (refine cl_drawi 13 D73_13 (List.range 10) (by decide) (by kernel_rfl) ?_; unfold D73_13)); simp only [S, TY, reduceCtorEq, nq0, nq1, nq2, nq3, nq4, iq0, iq1, iq2, iq3, iq4, iq5, iq6, iq7, iq8]; (try (simp (disch := omega) only [W2, Int.cast_ofNat_Int]; (try simp only [S, TY, reduceCtorEq, nq0, nq1, nq2, nq3, nq4, iq0, iq1, iq2, iq3, iq4, iq5, iq6, iq7, iq8])))))
        refine sg.st h6 rfl rfl fun H7 h7 => ?_
        simp only [front_eq, fronts_nil, fronts_cons, List.getElem?_cons_zero, List.getElem?_cons_succ, List.eraseIdx_cons_zero, List.eraseIdx_cons_succ, List.cons_append, List.nil_append, putL_cons, putL_nil, List.set_cons_zero, List.set_cons_succ, Nat.reduceAdd] at h7
        have w7 := h7.li 2 rfl
        have v7 := h7.li 0 rfl
        ((try simp only [S, TY, reduceCtorEq, nq0, nq1, nq2, nq3, nq4, iq0, iq1, iq2, iq3, iq4, iq5, iq6, iq7, iq8, w7, v7]); (try (simp (disch := omega) only [W2, Int.cast_ofNat_Int]; (try simp only [S, TY, reduceCtorEq, nq0, nq1, nq2, nq3, nq4, iq0, iq1, iq2, iq3, iq4, iq5, iq6, iq7, iq8, w7, v7]))); repeat ((first | (refine cl_drawi 6 D73_6 (List.range 10) (by decide) (by kernel_rfl) ?_; unfold D73_6) | (refine cl_drawi 13 D73_13 (List.range 10) (by decide) (by kernel_rfl) ?_; unfold D73_13)); simp only [S, TY, reduceCtorEq, nq0, nq1, nq2, nq3, nq4, iq0, iq1, iq2, iq3, iq4, iq5, iq6, iq7, iq8, w7, v7]; (try (simp (disch := omega) only [W2, Int.cast_ofNat_Int]; (try simp only [S, TY, reduceCtorEq, nq0, nq1, nq2, nq3, nq4, iq0, iq1, iq2, iq3, iq4, iq5, iq6, iq7, iq8, w7, v7])))))
        refine Con.lend_at [] [own 5 1 (.slice ua un uc) (bv xb)] h7 [3] rfl (fun F hF hs => Of_ok ⟨xk, xc, xb⟩ (seps_own hs 0 rfl).left) fun r B H8 hr h8 => ?_
        obtain ⟨rfl, rfl⟩ := hr
        simp only [front_eq, fronts_nil, fronts_cons, List.getElem?_cons_zero, List.getElem?_cons_succ, List.eraseIdx_cons_zero, List.eraseIdx_cons_succ, List.cons_append, List.nil_append, putL_cons, putL_nil, List.set_cons_zero, List.set_cons_succ, Nat.reduceAdd] at h8
        have w8 := h8.li 3 rfl
        have v8 := h8.li 1 rfl
        ((try simp only [S, TY, reduceCtorEq, nq0, nq1, nq2, nq3, nq4, iq0, iq1, iq2, iq3, iq4, iq5, iq6, iq7, iq8, w7, v7, w8, v8]); (try (simp (disch := omega) only [W2, Int.cast_ofNat_Int]; (try simp only [S, TY, reduceCtorEq, nq0, nq1, nq2, nq3, nq4, iq0, iq1, iq2, iq3, iq4, iq5, iq6, iq7, iq8, w7, v7, w8, v8]))); repeat ((first | (refine cl_drawi 6 D73_6 (List.range 10) (by decide) (by kernel_rfl) ?_; unfold D73_6) | (refine cl_drawi 13 D73_13 (List.range 10) (by decide) (by kernel_rfl) ?_; unfold D73_13)); simp only [S, TY, reduceCtorEq, nq0, nq1, nq2, nq3, nq4, iq0, iq1, iq2, iq3, iq4, iq5, iq6, iq7, iq8, w7, v7, w8, v8]; (try (simp (disch := omega) only [W2, Int.cast_ofNat_Int]; (try simp only [S, TY, reduceCtorEq, nq0, nq1, nq2, nq3, nq4, iq0, iq1, iq2, iq3, iq4, iq5, iq6, iq7, iq8, w7, v7, w8, v8])))))
        exact fin_take (B := [_, _]) (h8.fronts [4, 2]) ⟨rfl, _, (wf_drop hw i).mono (by omega), rfl⟩
      · rw [if_neg g] at hr
        obtain ⟨rfl, rfl⟩ := hr
        simp only [front_eq, fronts_nil, fronts_cons, List.getElem?_cons_zero, List.getElem?_cons_succ, List.eraseIdx_cons_zero, List.eraseIdx_cons_succ, List.cons_append, List.nil_append, putL_cons, putL_nil, List.set_cons_zero, List.set_cons_succ, Nat.reduceAdd] at h2
        ((try simp only [S, TY, reduceCtorEq, nq0, nq1, nq2, nq3, nq4, iq0, iq1, iq2, iq3, iq4, iq5, iq6, iq7, iq8]); (try (simp (disch := omega) only [W2, Int.cast_ofNat_Int]; (try simp only [S, TY, reduceCtorEq, nq0, nq1, nq2, nq3, nq4, iq0, iq1, iq2, iq3, iq4, iq5, iq6, iq7, iq8]))); repeat ((first | (refine cl_drawi 6 D73_6 (List.range 10) (by decide) (by kernel_rfl) ?_; unfold D73_6) | (refine cl_drawi 13 D73_13 (List.range 10) (by decide) (by kernel_rfl) ?_; unfold D73_13)); simp only [S, TY, reduceCtorEq, nq0, nq1, nq2, nq3, nq4, iq0, iq1, iq2, iq3, iq4, iq5, iq6, iq7, iq8]; (try (simp (disch := omega) only [W2, Int.cast_ofNat_Int]; (try simp only [S, TY, reduceCtorEq, nq0, nq1, nq2, nq3, nq4, iq0, iq1, iq2, iq3, iq4, iq5, iq6, iq7, iq8])))))
        intro k3 hk3 hg3
        have h3 := h2.new hk3 hg3 (.cells (il 0 0 (.slice none 0 0)).toArray 152 (0, 0))
        ((try simp only [S, TY, reduceCtorEq, nq0, nq1, nq2, nq3, nq4, iq0, iq1, iq2, iq3, iq4, iq5, iq6, iq7, iq8]); (try (simp (disch := omega) only [W2, Int.cast_ofNat_Int]; (try simp only [S, TY, reduceCtorEq, nq0, nq1, nq2, nq3, nq4, iq0, iq1, iq2, iq3, iq4, iq5, iq6, iq7, iq8]))); repeat ((first | (refine cl_drawi 6 D73_6 (List.range 10) (by decide) (by kernel_rfl) ?_; unfold D73_6) | (refine cl_drawi 13 D73_13 (List.range 10) (by decide) (by kernel_rfl) ?_; unfold D73_13)); simp only [S, TY, reduceCtorEq, nq0, nq1, nq2, nq3, nq4, iq0, iq1, iq2, iq3, iq4, iq5, iq6, iq7, iq8]; (try (simp (disch := omega) only [W2, Int.cast_ofNat_Int]; (try simp only [S, TY, reduceCtorEq, nq0, nq1, nq2, nq3, nq4, iq0, iq1, iq2, iq3, iq4, iq5, iq6, iq7, iq8])))))
        refine sg.st h3 rfl rfl fun H4 h4 => ?_
        simp only [front_eq, fronts_nil, fronts_cons, List.getElem?_cons_zero, List.getElem?_cons_succ, List.eraseIdx_cons_zero, List.eraseIdx_cons_succ, List.cons_append, List.nil_append, putL_cons, putL_nil, List.set_cons_zero, List.set_cons_succ, Nat.reduceAdd] at h4
        have c4 := h4.ci 2 rfl
        ((try simp only [S, TY, reduceCtorEq, nq0, nq1, nq2, nq3, nq4, iq0, iq1, iq2, iq3, iq4, iq5, iq6, iq7, iq8, c4]); (try (simp (disch := omega) only [W2, Int.cast_ofNat_Int]; (try simp only [S, TY, reduceCtorEq, nq0, nq1, nq2, nq3, nq4, iq0, iq1, iq2, iq3, iq4, iq5, iq6, iq7, iq8, c4]))); repeat ((first | (refine cl_drawi 6 D73_6 (List.range 10) (by decide) (by kernel_rfl) ?_; unfold D73_6) | (refine cl_drawi 13 D73_13 (List.range 10) (by decide) (by kernel_rfl) ?_; unfold D73_13)); simp only [S, TY, reduceCtorEq, nq0, nq1, nq2, nq3, nq4, iq0, iq1, iq2, iq3, iq4, iq5, iq6, iq7, iq8, c4]; (try (simp (disch := omega) only [W2, Int.cast_ofNat_Int]; (try simp only [S, TY, reduceCtorEq, nq0, nq1, nq2, nq3, nq4, iq0, iq1, iq2, iq3, iq4, iq5, iq6, iq7, iq8, c4])))))
        refine (dTake_ok hw i).at_ h4 [3] _ rfl fun r B H5 hr h5 => ?_
        unfold dAtR at hr
        rw [if_neg g] at hr
        obtain ⟨rfl, rfl⟩ := hr
        simp only [front_eq, fronts_nil, fronts_cons, List.getElem?_cons_zero, List.getElem?_cons_succ, List.eraseIdx_cons_zero, List.eraseIdx_cons_succ, List.cons_append, List.nil_append, putL_cons, putL_nil, List.set_cons_zero, List.set_cons_succ, Nat.reduceAdd] at h5
        ((try simp only [S, TY, reduceCtorEq, nq0, nq1, nq2, nq3, nq4, iq0, iq1, iq2, iq3, iq4, iq5, iq6, iq7, iq8]); (try (simp (disch := omega) only [W2, Int.cast_ofNat_Int]; (try simp only [S, TY, reduceCtorEq, nq0, nq1, nq2, nq3, nq4, iq0, iq1, iq2, iq3, iq4, iq5, iq6, iq7, iq8]))); repeat ((first | (refine cl_drawi 6 D73_6 (List.range 10) (by decide) (by kernel_rfl) ?_; unfold D73_6) | (refine cl_drawi 13 D73_13 (List.range 10) (by decide) (by kernel_rfl) ?_; unfold D73_13)); simp only [S, TY, reduceCtorEq, nq0, nq1, nq2, nq3, nq4, iq0, iq1, iq2, iq3, iq4, iq5, iq6, iq7, iq8]; (try (simp (disch := omega) only [W2, Int.cast_ofNat_Int]; (try simp only [S, TY, reduceCtorEq, nq0, nq1, nq2, nq3, nq4, iq0, iq1, iq2, iq3, iq4, iq5, iq6, iq7, iq8])))))
        intro k6 hk6 hg6
        have h6 := h5.new hk6 hg6 (.cells dz.toArray 160 (0, 0))
        ((try simp only [S, TY, reduceCtorEq, nq0, nq1, nq2, nq3, nq4, iq0, iq1, iq2, iq3, iq4, iq5, iq6, iq7, iq8]); (try (simp (disch := omega) only [W2, Int.cast_ofNat_Int]; (try simp only [S, TY, reduceCtorEq, nq0, nq1, nq2, nq3, nq4, iq0, iq1, iq2, iq3, iq4, iq5, iq6, iq7, iq8]))); repeat ((first | (refine cl_drawi 6 D73_6 (List.range 10) (by decide) (by kernel_rfl) ?_; unfold D73_6) | (refine cl_drawi 13 D73_13 (List.range 10) (by decide) (by kernel_rfl) ?_; unfold D73_13)); simp only [S, TY, reduceCtorEq, nq0, nq1, nq2, nq3, nq4, iq0, iq1, iq2, iq3, iq4, iq5, iq6, iq7, iq8]; (try (simp (disch := omega) only [W2, Int.cast_ofNat_Int]; (try simp only [S, TY, reduceCtorEq, nq0, nq1, nq2, nq3, nq4, iq0, iq1, iq2, iq3, iq4, iq5, iq6, iq7, iq8])))))
        refine sg.st h6 rfl rfl fun H7 h7 => ?_
        simp only [front_eq, fronts_nil, fronts_cons, List.getElem?_cons_zero, List.getElem?_cons_succ, List.eraseIdx_cons_zero, List.eraseIdx_cons_succ, List.cons_append, List.nil_append, putL_cons, putL_nil, List.set_cons_zero, List.set_cons_succ, Nat.reduceAdd] at h7
        have w7 := h7.li 2 rfl
        have v7 := h7.li 0 rfl
        have ez : bs [] = ByteArray.empty := rfl
        ((try simp only [S, TY, reduceCtorEq, nq0, nq1, nq2, nq3, nq4, iq0, iq1, iq2, iq3, iq4, iq5, iq6, iq7, iq8, w7, v7]); (try (simp (disch := omega) only [W2, Int.cast_ofNat_Int]; (try simp only [S, TY, reduceCtorEq, nq0, nq1, nq2, nq3, nq4, iq0, iq1, iq2, iq3, iq4, iq5, iq6, iq7, iq8, w7, v7]))); repeat ((first | (refine cl_drawi 6 D73_6 (List.range 10) (by decide) (by kernel_rfl) ?_; unfold D73_6) | (refine cl_drawi 13 D73_13 (List.range 10) (by decide) (by kernel_rfl) ?_; unfold D73_13)); simp only [S, TY, reduceCtorEq, nq0, nq1, nq2, nq3, nq4, iq0, iq1, iq2, iq3, iq4, iq5, iq6, iq7, iq8, w7, v7]; (try (simp (disch := omega) only [W2, Int.cast_ofNat_Int]; (try simp only [S, TY, reduceCtorEq, nq0, nq1, nq2, nq3, nq4, iq0, iq1, iq2, iq3, iq4, iq5, iq6, iq7, iq8, w7, v7])))))
        refine (Of_ok ⟨0, 0, []⟩ SeW.nil8).at_ h7 [] _ rfl fun r B H8 hr h8 => ?_
        obtain ⟨rfl, rfl⟩ := hr
        simp only [front_eq, fronts_nil, fronts_cons, List.getElem?_cons_zero, List.getElem?_cons_succ, List.eraseIdx_cons_zero, List.eraseIdx_cons_succ, List.cons_append, List.nil_append, putL_cons, putL_nil, List.set_cons_zero, List.set_cons_succ, Nat.reduceAdd] at h8
        have w8 := h8.li 2 rfl
        have v8 := h8.li 0 rfl
        ((try simp only [S, TY, reduceCtorEq, nq0, nq1, nq2, nq3, nq4, iq0, iq1, iq2, iq3, iq4, iq5, iq6, iq7, iq8, w7, v7, w8, v8, ez]); (try (simp (disch := omega) only [W2, Int.cast_ofNat_Int]; (try simp only [S, TY, reduceCtorEq, nq0, nq1, nq2, nq3, nq4, iq0, iq1, iq2, iq3, iq4, iq5, iq6, iq7, iq8, w7, v7, w8, v8, ez]))); repeat ((first | (refine cl_drawi 6 D73_6 (List.range 10) (by decide) (by kernel_rfl) ?_; unfold D73_6) | (refine cl_drawi 13 D73_13 (List.range 10) (by decide) (by kernel_rfl) ?_; unfold D73_13)); simp only [S, TY, reduceCtorEq, nq0, nq1, nq2, nq3, nq4, iq0, iq1, iq2, iq3, iq4, iq5, iq6, iq7, iq8, w7, v7, w8, v8, ez]; (try (simp (disch := omega) only [W2, Int.cast_ofNat_Int]; (try simp only [S, TY, reduceCtorEq, nq0, nq1, nq2, nq3, nq4, iq0, iq1, iq2, iq3, iq4, iq5, iq6, iq7, iq8, w7, v7, w8, v8, ez])))))
        exact fin_take (B := [_, _]) (h8.fronts [3, 1]) ⟨rfl, _, hw.mono (by omega), rfl⟩
    · by_cases g6 : k.tmod 9 = 6
      · ((try simp only [S, TY, reduceCtorEq, nq0, nq1, nq2, nq3, nq4, iq0, iq1, iq2, iq3, iq4, iq5, iq6, iq7, iq8, c1, n9, g4, g5, g6]); (try (simp (disch := omega) only [W2, Int.cast_ofNat_Int]; (try simp only [S, TY, reduceCtorEq, nq0, nq1, nq2, nq3, nq4, iq0, iq1, iq2, iq3, iq4, iq5, iq6, iq7, iq8, c1, n9, g4, g5, g6]))); repeat ((first | (refine cl_drawi 6 D73_6 (List.range 10) (by decide) (by kernel_rfl) ?_; unfold D73_6) | (refine cl_drawi 13 D73_13 (List.range 10) (by decide) (by kernel_rfl) ?_; unfold D73_13)); simp only [S, TY, reduceCtorEq, nq0, nq1, nq2, nq3, nq4, iq0, iq1, iq2, iq3, iq4, iq5, iq6, iq7, iq8, c1, n9, g4, g5, g6]; (try (simp (disch := omega) only [W2, Int.cast_ofNat_Int]; (try simp only [S, TY, reduceCtorEq, nq0, nq1, nq2, nq3, nq4, iq0, iq1, iq2, iq3, iq4, iq5, iq6, iq7, iq8, c1, n9, g4, g5, g6])))))
        refine (Double_ok hw i).at_ h1 [1] _ rfl fun r B H2 hr h2 => ?_
        obtain ⟨rfl, rfl⟩ := hr
        simp only [front_eq, fronts_nil, fronts_cons, List.getElem?_cons_zero, List.getElem?_cons_succ, List.eraseIdx_cons_zero, List.eraseIdx_cons_succ, List.cons_append, List.nil_append, putL_cons, putL_nil, List.set_cons_zero, List.set_cons_succ, Nat.reduceAdd] at h2
        have c2 := h2.ci 1 rfl
        ((try simp only [S, TY, reduceCtorEq, nq0, nq1, nq2, nq3, nq4, iq0, iq1, iq2, iq3, iq4, iq5, iq6, iq7, iq8, c2]); (try (simp (disch := omega) only [W2, Int.cast_ofNat_Int]; (try simp only [S, TY, reduceCtorEq, nq0, nq1, nq2, nq3, nq4, iq0, iq1, iq2, iq3, iq4, iq5, iq6, iq7, iq8, c2]))); repeat ((first | (refine cl_drawi 6 D73_6 (List.range 10) (by decide) (by kernel_rfl) ?_; unfold D73_6) | (refine cl_drawi 13 D73_13 (List.range 10) (by decide) (by kernel_rfl) ?_; unfold D73_13)); simp only [S, TY, reduceCtorEq, nq0, nq1, nq2, nq3, nq4, iq0, iq1, iq2, iq3, iq4, iq5, iq6, iq7, iq8, c2]; (try (simp (disch := omega) only [W2, Int.cast_ofNat_Int]; (try simp only [S, TY, reduceCtorEq, nq0, nq1, nq2, nq3, nq4, iq0, iq1, iq2, iq3, iq4, iq5, iq6, iq7, iq8, c2])))))
        refine (dDouble_ok hw (by omega) i).at_ h2 [2] _ rfl fun r B H3 hr h3 => ?_
        obtain ⟨rfl, rfl⟩ := hr
        simp only [front_eq, fronts_nil, fronts_cons, List.getElem?_cons_zero, List.getElem?_cons_succ, List.eraseIdx_cons_zero, List.eraseIdx_cons_succ, List.cons_append, List.nil_append, putL_cons, putL_nil, List.set_cons_zero, List.set_cons_succ, Nat.reduceAdd] at h3
        obtain ⟨e, he⟩ : ∃ e, (n.dbl i).2 = e := ⟨_, rfl⟩
        rw [he]
        ((try simp only [S, TY, reduceCtorEq, nq0, nq1, nq2, nq3, nq4, iq0, iq1, iq2, iq3, iq4, iq5, iq6, iq7, iq8]); (try (simp (disch := omega) only [W2, Int.cast_ofNat_Int]; (try simp only [S, TY, reduceCtorEq, nq0, nq1, nq2, nq3, nq4, iq0, iq1, iq2, iq3, iq4, iq5, iq6, iq7, iq8]))); repeat ((first | (refine cl_drawi 6 D73_6 (List.range 10) (by decide) (by kernel_rfl) ?_; unfold D73_6) | (refine cl_drawi 13 D73_13 (List.range 10) (by decide) (by kernel_rfl) ?_; unfold D73_13)); simp only [S, TY, reduceCtorEq, nq0, nq1, nq2, nq3, nq4, iq0, iq1, iq2, iq3, iq4, iq5, iq6, iq7, iq8]; (try (simp (disch := omega) only [W2, Int.cast_ofNat_Int]; (try simp only [S, TY, reduceCtorEq, nq0, nq1, nq2, nq3, nq4, iq0, iq1, iq2, iq3, iq4, iq5, iq6, iq7, iq8])))))
        exact fin_take (B := [_, _]) (h3.front 1) ⟨rfl, _, (wf_dbl hw i).mono (by omega), rfl⟩
      · by_cases g7 : k.tmod 9 = 7
        · ((try simp only [S, TY, reduceCtorEq, nq0, nq1, nq2, nq3, nq4, iq0, iq1, iq2, iq3, iq4, iq5, iq6, iq7, iq8, c1, n9, g4, g5, g6, g7]); (try (simp (disch := omega) only [W2, Int.cast_ofNat_Int]; (try simp only [S, TY, reduceCtorEq, nq0, nq1, nq2, nq3, nq4, iq0, iq1, iq2, iq3, iq4, iq5, iq6, iq7, iq8, c1, n9, g4, g5, g6, g7]))); repeat ((first | (refine cl_drawi 6 D73_6 (List.range 10) (by decide) (by kernel_rfl) ?_; unfold D73_6) | (refine cl_drawi 13 D73_13 (List.range 10) (by decide) (by kernel_rfl) ?_; unfold D73_13)); simp only [S, TY, reduceCtorEq, nq0, nq1, nq2, nq3, nq4, iq0, iq1, iq2, iq3, iq4, iq5, iq6, iq7, iq8, c1, n9, g4, g5, g6, g7]; (try (simp (disch := omega) only [W2, Int.cast_ofNat_Int]; (try simp only [S, TY, reduceCtorEq, nq0, nq1, nq2, nq3, nq4, iq0, iq1, iq2, iq3, iq4, iq5, iq6, iq7, iq8, c1, n9, g4, g5, g6, g7])))))
          refine (At_ok hw i).at_ h1 [1] _ rfl fun r B H2 hr h2 => ?_
          unfold AtR at hr
          by_cases g : n.has i
          · rw [if_pos g] at hr
            obtain ⟨u, rfl, rfl⟩ := hr
            obtain ⟨ua, un, uc, rfl, _, _⟩ := h2.sl 0 rfl Rd_own
            obtain ⟨x, hx⟩ : ∃ x, n.l.getD i.toNat ⟨0, 0, []⟩ = x := ⟨_, rfl⟩
            rw [hx] at h2 ⊢
            obtain ⟨xk, xc, xb⟩ := x
            simp only [front_eq, fronts_nil, fronts_cons, List.getElem?_cons_zero, List.getElem?_cons_succ, List.eraseIdx_cons_zero, List.eraseIdx_cons_succ, List.cons_append, List.nil_append, putL_cons, putL_nil, List.set_cons_zero, List.set_cons_succ, Nat.reduceAdd] at h2
            ((try simp only [S, TY, reduceCtorEq, nq0, nq1, nq2, nq3, nq4, iq0, iq1, iq2, iq3, iq4, iq5, iq6, iq7, iq8]); (try (simp (disch := omega) only [W2, Int.cast_ofNat_Int]; (try simp only [S, TY, reduceCtorEq, nq0, nq1, nq2, nq3, nq4, iq0, iq1, iq2, iq3, iq4, iq5, iq6, iq7, iq8]))); repeat ((first | (refine cl_drawi 6 D73_6 (List.range 10) (by decide) (by kernel_rfl) ?_; unfold D73_6) | (refine cl_drawi 13 D73_13 (List.range 10) (by decide) (by kernel_rfl) ?_; unfold D73_13)); simp only [S, TY, reduceCtorEq, nq0, nq1, nq2, nq3, nq4, iq0, iq1, iq2, iq3, iq4, iq5, iq6, iq7, iq8]; (try (simp (disch := omega) only [W2, Int.cast_ofNat_Int]; (try simp only [S, TY, reduceCtorEq, nq0, nq1, nq2, nq3, nq4, iq0, iq1, iq2, iq3, iq4, iq5, iq6, iq7, iq8])))))
            intro k3 hk3 hg3
            have h3 := h2.new hk3 hg3 (.cells (il 0 0 (.slice none 0 0)).toArray 152 (0, 0))
            ((try simp only [S, TY, reduceCtorEq, nq0, nq1, nq2, nq3, nq4, iq0, iq1, iq2, iq3, iq4, iq5, iq6, iq7, iq8]); (try (simp (disch := omega) only [W2, Int.cast_ofNat_Int]; (try simp only [S, TY, reduceCtorEq, nq0, nq1, nq2, nq3, nq4, iq0, iq1, iq2, iq3, iq4, iq5, iq6, iq7, iq8]))); repeat ((first | (refine cl_drawi 6 D73_6 (List.range 10) (by decide) (by kernel_rfl) ?_; unfold D73_6) | (refine cl_drawi 13 D73_13 (List.range 10) (by decide) (by kernel_rfl) ?_; unfold D73_13)); simp only [S, TY, reduceCtorEq, nq0, nq1, nq2, nq3, nq4, iq0, iq1, iq2, iq3, iq4, iq5, iq6, iq7, iq8]; (try (simp (disch := omega) only [W2, Int.cast_ofNat_Int]; (try simp only [S, TY, reduceCtorEq, nq0, nq1, nq2, nq3, nq4, iq0, iq1, iq2, iq3, iq4, iq5, iq6, iq7, iq8])))))
            refine sg.st h3 rfl rfl fun H4 h4 => ?_
            simp only [front_eq, fronts_nil, fronts_cons, List.getElem?_cons_zero, List.getElem?_cons_succ, List.eraseIdx_cons_zero, List.eraseIdx_cons_succ, List.cons_append, List.nil_append, putL_cons, putL_nil, List.set_cons_zero, List.set_cons_succ, Nat.reduceAdd] at h4
            have c4 := h4.ci 3 rfl
            ((try simp only [S, TY, reduceCtorEq, nq0, nq1, nq2, nq3, nq4, iq0, iq1, iq2, iq3, iq4, iq5, iq6, iq7, iq8, c4]); (try (simp (disch := omega) only [W2, Int.cast_ofNat_Int]; (try simp only [S, TY, reduceCtorEq, nq0, nq1, nq2, nq3, nq4, iq0, iq1, iq2, iq3, iq4, iq5, iq6, iq7, iq8, c4]))); repeat ((first | (refine cl_drawi 6 D73_6 (List.range 10) (by decide) (by kernel_rfl) ?_; unfold D73_6) | (refine cl_drawi 13 D73_13 (List.range 10) (by decide) (by kernel_rfl) ?_; unfold D73_13)); simp only [S, TY, reduceCtorEq, nq0, nq1, nq2, nq3, nq4, iq0, iq1, iq2, iq3, iq4, iq5, iq6, iq7, iq8, c4]; (try (simp (disch := omega) only [W2, Int.cast_ofNat_Int]; (try simp only [S, TY, reduceCtorEq, nq0, nq1, nq2, nq3, nq4, iq0, iq1, iq2, iq3, iq4, iq5, iq6, iq7, iq8, c4])))))
            refine (dAt_ok i).at_ h4 [4] _ rfl fun r B H5 hr h5 => ?_
            unfold dAtR at hr
            rw [if_pos g, hx] at hr
            obtain ⟨rfl, rfl⟩ := hr
            simp only [front_eq, fronts_nil, fronts_cons, List.getElem?_cons_zero, List.getElem?_cons_succ, List.eraseIdx_cons_zero, List.eraseIdx_cons_succ, List.cons_append, List.nil_append, putL_cons, putL_nil, List.set_cons_zero, List.set_cons_succ, Nat.reduceAdd] at h5
            ((try simp only [S, TY, reduceCtorEq, nq0, nq1, nq2, nq3, nq4, iq0, iq1, iq2, iq3, iq4, iq5, iq6, iq7, iq8]); (try (simp (disch := omega) only [W2, Int.cast_ofNat_Int]; (try simp only [S, TY, reduceCtorEq, nq0, nq1, nq2, nq3, nq4, iq0, iq1, iq2, iq3, iq4, iq5, iq6, iq7, iq8]))); repeat ((first | (refine cl_drawi 6 D73_6 (List.range 10) (by decide) (by kernel_rfl) ?_; unfold D73_6) | (refine cl_drawi 13 D73_13 (List.range 10) (by decide) (by kernel_rfl) ?_; unfold D73_13)); simp only [S, TY, reduceCtorEq, nq0, nq1, nq2, nq3, nq4, iq0, iq1, iq2, iq3, iq4, iq5, iq6, iq7, iq8]; (try (simp (disch := omega) only [W2, Int.cast_ofNat_Int]; (try simp only [S, TY, reduceCtorEq, nq0, nq1, nq2, nq3, nq4, iq0, iq1, iq2, iq3, iq4, iq5, iq6, iq7, iq8])))))
            intro k6 hk6 hg6
            have h6 := h5.new hk6 hg6 (.cells dz.toArray 160 (0, 0))
            ((try simp only [S, TY, reduceCtorEq, nq0, nq1, nq2, nq3, nq4, iq0, iq1, iq2, iq3, iq4, iq5, iq6, iq7, iq8]); (try (simp (disch := omega) only [W2, Int.cast_ofNat_Int]; (try simp only [S, TY, reduceCtorEq, nq0, nq1, nq2, nq3, nq4, iq0, iq1, iq2, iq3, iq4, iq5, iq6, iq7, iq8]))); repeat ((first | (refine cl_drawi 6 D73_6 (List.range 10) (by decide) (by kernel_rfl) ?_; unfold D73_6) | (refine cl_drawi 13 D73_13 (List.range 10) (by decide) (by kernel_rfl) ?_; unfold D73_13)); simp only [S, TY, reduceCtorEq, nq0, nq1, nq2, nq3, nq4, iq0, iq1, iq2, iq3, iq4, iq5, iq6, iq7, iq8]; (try (simp (disch := omega) only [W2, Int.cast_ofNat_Int]; (try simp only [S, TY, reduceCtorEq, nq0, nq1, nq2, nq3, nq4, iq0, iq1, iq2, iq3, iq4, iq5, iq6, iq7, iq8])))))
            refine sg.st h6 rfl rfl fun H7 h7 => ?_
            simp only [front_eq, fronts_nil, fronts_cons, List.getElem?_cons_zero, List.getElem?_cons_succ, List.eraseIdx_cons_zero, List.eraseIdx_cons_succ, List.cons_append, List.nil_append, putL_cons, putL_nil, List.set_cons_zero, List.set_cons_succ, Nat.reduceAdd] at h7
            have w7 := h7.li 2 rfl
            have v7 := h7.li 0 rfl
            ((try simp only [S, TY, reduceCtorEq, nq0, nq1, nq2, nq3, nq4, iq0, iq1, iq2, iq3, iq4, iq5, iq6, iq7, iq8, w7, v7]); (try (simp (disch := omega) only [W2, Int.cast_ofNat_Int]; (try simp only [S, TY, reduceCtorEq, nq0, nq1, nq2, nq3, nq4, iq0, iq1, iq2, iq3, iq4, iq5, iq6, iq7, iq8, w7, v7]))); repeat ((first | (refine cl_drawi 6 D73_6 (List.range 10) (by decide) (by kernel_rfl) ?_; unfold D73_6) | (refine cl_drawi 13 D73_13 (List.range 10) (by decide) (by kernel_rfl) ?_; unfold D73_13)); simp only [S, TY, reduceCtorEq, nq0, nq1, nq2, nq3, nq4, iq0, iq1, iq2, iq3, iq4, iq5, iq6, iq7, iq8, w7, v7]; (try (simp (disch := omega) only [W2, Int.cast_ofNat_Int]; (try simp only [S, TY, reduceCtorEq, nq0, nq1, nq2, nq3, nq4, iq0, iq1, iq2, iq3, iq4, iq5, iq6, iq7, iq8, w7, v7])))))
            refine Con.lend_at [] [own 5 1 (.slice ua un uc) (bv xb)] h7 [3] rfl (fun F hF hs => Of_ok ⟨xk, xc, xb⟩ (seps_own hs 0 rfl).left) fun r B H8 hr h8 => ?_
            obtain ⟨rfl, rfl⟩ := hr
            simp only [front_eq, fronts_nil, fronts_cons, List.getElem?_cons_zero, List.getElem?_cons_succ, List.eraseIdx_cons_zero, List.eraseIdx_cons_succ, List.cons_append, List.nil_append, putL_cons, putL_nil, List.set_cons_zero, List.set_cons_succ, Nat.reduceAdd] at h8
            have w8 := h8.li 3 rfl
            have v8 := h8.li 1 rfl
            ((try simp only [S, TY, reduceCtorEq, nq0, nq1, nq2, nq3, nq4, iq0, iq1, iq2, iq3, iq4, iq5, iq6, iq7, iq8, w7, v7, w8, v8]); (try (simp (disch := omega) only [W2, Int.cast_ofNat_Int]; (try simp only [S, TY, reduceCtorEq, nq0, nq1, nq2, nq3, nq4, iq0, iq1, iq2, iq3, iq4, iq5, iq6, iq7, iq8, w7, v7, w8, v8]))); repeat ((first | (refine cl_drawi 6 D73_6 (List.range 10) (by decide) (by kernel_rfl) ?_; unfold D73_6) | (refine cl_drawi 13 D73_13 (List.range 10) (by decide) (by kernel_rfl) ?_; unfold D73_13)); simp only [S, TY, reduceCtorEq, nq0, nq1, nq2, nq3, nq4, iq0, iq1, iq2, iq3, iq4, iq5, iq6, iq7, iq8, w7, v7, w8, v8]; (try (simp (disch := omega) only [W2, Int.cast_ofNat_Int]; (try simp only [S, TY, reduceCtorEq, nq0, nq1, nq2, nq3, nq4, iq0, iq1, iq2, iq3, iq4, iq5, iq6, iq7, iq8, w7, v7, w8, v8])))))
            exact fin_take (B := [_, _]) (h8.fronts [4, 2]) ⟨rfl, _, hw.mono (by omega), rfl⟩
          · rw [if_neg g] at hr
            obtain ⟨rfl, rfl⟩ := hr
            simp only [front_eq, fronts_nil, fronts_cons, List.getElem?_cons_zero, List.getElem?_cons_succ, List.eraseIdx_cons_zero, List.eraseIdx_cons_succ, List.cons_append, List.nil_append, putL_cons, putL_nil, List.set_cons_zero, List.set_cons_succ, Nat.reduceAdd] at h2
            ((try simp only [S, TY, reduceCtorEq, nq0, nq1, nq2, nq3, nq4, iq0, iq1, iq2, iq3, iq4, iq5, iq6, iq7, iq8]); (try (simp (disch := omega) only [W2, Int.cast_ofNat_Int]; (try simp only [S, TY, reduceCtorEq, nq0, nq1, nq2, nq3, nq4, iq0, iq1, iq2, iq3, iq4, iq5, iq6, iq7, iq8]))); repeat ((first | (refine cl_drawi 6 D73_6 (List.range 10) (by decide) (by kernel_rfl) ?_; unfold D73_6) | (refine cl_drawi 13 D73_13 (List.range 10) (by decide) (by kernel_rfl) ?_; unfold D73_13)); simp only [S, TY, reduceCtorEq, nq0, nq1, nq2, nq3, nq4, iq0, iq1, iq2, iq3, iq4, iq5, iq6, iq7, iq8]; (try (simp (disch := omega) only [W2, Int.cast_ofNat_Int]; (try simp only [S, TY, reduceCtorEq, nq0, nq1, nq2, nq3, nq4, iq0, iq1, iq2, iq3, iq4, iq5, iq6, iq7, iq8])))))
            intro k3 hk3 hg3
            have h3 := h2.new hk3 hg3 (.cells (il 0 0 (.slice none 0 0)).toArray 152 (0, 0))
            ((try simp only [S, TY, reduceCtorEq, nq0, nq1, nq2, nq3, nq4, iq0, iq1, iq2, iq3, iq4, iq5, iq6, iq7, iq8]); (try (simp (disch := omega) only [W2, Int.cast_ofNat_Int]; (try simp only [S, TY, reduceCtorEq, nq0, nq1, nq2, nq3, nq4, iq0, iq1, iq2, iq3, iq4, iq5, iq6, iq7, iq8]))); repeat ((first | (refine cl_drawi 6 D73_6 (List.range 10) (by decide) (by kernel_rfl) ?_; unfold D73_6) | (refine cl_drawi 13 D73_13 (List.range 10) (by decide) (by kernel_rfl) ?_; unfold D73_13)); simp only [S, TY, reduceCtorEq, nq0, nq1, nq2, nq3, nq4, iq0, iq1, iq2, iq3, iq4, iq5, iq6, iq7, iq8]; (try (simp (disch := omega) only [W2, Int.cast_ofNat_Int]; (try simp only [S, TY, reduceCtorEq, nq0, nq1, nq2, nq3, nq4, iq0, iq1, iq2, iq3, iq4, iq5, iq6, iq7, iq8])))))
            refine sg.st h3 rfl rfl fun H4 h4 => ?_
            simp only [front_eq, fronts_nil, fronts_cons, List.getElem?_cons_zero, List.getElem?_cons_succ, List.eraseIdx_cons_zero, List.eraseIdx_cons_succ, List.cons_append, List.nil_append, putL_cons, putL_nil, List.set_cons_zero, List.set_cons_succ, Nat.reduceAdd] at h4
            have c4 := h4.ci 2 rfl
            ((try simp only [S, TY, reduceCtorEq, nq0, nq1, nq2, nq3, nq4, iq0, iq1, iq2, iq3, iq4, iq5, iq6, iq7, iq8, c4]); (try (simp (disch := omega) only [W2, Int.cast_ofNat_Int]; (try simp only [S, TY, reduceCtorEq, nq0, nq1, nq2, nq3, nq4, iq0, iq1, iq2, iq3, iq4, iq5, iq6, iq7, iq8, c4]))); repeat ((first | (refine cl_drawi 6 D73_6 (List.range 10) (by decide) (by kernel_rfl) ?_; unfold D73_6) | (refine cl_drawi 13 D73_13 (List.range 10) (by decide) (by kernel_rfl) ?_; unfold D73_13)); simp only [S, TY, reduceCtorEq, nq0, nq1, nq2, nq3, nq4, iq0, iq1, iq2, iq3, iq4, iq5, iq6, iq7, iq8, c4]; (try (simp (disch := omega) only [W2, Int.cast_ofNat_Int]; (try simp only [S, TY, reduceCtorEq, nq0, nq1, nq2, nq3, nq4, iq0, iq1, iq2, iq3, iq4, iq5, iq6, iq7, iq8, c4])))))
            refine (dAt_ok i).at_ h4 [3] _ rfl fun r B H5 hr h5 => ?_
            unfold dAtR at hr
            rw [if_neg g] at hr
            obtain ⟨rfl, rfl⟩ := hr
            simp only [front_eq, fronts_nil, fronts_cons, List.getElem?_cons_zero, List.getElem?_cons_succ, List.eraseIdx_cons_zero, List.eraseIdx_cons_succ, List.cons_append, List.nil_append, putL_cons, putL_nil, List.set_cons_zero, List.set_cons_succ, Nat.reduceAdd] at h5
            ((try simp only [S, TY, reduceCtorEq, nq0, nq1, nq2, nq3, nq4, iq0, iq1, iq2, iq3, iq4, iq5, iq6, iq7, iq8]); (try (simp (disch := omega) only [W2, Int.cast_ofNat_Int]; (try simp only [S, TY, reduceCtorEq, nq0, nq1, nq2, nq3, nq4, iq0, iq1, iq2, iq3, iq4, iq5, iq6, iq7, iq8]))); repeat ((first | (refine cl_drawi 6 D73_6 (List.range 10) (by decide) (by kernel_rfl) ?_; unfold D73_6) | (refine cl_drawi 13 D73_13 (List.range 10) (by decide) (by kernel_rfl) ?_; unfold D73_13)); simp only [S, TY, reduceCtorEq, nq0, nq1, nq2, nq3, nq4, iq0, iq1, iq2, iq3, iq4, iq5, iq6, iq7, iq8]; (try (simp (disch := omega) only [W2, Int.cast_ofNat_Int]; (try simp only [S, TY, reduceCtorEq, nq0, nq1, nq2, nq3, nq4, iq0, iq1, iq2, iq3, iq4, iq5, iq6, iq7, iq8])))))
            intro k6 hk6 hg6
            have h6 := h5.new hk6 hg6 (.cells dz.toArray 160 (0, 0))
            ((try simp only [S, TY, reduceCtorEq, nq0, nq1, nq2, nq3, nq4, iq0, iq1, iq2, iq3, iq4, iq5, iq6, iq7, iq8]); (try (simp (disch := omega) only [W2, Int.cast_ofNat_Int]; (try simp only [S, TY, reduceCtorEq, nq0, nq1, nq2, nq3, nq4, iq0, iq1, iq2, iq3, iq4, iq5, iq6, iq7, iq8]))); repeat ((first | (refine cl_drawi 6 D73_6 (List.range 10) (by decide) (by kernel_rfl) ?_; unfold D73_6) | (refine cl_drawi 13 D73_13 (List.range 10) (by decide) (by kernel_rfl) ?_; unfold D73_13)); simp only [S, TY, reduceCtorEq, nq0, nq1, nq2, nq3, nq4, iq0, iq1, iq2, iq3, iq4, iq5, iq6, iq7, iq8]; (try (simp (disch := omega) only [W2, Int.cast_ofNat_Int]; (try simp only [S, TY, reduceCtorEq, nq0, nq1, nq2, nq3, nq4, iq0, iq1, iq2, iq3, iq4, iq5, iq6, iq7, iq8])))))
            refine sg.st h6 rfl rfl fun H7 h7 => ?_
            simp only [front_eq, fronts_nil, fronts_cons, List.getElem?_cons_zero, List.getElem?_cons_succ, List.eraseIdx_cons_zero, List.eraseIdx_cons_succ, List.cons_append, List.nil_append, putL_cons, putL_nil, List.set_cons_zero, List.set_cons_succ, Nat.reduceAdd] at h7
            have w7 := h7.li 2 rfl
            have v7 := h7.li 0 rfl
            have ez : bs [] = ByteArray.empty := rfl
            ((try simp only [S, TY, reduceCtorEq, nq0, nq1, nq2, nq3, nq4, iq0, iq1, iq2, iq3, iq4, iq5, iq6, iq7, iq8, w7, v7]); (try (simp (disch := omega) only [W2, Int.cast_ofNat_Int]; (try simp only [S, TY, reduceCtorEq, nq0, nq1, nq2, nq3, nq4, iq0, iq1, iq2, iq3, iq4, iq5, iq6, iq7, iq8, w7, v7]))); repeat ((first | (refine cl_drawi 6 D73_6 (List.range 10) (by decide) (by kernel_rfl) ?_; unfold D73_6) | (refine cl_drawi 13 D73_13 (List.range 10) (by decide) (by kernel_rfl) ?_; unfold D73_13)); simp only [S, TY, reduceCtorEq, nq0, nq1, nq2, nq3, nq4, iq0, iq1, iq2, iq3, iq4, iq5, iq6, iq7, iq8, w7, v7]; (try (simp (disch := omega) only [W2, Int.cast_ofNat_Int]; (try simp only [S, TY, reduceCtorEq, nq0, nq1, nq2, nq3, nq4, iq0, iq1, iq2, iq3, iq4, iq5, iq6, iq7, iq8, w7, v7])))))
            refine (Of_ok ⟨0, 0, []⟩ SeW.nil8).at_ h7 [] _ rfl fun r B H8 hr h8 => ?_
            obtain ⟨rfl, rfl⟩ := hr
            simp only [front_eq, fronts_nil, fronts_cons, List.getElem?_cons_zero, List.getElem?_cons_succ, List.eraseIdx_cons_zero, List.eraseIdx_cons_succ, List.cons_append, List.nil_append, putL_cons, putL_nil, List.set_cons_zero, List.set_cons_succ, Nat.reduceAdd] at h8
            have w8 := h8.li 2 rfl
            have v8 := h8.li 0 rfl
            ((try simp only [S, TY, reduceCtorEq, nq0, nq1, nq2, nq3, nq4, iq0, iq1, iq2, iq3, iq4, iq5, iq6, iq7, iq8, w7, v7, w8, v8, ez]); (try (simp (disch := omega) only [W2, Int.cast_ofNat_Int]; (try simp only [S, TY, reduceCtorEq, nq0, nq1, nq2, nq3, nq4, iq0, iq1, iq2, iq3, iq4, iq5, iq6, iq7, iq8, w7, v7, w8, v8, ez]))); repeat ((first | (refine cl_drawi 6 D73_6 (List.range 10) (by decide) (by kernel_rfl) ?_; unfold D73_6) | (refine cl_drawi 13 D73_13 (List.range 10) (by decide) (by kernel_rfl) ?_; unfold D73_13)); simp only [S, TY, reduceCtorEq, nq0, nq1, nq2, nq3, nq4, iq0, iq1, iq2, iq3, iq4, iq5, iq6, iq7, iq8, w7, v7, w8, v8, ez]; (try (simp (disch := omega) only [W2, Int.cast_ofNat_Int]; (try simp only [S, TY, reduceCtorEq, nq0, nq1, nq2, nq3, nq4, iq0, iq1, iq2, iq3, iq4, iq5, iq6, iq7, iq8, w7, v7, w8, v8, ez])))))
            exact fin_take (B := [_, _]) (h8.fronts [3, 1]) ⟨rfl, _, hw.mono (by omega), rfl⟩
        · by_cases g8 : k.tmod 9 = 8
          · by_cases g9 : (0 : Int) < yl.length
            · obtain ⟨bb, off, hl', rfl, hcc, _⟩ := hr1.el ic_len (i := 0) (by omega) (by omega)
              have e0 := hcc 0 (by decide)
              have e1 := hcc 1 (by decide)
              simp only [List.getElem?_cons_zero, List.getElem?_cons_succ, Nat.zero_mul, Nat.add_zero] at e0 e1
              replace e0 := h1.roc e0
              replace e1 := h1.roc e1
              have g10 : (0 : Int) ≤ 0 ∧ (0 : Int) < yl.length := ⟨by omega, g9⟩
              ((try simp only [S, TY, reduceCtorEq, nq0, nq1, nq2, nq3, nq4, iq0, iq1, iq2, iq3, iq4, iq5, iq6, iq7, iq8, c1, n9, g4, g5, g6, g7, g8, g9, g10, e0, e1]); (try (simp (disch := omega) only [W2, Int.cast_ofNat_Int]; (try simp only [S, TY, reduceCtorEq, nq0, nq1, nq2, nq3, nq4, iq0, iq1, iq2, iq3, iq4, iq5, iq6, iq7, iq8, c1, n9, g4, g5, g6, g7, g8, g9, g10, e0, e1]))); repeat ((first | (refine cl_drawi 6 D73_6 (List.range 10) (by decide) (by kernel_rfl) ?_; unfold D73_6) | (refine cl_drawi 13 D73_13 (List.range 10) (by decide) (by kernel_rfl) ?_; unfold D73_13)); simp only [S, TY, reduceCtorEq, nq0, nq1, nq2, nq3, nq4, iq0, iq1, iq2, iq3, iq4, iq5, iq6, iq7, iq8, c1, n9, g4, g5, g6, g7, g8, g9, g10, e0, e1]; (try (simp (disch := omega) only [W2, Int.cast_ofNat_Int]; (try simp only [S, TY, reduceCtorEq, nq0, nq1, nq2, nq3, nq4, iq0, iq1, iq2, iq3, iq4, iq5, iq6, iq7, iq8, c1, n9, g4, g5, g6, g7, g8, g9, g10, e0, e1])))))
              refine (Find_ok hw yl[0].1.k yl[0].1.c).at_ h1 [1] _ rfl fun r B H2 hr h2 => ?_
              obtain ⟨rfl, rfl⟩ := hr
              simp only [front_eq, fronts_nil, fronts_cons, List.getElem?_cons_zero, List.getElem?_cons_succ, List.eraseIdx_cons_zero, List.eraseIdx_cons_succ, List.cons_append, List.nil_append, putL_cons, putL_nil, List.set_cons_zero, List.set_cons_succ, Nat.reduceAdd] at h2
              ((try simp only [S, TY, reduceCtorEq, nq0, nq1, nq2, nq3, nq4, iq0, iq1, iq2, iq3, iq4, iq5, iq6, iq7, iq8]); (try (simp (disch := omega) only [W2, Int.cast_ofNat_Int]; (try simp only [S, TY, reduceCtorEq, nq0, nq1, nq2, nq3, nq4, iq0, iq1, iq2, iq3, iq4, iq5, iq6, iq7, iq8]))); repeat ((first | (refine cl_drawi 6 D73_6 (List.range 10) (by decide) (by kernel_rfl) ?_; unfold D73_6) | (refine cl_drawi 13 D73_13 (List.range 10) (by decide) (by kernel_rfl) ?_; unfold D73_13)); simp only [S, TY, reduceCtorEq, nq0, nq1, nq2, nq3, nq4, iq0, iq1, iq2, iq3, iq4, iq5, iq6, iq7, iq8]; (try (simp (disch := omega) only [W2, Int.cast_ofNat_Int]; (try simp only [S, TY, reduceCtorEq, nq0, nq1, nq2, nq3, nq4, iq0, iq1, iq2, iq3, iq4, iq5, iq6, iq7, iq8])))))
              refine (dFind_ok (by omega) yl[0].1.k yl[0].1.c).at_ h2 [2] _ rfl fun r B H3 hr h3 => ?_
              obtain ⟨rfl, rfl⟩ := hr
              simp only [front_eq, fronts_nil, fronts_cons, List.getElem?_cons_zero, List.getElem?_cons_succ, List.eraseIdx_cons_zero, List.eraseIdx_cons_succ, List.cons_append, List.nil_append, putL_cons, putL_nil, List.set_cons_zero, List.set_cons_succ, Nat.reduceAdd] at h3
              obtain ⟨e, he⟩ : ∃ e, find yl[0].1.k yl[0].1.c n.l 0 = e := ⟨_, rfl⟩
              rw [he]
              ((try simp only [S, TY, reduceCtorEq, nq0, nq1, nq2, nq3, nq4, iq0, iq1, iq2, iq3, iq4, iq5, iq6, iq7, iq8]); (try (simp (disch := omega) only [W2, Int.cast_ofNat_Int]; (try simp only [S, TY, reduceCtorEq, nq0, nq1, nq2, nq3, nq4, iq0, iq1, iq2, iq3, iq4, iq5, iq6, iq7, iq8]))); repeat ((first | (refine cl_drawi 6 D73_6 (List.range 10) (by decide) (by kernel_rfl) ?_; unfold D73_6) | (refine cl_drawi 13 D73_13 (List.range 10) (by decide) (by kernel_rfl) ?_; unfold D73_13)); simp only [S, TY, reduceCtorEq, nq0, nq1, nq2, nq3, nq4, iq0, iq1, iq2, iq3, iq4, iq5, iq6, iq7, iq8]; (try (simp (disch := omega) only [W2, Int.cast_ofNat_Int]; (try simp only [S, TY, reduceCtorEq, nq0, nq1, nq2, nq3, nq4, iq0, iq1, iq2, iq3, iq4, iq5, iq6, iq7, iq8])))))
              exact fin_take (B := [_, _]) (h3.front 1) ⟨rfl, _, hw.mono (by omega), rfl⟩
            · ((try simp only [S, TY, reduceCtorEq, nq0, nq1, nq2, nq3, nq4, iq0, iq1, iq2, iq3, iq4, iq5, iq6, iq7, iq8, c1, n9, g4, g5, g6, g7, g8, g9]); (try (simp (disch := omega) only [W2, Int.cast_ofNat_Int]; (try simp only [S, TY, reduceCtorEq, nq0, nq1, nq2, nq3, nq4, iq0, iq1, iq2, iq3, iq4, iq5, iq6, iq7, iq8, c1, n9, g4, g5, g6, g7, g8, g9]))); repeat ((first | (refine cl_drawi 6 D73_6 (List.range 10) (by decide) (by kernel_rfl) ?_; unfold D73_6) | (refine cl_drawi 13 D73_13 (List.range 10) (by decide) (by kernel_rfl) ?_; unfold D73_13)); simp only [S, TY, reduceCtorEq, nq0, nq1, nq2, nq3, nq4, iq0, iq1, iq2, iq3, iq4, iq5, iq6, iq7, iq8, c1, n9, g4, g5, g6, g7, g8, g9]; (try (simp (disch := omega) only [W2, Int.cast_ofNat_Int]; (try simp only [S, TY, reduceCtorEq, nq0, nq1, nq2, nq3, nq4, iq0, iq1, iq2, iq3, iq4, iq5, iq6, iq7, iq8, c1, n9, g4, g5, g6, g7, g8, g9])))))
              refine (Find_ok hw i i).at_ h1 [1] _ rfl fun r B H2 hr h2 => ?_
              obtain ⟨rfl, rfl⟩ := hr
              simp only [front_eq, fronts_nil, fronts_cons, List.getElem?_cons_zero, List.getElem?_cons_succ, List.eraseIdx_cons_zero, List.eraseIdx_cons_succ, List.cons_append, List.nil_append, putL_cons, putL_nil, List.set_cons_zero, List.set_cons_succ, Nat.reduceAdd] at h2
              ((try simp only [S, TY, reduceCtorEq, nq0, nq1, nq2, nq3, nq4, iq0, iq1, iq2, iq3, iq4, iq5, iq6, iq7, iq8]); (try (simp (disch := omega) only [W2, Int.cast_ofNat_Int]; (try simp only [S, TY, reduceCtorEq, nq0, nq1, nq2, nq3, nq4, iq0, iq1, iq2, iq3, iq4, iq5, iq6, iq7, iq8]))); repeat ((first | (refine cl_drawi 6 D73_6 (List.range 10) (by decide) (by kernel_rfl) ?_; unfold D73_6) | (refine cl_drawi 13 D73_13 (List.range 10) (by decide) (by kernel_rfl) ?_; unfold D73_13)); simp only [S, TY, reduceCtorEq, nq0, nq1, nq2, nq3, nq4, iq0, iq1, iq2, iq3, iq4, iq5, iq6, iq7, iq8]; (try (simp (disch := omega) only [W2, Int.cast_ofNat_Int]; (try simp only [S, TY, reduceCtorEq, nq0, nq1, nq2, nq3, nq4, iq0, iq1, iq2, iq3, iq4, iq5, iq6, iq7, iq8])))))
              refine (dFind_ok (by omega) i i).at_ h2 [2] _ rfl fun r B H3 hr h3 => ?_
              obtain ⟨rfl, rfl⟩ := hr
              simp only [front_eq, fronts_nil, fronts_cons, List.getElem?_cons_zero, List.getElem?_cons_succ, List.eraseIdx_cons_zero, List.eraseIdx_cons_succ, List.cons_append, List.nil_append, putL_cons, putL_nil, List.set_cons_zero, List.set_cons_succ, Nat.reduceAdd] at h3
              obtain ⟨e, he⟩ : ∃ e, find i i n.l 0 = e := ⟨_, rfl⟩
              rw [he]
              ((try simp only [S, TY, reduceCtorEq, nq0, nq1, nq2, nq3, nq4, iq0, iq1, iq2, iq3, iq4, iq5, iq6, iq7, iq8]); (try (simp (disch := omega) only [W2, Int.cast_ofNat_Int]; (try simp only [S, TY, reduceCtorEq, nq0, nq1, nq2, nq3, nq4, iq0, iq1, iq2, iq3, iq4, iq5, iq6, iq7, iq8]))); repeat ((first | (refine cl_drawi 6 D73_6 (List.range 10) (by decide) (by kernel_rfl) ?_; unfold D73_6) | (refine cl_drawi 13 D73_13 (List.range 10) (by decide) (by kernel_rfl) ?_; unfold D73_13)); simp only [S, TY, reduceCtorEq, nq0, nq1, nq2, nq3, nq4, iq0, iq1, iq2, iq3, iq4, iq5, iq6, iq7, iq8]; (try (simp (disch := omega) only [W2, Int.cast_ofNat_Int]; (try simp only [S, TY, reduceCtorEq, nq0, nq1, nq2, nq3, nq4, iq0, iq1, iq2, iq3, iq4, iq5, iq6, iq7, iq8])))))
              exact fin_take (B := [_, _]) (h3.front 1) ⟨rfl, _, hw.mono (by omega), rfl⟩
          · ((try simp only [S, TY, reduceCtorEq, nq0, nq1, nq2, nq3, nq4, iq0, iq1, iq2, iq3, iq4, iq5, iq6, iq7, iq8, c1, n9, g4, g5, g6, g7, g8]); (try (simp (disch := omega) only [W2, Int.cast_ofNat_Int]; (try simp only [S, TY, reduceCtorEq, nq0, nq1, nq2, nq3, nq4, iq0, iq1, iq2, iq3, iq4, iq5, iq6, iq7, iq8, c1, n9, g4, g5, g6, g7, g8]))); repeat ((first | (refine cl_drawi 6 D73_6 (List.range 10) (by decide) (by kernel_rfl) ?_; unfold D73_6) | (refine cl_drawi 13 D73_13 (List.range 10) (by decide) (by kernel_rfl) ?_; unfold D73_13)); simp only [S, TY, reduceCtorEq, nq0, nq1, nq2, nq3, nq4, iq0, iq1, iq2, iq3, iq4, iq5, iq6, iq7, iq8, c1, n9, g4, g5, g6, g7, g8]; (try (simp (disch := omega) only [W2, Int.cast_ofNat_Int]; (try simp only [S, TY, reduceCtorEq, nq0, nq1, nq2, nq3, nq4, iq0, iq1, iq2, iq3, iq4, iq5, iq6, iq7, iq8, c1, n9, g4, g5, g6, g7, g8])))))
            refine (Put_ok hw (by omega) (by omega) hr1 hb0).at_ h1 [1] _ rfl fun r B H2 hr h2 => ?_
            obtain ⟨rfl, rfl⟩ := hr
            simp only [front_eq, fronts_nil, fronts_cons, List.getElem?_cons_zero, List.getElem?_cons_succ, List.eraseIdx_cons_zero, List.eraseIdx_cons_succ, List.cons_append, List.nil_append, putL_cons, putL_nil, List.set_cons_zero, List.set_cons_succ, Nat.reduceAdd] at h2
            have c2 := h2.ci 1 rfl
            ((try simp only [S, TY, reduceCtorEq, nq0, nq1, nq2, nq3, nq4, iq0, iq1, iq2, iq3, iq4, iq5, iq6, iq7, iq8, c2]); (try (simp (disch := omega) only [W2, Int.cast_ofNat_Int]; (try simp only [S, TY, reduceCtorEq, nq0, nq1, nq2, nq3, nq4, iq0, iq1, iq2, iq3, iq4, iq5, iq6, iq7, iq8, c2]))); repeat ((first | (refine cl_drawi 6 D73_6 (List.range 10) (by decide) (by kernel_rfl) ?_; unfold D73_6) | (refine cl_drawi 13 D73_13 (List.range 10) (by decide) (by kernel_rfl) ?_; unfold D73_13)); simp only [S, TY, reduceCtorEq, nq0, nq1, nq2, nq3, nq4, iq0, iq1, iq2, iq3, iq4, iq5, iq6, iq7, iq8, c2]; (try (simp (disch := omega) only [W2, Int.cast_ofNat_Int]; (try simp only [S, TY, reduceCtorEq, nq0, nq1, nq2, nq3, nq4, iq0, iq1, iq2, iq3, iq4, iq5, iq6, iq7, iq8, c2])))))
            refine (puts_ok hw (by omega) (by omega) hr1 hb0).at_ h2 [2] _ rfl fun r B H3 hr h3 => ?_
            obtain ⟨rfl, rfl⟩ := hr
            simp only [front_eq, fronts_nil, fronts_cons, List.getElem?_cons_zero, List.getElem?_cons_succ, List.eraseIdx_cons_zero, List.eraseIdx_cons_succ, List.cons_append, List.nil_append, putL_cons, putL_nil, List.set_cons_zero, List.set_cons_succ, Nat.reduceAdd] at h3
            ((try simp only [S, TY, reduceCtorEq, nq0, nq1, nq2, nq3, nq4, iq0, iq1, iq2, iq3, iq4, iq5, iq6, iq7, iq8]); (try (simp (disch := omega) only [W2, Int.cast_ofNat_Int]; (try simp only [S, TY, reduceCtorEq, nq0, nq1, nq2, nq3, nq4, iq0, iq1, iq2, iq3, iq4, iq5, iq6, iq7, iq8]))); repeat ((first | (refine cl_drawi 6 D73_6 (List.range 10) (by decide) (by kernel_rfl) ?_; unfold D73_6) | (refine cl_drawi 13 D73_13 (List.range 10) (by decide) (by kernel_rfl) ?_; unfold D73_13)); simp only [S, TY, reduceCtorEq, nq0, nq1, nq2, nq3, nq4, iq0, iq1, iq2, iq3, iq4, iq5, iq6, iq7, iq8]; (try (simp (disch := omega) only [W2, Int.cast_ofNat_Int]; (try simp only [S, TY, reduceCtorEq, nq0, nq1, nq2, nq3, nq4, iq0, iq1, iq2, iq3, iq4, iq5, iq6, iq7, iq8])))))
            exact fin_take (B := [_, _]) (h3.front 1) ⟨rfl, _, (wf_puts hw _).mono (by rw [List.length_map]; omega), rfl⟩
end Go.Proofs.Ytanhmbdcdbcfmaa.NtS
