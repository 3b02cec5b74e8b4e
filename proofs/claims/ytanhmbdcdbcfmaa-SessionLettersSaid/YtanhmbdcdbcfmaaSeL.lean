/- Letters: the law. -/
import Derived.Test.YtanhmbdcdbcfmaaSeA
import Derived.Test.YtanhmbdcdbcfmaaSeE
import Derived.Test.YtanhmbdcdbcfmaaSeD
set_option linter.unusedVariables false
set_option linter.unusedSimpArgs false
set_option maxRecDepth 10000
set_option maxHeartbeats 4000000
namespace Go.Proofs.Ytanhmbdcdbcfmaa.SeL
open Nat renaming reduceEqDiff → nq0, reduceAdd → nq1, reduceLeDiff → nq2, reduceBEq → nq3, reduceMul → nq4
open Int renaming reduceBEq → iq0, reduceEq → iq1, reduceLT → iq2, reduceLE → iq3, reduceAdd → iq4, reduceSub → iq5, reduceMul → iq6, reduceToNat → iq7, cast_ofNat_Int → iq8
open Go Go.Sl Go.Proofs Go.Proofs.Ytanhmbdcdbcfmaa.Buf Go.Proofs.Ytanhmbdcdbcfmaa.BufRd Go.Proofs.Ytanhmbdcdbcfmaa.BufRe Go.Proofs.Ytanhmbdcdbcfmaa.BufP Go.Proofs.Ytanhmbdcdbcfmaa.SeP Go.Proofs.Ytanhmbdcdbcfmaa.Se Go.Proofs.Ytanhmbdcdbcfmaa.SeE Go.Proofs.Ytanhmbdcdbcfmaa.SeD Go.Proofs.Ytanhmbdcdbcfmaa.SeW Go.Proofs.Ytanhmbdcdbcfmaa.SeA
theorem TY : aggN Try.prog 3 = some none ∧
  aggN Try.prog 4 = some none ∧
  aggN Try.prog 5 = some none ∧
  aggN Try.prog 9 = some none ∧
  aggN Try.prog 24 = some none ∧
  aggN Try.prog 30 = some none ∧
  aggN Try.prog 62 = some (some 5) ∧
  aggN Try.prog 65 = some (some 5) ∧
  apI Try.prog 24 = some (5, 1, 1) ∧
  bIs Try.prog 62 = true ∧
  bIs Try.prog 65 = true ∧
  boIs Try.prog 4 = true ∧
  bySl Try.prog 24 = true ∧
  csz Try.prog 3 = some 1 ∧
  csz Try.prog 4 = some 1 ∧
  csz Try.prog 5 = some 1 ∧
  csz Try.prog 9 = some 1 ∧
  csz Try.prog 24 = some 1 ∧
  csz Try.prog 30 = some 1 ∧
  csz Try.prog 62 = some 5 ∧
  csz Try.prog 65 = some 5 ∧
  eqF Try.prog 65 = some [.i, .i, .i, .i, .s] ∧
  fIs Try.prog 62 4 = true ∧
  fOff Try.prog 62 4 = 4 ∧
  fTy Try.prog 62 4 = 24 ∧
  goes Try.prog 29 = true ∧
  goes Try.prog 30 = true ∧
  goes Try.prog 31 = true ∧
  goes Try.prog 32 = true ∧
  goes Try.prog 33 = true ∧
  goes Try.prog 34 = true ∧
  goes Try.prog 35 = true ∧
  goes Try.prog 36 = true ∧
  inIs Try.prog 3 = some .i64 ∧
  inIs Try.prog 5 = some .u8 ∧
  inIs Try.prog 30 = some .i64 ∧
  plcs Try.prog 62 = [(0, 1), (1, 1), (2, 1), (3, 1), (4, 1)] ∧
  plcs Try.prog 65 = [(0, 1), (1, 1), (2, 1), (3, 1), (4, 1)] ∧
  slEl Try.prog 24 = 5 ∧
  slIs Try.prog 24 = true ∧
  slSz Try.prog 24 = 1 ∧
  stIs Try.prog 9 = true ∧
  zcs Try.prog 62 = [.int .i64 0, .int .i64 0, .int .i64 0, .int .i64 0, .slice none 0 0] ∧
  zcs Try.prog 65 = [.int .i64 0, .int .i64 0, .int .i64 0, .int .i64 0, .string ByteArray.empty] ∧
  zro Try.prog 3 = some (.int .i64 0) ∧
  zro Try.prog 4 = some (.bool false) ∧
  zro Try.prog 5 = some (.int .u8 0) ∧
  zro Try.prog 9 = some (.string ByteArray.empty) ∧
  zro Try.prog 24 = some (.slice none 0 0) ∧
  zro Try.prog 30 = some (.int .i64 0) ∧
  zro Try.prog 62 = some (.agg #[.int .i64 0, .int .i64 0, .int .i64 0, .int .i64 0, .slice none 0 0]) ∧
  zro Try.prog 65 = some (.agg #[.int .i64 0, .int .i64 0, .int .i64 0, .int .i64 0, .string ByteArray.empty]) :=
  ⟨by kernel_rfl, by kernel_rfl, by kernel_rfl, by kernel_rfl, by kernel_rfl, by kernel_rfl, by kernel_rfl, by kernel_rfl, by kernel_rfl, by kernel_rfl, by kernel_rfl, by kernel_rfl, by kernel_rfl, by kernel_rfl, by kernel_rfl, by kernel_rfl, by kernel_rfl, by kernel_rfl, by kernel_rfl, by kernel_rfl, by kernel_rfl, by kernel_rfl, by kernel_rfl, by kernel_rfl, by kernel_rfl, by kernel_rfl, by kernel_rfl, by kernel_rfl, by kernel_rfl, by kernel_rfl, by kernel_rfl, by kernel_rfl, by kernel_rfl, by kernel_rfl, by kernel_rfl, by kernel_rfl, by kernel_rfl, by kernel_rfl, by kernel_rfl, by kernel_rfl, by kernel_rfl, by kernel_rfl, by kernel_rfl, by kernel_rfl, by kernel_rfl, by kernel_rfl, by kernel_rfl, by kernel_rfl, by kernel_rfl, by kernel_rfl, by kernel_rfl, by kernel_rfl⟩
def D5_5 : List Note := Go.Sl.nn [1, 3, 0, 0, 0, 0, 0, 0, 0, 0, 0] ++ ([(1, [1])] ++ ([(1, [1])] ++ ([(3, [11])] ++ ([(3, [11])] ++ ([(1, [1, 13, 14])] ++ (Go.Sl.nn [0, 0, 0, 0, 0, 0, 0, 0, 0, 0, 0, 0, 0, 0, 0, 0, 0]))))))
def D5_8 : List Note := Go.Sl.nn [0, 0, 0, 0, 0, 1, 3, 1, 3, 0, 0, 0]
def D5_13 : List Note := Go.Sl.nn [3, 0] ++ ([(1, [0])] ++ (Go.Sl.nn [3] ++ ([(1, [0])] ++ (Go.Sl.nn [0, 0, 0, 0, 0, 0, 0, 0, 0, 0, 0, 0, 0, 0, 0] ++ ([(1, [0, 3])] ++ (Go.Sl.nn [0] ++ ([(1, [0, 3])] ++ (Go.Sl.nn [0, 0, 0, 0, 0]))))))))
theorem lettersLaw {G : Hp} {v w : Value} (x : Lt) {c : List UInt8} (hv : rds G 1 v (bv x.b)) (hw : rds G 1 w (bv c)) : Con Try.prog G 5 [Lt.v x v, w] [] (fun r B => r = .bool true ∧ B = []) := by
  have hv0 := hv
  have hw0 := hw
  obtain ⟨va, vn, vc, rfl, f1, _⟩ := hv.slice
  obtain ⟨wa, wn, wc, rfl, f2, _⟩ := hw.slice
  rw [bv_length] at f1 f2
  rw [Nat.mul_one] at f1 f2
  have hde := @dec_enc x
  have hed := @enc_dec c
  obtain ⟨xm, xp, xa, xs, xb⟩ := x
  simp only [Lt.v] at *
  refine Con.intro Try.func5 rfl (Nat.le_of_ble_eq_true (by kernel_rfl)) (by kernel_rfl) Try.results5 ?_
  intro H h
  ((try simp only [S, TY, reduceCtorEq, nq0, nq1, nq2, nq3, nq4, iq0, iq1, iq2, iq3, iq4, iq5, iq6, iq7, iq8]); (try (simp (disch := omega) only [W2, Int.cast_ofNat_Int]; (try simp only [S, TY, reduceCtorEq, nq0, nq1, nq2, nq3, nq4, iq0, iq1, iq2, iq3, iq4, iq5, iq6, iq7, iq8]))); repeat ((first | (refine cl_drawi 5 D5_5 (List.range 33) (by decide) (by kernel_rfl) ?_; unfold D5_5) | (refine cl_drawi 8 D5_8 (List.range 12) (by decide) (by kernel_rfl) ?_; unfold D5_8) | (refine cl_drawi 13 D5_13 (List.range 28) (by decide) (by kernel_rfl) ?_; unfold D5_13)); simp only [S, TY, reduceCtorEq, nq0, nq1, nq2, nq3, nq4, iq0, iq1, iq2, iq3, iq4, iq5, iq6, iq7, iq8]; (try (simp (disch := omega) only [W2, Int.cast_ofNat_Int]; (try simp only [S, TY, reduceCtorEq, nq0, nq1, nq2, nq3, nq4, iq0, iq1, iq2, iq3, iq4, iq5, iq6, iq7, iq8])))))
  intro b2 hb2 hg2
  have h1 := h.new hb2 hg2 (.cells (ltl xm xp xa xs (.slice va vn vc)).toArray 62 (0, 0))
  have c1 := h1.c0
  have w1 := h1.li 0 rfl
  by_cases g1 : (2000 : Int) < vn
  · ((try simp only [S, TY, reduceCtorEq, nq0, nq1, nq2, nq3, nq4, iq0, iq1, iq2, iq3, iq4, iq5, iq6, iq7, iq8, c1, g1]); (try (simp (disch := omega) only [W2, Int.cast_ofNat_Int]; (try simp only [S, TY, reduceCtorEq, nq0, nq1, nq2, nq3, nq4, iq0, iq1, iq2, iq3, iq4, iq5, iq6, iq7, iq8, c1, g1]))); repeat ((first | (refine cl_drawi 5 D5_5 (List.range 33) (by decide) (by kernel_rfl) ?_; unfold D5_5) | (refine cl_drawi 8 D5_8 (List.range 12) (by decide) (by kernel_rfl) ?_; unfold D5_8) | (refine cl_drawi 13 D5_13 (List.range 28) (by decide) (by kernel_rfl) ?_; unfold D5_13)); simp only [S, TY, reduceCtorEq, nq0, nq1, nq2, nq3, nq4, iq0, iq1, iq2, iq3, iq4, iq5, iq6, iq7, iq8, c1, g1]; (try (simp (disch := omega) only [W2, Int.cast_ofNat_Int]; (try simp only [S, TY, reduceCtorEq, nq0, nq1, nq2, nq3, nq4, iq0, iq1, iq2, iq3, iq4, iq5, iq6, iq7, iq8, c1, g1])))))
    refine alive.at_ h1 [] _ rfl fun r B H2 hr h2 => ?_
    obtain ⟨rfl, rfl⟩ := hr
    ((try simp only [S, TY, reduceCtorEq, nq0, nq1, nq2, nq3, nq4, iq0, iq1, iq2, iq3, iq4, iq5, iq6, iq7, iq8]); (try (simp (disch := omega) only [W2, Int.cast_ofNat_Int]; (try simp only [S, TY, reduceCtorEq, nq0, nq1, nq2, nq3, nq4, iq0, iq1, iq2, iq3, iq4, iq5, iq6, iq7, iq8]))); repeat ((first | (refine cl_drawi 5 D5_5 (List.range 33) (by decide) (by kernel_rfl) ?_; unfold D5_5) | (refine cl_drawi 8 D5_8 (List.range 12) (by decide) (by kernel_rfl) ?_; unfold D5_8) | (refine cl_drawi 13 D5_13 (List.range 28) (by decide) (by kernel_rfl) ?_; unfold D5_13)); simp only [S, TY, reduceCtorEq, nq0, nq1, nq2, nq3, nq4, iq0, iq1, iq2, iq3, iq4, iq5, iq6, iq7, iq8]; (try (simp (disch := omega) only [W2, Int.cast_ofNat_Int]; (try simp only [S, TY, reduceCtorEq, nq0, nq1, nq2, nq3, nq4, iq0, iq1, iq2, iq3, iq4, iq5, iq6, iq7, iq8])))))
    exact fin_take (B := []) h2 ⟨rfl, rfl⟩
  · by_cases g2 : (2000 : Int) < wn
    · ((try simp only [S, TY, reduceCtorEq, nq0, nq1, nq2, nq3, nq4, iq0, iq1, iq2, iq3, iq4, iq5, iq6, iq7, iq8, c1, g1, g2]); (try (simp (disch := omega) only [W2, Int.cast_ofNat_Int]; (try simp only [S, TY, reduceCtorEq, nq0, nq1, nq2, nq3, nq4, iq0, iq1, iq2, iq3, iq4, iq5, iq6, iq7, iq8, c1, g1, g2]))); repeat ((first | (refine cl_drawi 5 D5_5 (List.range 33) (by decide) (by kernel_rfl) ?_; unfold D5_5) | (refine cl_drawi 8 D5_8 (List.range 12) (by decide) (by kernel_rfl) ?_; unfold D5_8) | (refine cl_drawi 13 D5_13 (List.range 28) (by decide) (by kernel_rfl) ?_; unfold D5_13)); simp only [S, TY, reduceCtorEq, nq0, nq1, nq2, nq3, nq4, iq0, iq1, iq2, iq3, iq4, iq5, iq6, iq7, iq8, c1, g1, g2]; (try (simp (disch := omega) only [W2, Int.cast_ofNat_Int]; (try simp only [S, TY, reduceCtorEq, nq0, nq1, nq2, nq3, nq4, iq0, iq1, iq2, iq3, iq4, iq5, iq6, iq7, iq8, c1, g1, g2])))))
      refine alive.at_ h1 [] _ rfl fun r B H2 hr h2 => ?_
      obtain ⟨rfl, rfl⟩ := hr
      ((try simp only [S, TY, reduceCtorEq, nq0, nq1, nq2, nq3, nq4, iq0, iq1, iq2, iq3, iq4, iq5, iq6, iq7, iq8]); (try (simp (disch := omega) only [W2, Int.cast_ofNat_Int]; (try simp only [S, TY, reduceCtorEq, nq0, nq1, nq2, nq3, nq4, iq0, iq1, iq2, iq3, iq4, iq5, iq6, iq7, iq8]))); repeat ((first | (refine cl_drawi 5 D5_5 (List.range 33) (by decide) (by kernel_rfl) ?_; unfold D5_5) | (refine cl_drawi 8 D5_8 (List.range 12) (by decide) (by kernel_rfl) ?_; unfold D5_8) | (refine cl_drawi 13 D5_13 (List.range 28) (by decide) (by kernel_rfl) ?_; unfold D5_13)); simp only [S, TY, reduceCtorEq, nq0, nq1, nq2, nq3, nq4, iq0, iq1, iq2, iq3, iq4, iq5, iq6, iq7, iq8]; (try (simp (disch := omega) only [W2, Int.cast_ofNat_Int]; (try simp only [S, TY, reduceCtorEq, nq0, nq1, nq2, nq3, nq4, iq0, iq1, iq2, iq3, iq4, iq5, iq6, iq7, iq8])))))
      exact fin_take (B := []) h2 ⟨rfl, rfl⟩
    · ((try simp only [S, TY, reduceCtorEq, nq0, nq1, nq2, nq3, nq4, iq0, iq1, iq2, iq3, iq4, iq5, iq6, iq7, iq8, c1, g1, g2, w1]); (try (simp (disch := omega) only [W2, Int.cast_ofNat_Int]; (try simp only [S, TY, reduceCtorEq, nq0, nq1, nq2, nq3, nq4, iq0, iq1, iq2, iq3, iq4, iq5, iq6, iq7, iq8, c1, g1, g2, w1]))); repeat ((first | (refine cl_drawi 5 D5_5 (List.range 33) (by decide) (by kernel_rfl) ?_; unfold D5_5) | (refine cl_drawi 8 D5_8 (List.range 12) (by decide) (by kernel_rfl) ?_; unfold D5_8) | (refine cl_drawi 13 D5_13 (List.range 28) (by decide) (by kernel_rfl) ?_; unfold D5_13)); simp only [S, TY, reduceCtorEq, nq0, nq1, nq2, nq3, nq4, iq0, iq1, iq2, iq3, iq4, iq5, iq6, iq7, iq8, c1, g1, g2, w1]; (try (simp (disch := omega) only [W2, Int.cast_ofNat_Int]; (try simp only [S, TY, reduceCtorEq, nq0, nq1, nq2, nq3, nq4, iq0, iq1, iq2, iq3, iq4, iq5, iq6, iq7, iq8, c1, g1, g2, w1])))))
      refine (Of_ok ⟨xm, xp, xa, xs, xb⟩ hv0).at_ h1 [] _ rfl fun r B H2 hr h2 => ?_
      obtain ⟨rfl, rfl⟩ := hr
      ((try simp only [S, TY, reduceCtorEq, nq0, nq1, nq2, nq3, nq4, iq0, iq1, iq2, iq3, iq4, iq5, iq6, iq7, iq8]); (try (simp (disch := omega) only [W2, Int.cast_ofNat_Int]; (try simp only [S, TY, reduceCtorEq, nq0, nq1, nq2, nq3, nq4, iq0, iq1, iq2, iq3, iq4, iq5, iq6, iq7, iq8]))); repeat ((first | (refine cl_drawi 5 D5_5 (List.range 33) (by decide) (by kernel_rfl) ?_; unfold D5_5) | (refine cl_drawi 8 D5_8 (List.range 12) (by decide) (by kernel_rfl) ?_; unfold D5_8) | (refine cl_drawi 13 D5_13 (List.range 28) (by decide) (by kernel_rfl) ?_; unfold D5_13)); simp only [S, TY, reduceCtorEq, nq0, nq1, nq2, nq3, nq4, iq0, iq1, iq2, iq3, iq4, iq5, iq6, iq7, iq8]; (try (simp (disch := omega) only [W2, Int.cast_ofNat_Int]; (try simp only [S, TY, reduceCtorEq, nq0, nq1, nq2, nq3, nq4, iq0, iq1, iq2, iq3, iq4, iq5, iq6, iq7, iq8])))))
      refine (dRight_ok xm xp xa xs xb).at_ h2 [] _ rfl fun r B H3 hr h3 => ?_
      obtain ⟨rfl, rfl⟩ := hr
      have w3 := h3.li 0 rfl
      ((try simp only [S, TY, reduceCtorEq, nq0, nq1, nq2, nq3, nq4, iq0, iq1, iq2, iq3, iq4, iq5, iq6, iq7, iq8, w3]); (try (simp (disch := omega) only [W2, Int.cast_ofNat_Int]; (try simp only [S, TY, reduceCtorEq, nq0, nq1, nq2, nq3, nq4, iq0, iq1, iq2, iq3, iq4, iq5, iq6, iq7, iq8, w3]))); repeat ((first | (refine cl_drawi 5 D5_5 (List.range 33) (by decide) (by kernel_rfl) ?_; unfold D5_5) | (refine cl_drawi 8 D5_8 (List.range 12) (by decide) (by kernel_rfl) ?_; unfold D5_8) | (refine cl_drawi 13 D5_13 (List.range 28) (by decide) (by kernel_rfl) ?_; unfold D5_13)); simp only [S, TY, reduceCtorEq, nq0, nq1, nq2, nq3, nq4, iq0, iq1, iq2, iq3, iq4, iq5, iq6, iq7, iq8, w3]; (try (simp (disch := omega) only [W2, Int.cast_ofNat_Int]; (try simp only [S, TY, reduceCtorEq, nq0, nq1, nq2, nq3, nq4, iq0, iq1, iq2, iq3, iq4, iq5, iq6, iq7, iq8, w3])))))
      refine (Encode_ok ⟨xm, xp, xa, xs, xb⟩ hv0).at_ h3 [] _ rfl fun r B H4 hr h4 => ?_
      unfold EncR at hr
      by_cases hx : right xm xp xa xs xb.length = true
      · rw [if_pos (show Lt.ok ⟨xm, xp, xa, xs, xb⟩ = true from hx)] at hr
        obtain ⟨u, rfl, rfl⟩ := hr
        obtain ⟨ua, un, uc, rfl, _, _⟩ := h4.sl 0 rfl Rd_own
        simp only [front_eq, fronts_nil, fronts_cons, List.getElem?_cons_zero, List.getElem?_cons_succ, List.eraseIdx_cons_zero, List.eraseIdx_cons_succ, List.cons_append, List.nil_append, putL_cons, putL_nil, List.set_cons_zero, List.set_cons_succ, Nat.reduceAdd] at h4
        have w4 := h4.li 1 rfl
        ((try simp only [S, TY, reduceCtorEq, nq0, nq1, nq2, nq3, nq4, iq0, iq1, iq2, iq3, iq4, iq5, iq6, iq7, iq8, w4, hx]); (try (simp (disch := omega) only [W2, Int.cast_ofNat_Int]; (try simp only [S, TY, reduceCtorEq, nq0, nq1, nq2, nq3, nq4, iq0, iq1, iq2, iq3, iq4, iq5, iq6, iq7, iq8, w4, hx]))); repeat ((first | (refine cl_drawi 5 D5_5 (List.range 33) (by decide) (by kernel_rfl) ?_; unfold D5_5) | (refine cl_drawi 8 D5_8 (List.range 12) (by decide) (by kernel_rfl) ?_; unfold D5_8) | (refine cl_drawi 13 D5_13 (List.range 28) (by decide) (by kernel_rfl) ?_; unfold D5_13)); simp only [S, TY, reduceCtorEq, nq0, nq1, nq2, nq3, nq4, iq0, iq1, iq2, iq3, iq4, iq5, iq6, iq7, iq8, w4, hx]; (try (simp (disch := omega) only [W2, Int.cast_ofNat_Int]; (try simp only [S, TY, reduceCtorEq, nq0, nq1, nq2, nq3, nq4, iq0, iq1, iq2, iq3, iq4, iq5, iq6, iq7, iq8, w4, hx])))))
        refine (Right_ok xm xp xa xs hv0).at_ h4 [] _ rfl fun r B H5 hr h5 => ?_
        obtain ⟨rfl, rfl⟩ := hr
        simp only [front_eq, fronts_nil, fronts_cons, List.getElem?_cons_zero, List.getElem?_cons_succ, List.eraseIdx_cons_zero, List.eraseIdx_cons_succ, List.cons_append, List.nil_append, putL_cons, putL_nil, List.set_cons_zero, List.set_cons_succ, Nat.reduceAdd] at h5
        have w5 := h5.li 1 rfl
        have s5 := rStr_of (P := Try.prog) (h5.rdsi 0 rfl Rd_own)
        ((try simp only [S, TY, reduceCtorEq, nq0, nq1, nq2, nq3, nq4, iq0, iq1, iq2, iq3, iq4, iq5, iq6, iq7, iq8, w5, s5, hx]); (try (simp (disch := omega) only [W2, Int.cast_ofNat_Int]; (try simp only [S, TY, reduceCtorEq, nq0, nq1, nq2, nq3, nq4, iq0, iq1, iq2, iq3, iq4, iq5, iq6, iq7, iq8, w5, s5, hx]))); repeat ((first | (refine cl_drawi 5 D5_5 (List.range 33) (by decide) (by kernel_rfl) ?_; unfold D5_5) | (refine cl_drawi 8 D5_8 (List.range 12) (by decide) (by kernel_rfl) ?_; unfold D5_8) | (refine cl_drawi 13 D5_13 (List.range 28) (by decide) (by kernel_rfl) ?_; unfold D5_13)); simp only [S, TY, reduceCtorEq, nq0, nq1, nq2, nq3, nq4, iq0, iq1, iq2, iq3, iq4, iq5, iq6, iq7, iq8, w5, s5, hx]; (try (simp (disch := omega) only [W2, Int.cast_ofNat_Int]; (try simp only [S, TY, reduceCtorEq, nq0, nq1, nq2, nq3, nq4, iq0, iq1, iq2, iq3, iq4, iq5, iq6, iq7, iq8, w5, s5, hx])))))
        refine (Of_ok ⟨xm, xp, xa, xs, xb⟩ hv0).at_ h5 [] _ rfl fun r B H6 hr h6 => ?_
        obtain ⟨rfl, rfl⟩ := hr
        simp only [front_eq, fronts_nil, fronts_cons, List.getElem?_cons_zero, List.getElem?_cons_succ, List.eraseIdx_cons_zero, List.eraseIdx_cons_succ, List.cons_append, List.nil_append, putL_cons, putL_nil, List.set_cons_zero, List.set_cons_succ, Nat.reduceAdd] at h6
        have w6 := h6.li 1 rfl
        have s6 := rStr_of (P := Try.prog) (h6.rdsi 0 rfl Rd_own)
        ((try simp only [S, TY, reduceCtorEq, nq0, nq1, nq2, nq3, nq4, iq0, iq1, iq2, iq3, iq4, iq5, iq6, iq7, iq8, w5, s5, w6, s6, hx]); (try (simp (disch := omega) only [W2, Int.cast_ofNat_Int]; (try simp only [S, TY, reduceCtorEq, nq0, nq1, nq2, nq3, nq4, iq0, iq1, iq2, iq3, iq4, iq5, iq6, iq7, iq8, w5, s5, w6, s6, hx]))); repeat ((first | (refine cl_drawi 5 D5_5 (List.range 33) (by decide) (by kernel_rfl) ?_; unfold D5_5) | (refine cl_drawi 8 D5_8 (List.range 12) (by decide) (by kernel_rfl) ?_; unfold D5_8) | (refine cl_drawi 13 D5_13 (List.range 28) (by decide) (by kernel_rfl) ?_; unfold D5_13)); simp only [S, TY, reduceCtorEq, nq0, nq1, nq2, nq3, nq4, iq0, iq1, iq2, iq3, iq4, iq5, iq6, iq7, iq8, w5, s5, w6, s6, hx]; (try (simp (disch := omega) only [W2, Int.cast_ofNat_Int]; (try simp only [S, TY, reduceCtorEq, nq0, nq1, nq2, nq3, nq4, iq0, iq1, iq2, iq3, iq4, iq5, iq6, iq7, iq8, w5, s5, w6, s6, hx])))))
        refine (dBytes_ok ⟨xm, xp, xa, xs, xb⟩ hx).at_ h6 [] _ rfl fun r B H7 hr h7 => ?_
        subst hr
        obtain ⟨ya, yn, yc, rfl, _, _⟩ := h7.sl 0 rfl Rd_own
        simp only [front_eq, fronts_nil, fronts_cons, List.getElem?_cons_zero, List.getElem?_cons_succ, List.eraseIdx_cons_zero, List.eraseIdx_cons_succ, List.cons_append, List.nil_append, putL_cons, putL_nil, List.set_cons_zero, List.set_cons_succ, Nat.reduceAdd] at h7
        have w7 := h7.li 2 rfl
        have s7 := rStr_of (P := Try.prog) (h7.rdsi 0 rfl Rd_own)
        have z7 := rStr_of (P := Try.prog) (h7.rdsi 1 rfl Rd_own)
        ((try simp only [S, TY, reduceCtorEq, nq0, nq1, nq2, nq3, nq4, iq0, iq1, iq2, iq3, iq4, iq5, iq6, iq7, iq8, w5, s5, w6, s6, w7, s7, z7, hx]); (try (simp (disch := omega) only [W2, Int.cast_ofNat_Int]; (try simp only [S, TY, reduceCtorEq, nq0, nq1, nq2, nq3, nq4, iq0, iq1, iq2, iq3, iq4, iq5, iq6, iq7, iq8, w5, s5, w6, s6, w7, s7, z7, hx]))); repeat ((first | (refine cl_drawi 5 D5_5 (List.range 33) (by decide) (by kernel_rfl) ?_; unfold D5_5) | (refine cl_drawi 8 D5_8 (List.range 12) (by decide) (by kernel_rfl) ?_; unfold D5_8) | (refine cl_drawi 13 D5_13 (List.range 28) (by decide) (by kernel_rfl) ?_; unfold D5_13)); simp only [S, TY, reduceCtorEq, nq0, nq1, nq2, nq3, nq4, iq0, iq1, iq2, iq3, iq4, iq5, iq6, iq7, iq8, w5, s5, w6, s6, w7, s7, z7, hx]; (try (simp (disch := omega) only [W2, Int.cast_ofNat_Int]; (try simp only [S, TY, reduceCtorEq, nq0, nq1, nq2, nq3, nq4, iq0, iq1, iq2, iq3, iq4, iq5, iq6, iq7, iq8, w5, s5, w6, s6, w7, s7, z7, hx])))))
        have hln : (Lt.enc ⟨xm, xp, xa, xs, xb⟩).length ≤ 100000 := by have := enc_len ⟨xm, xp, xa, xs, xb⟩; simp only at this; omega
        refine Con.lend_at [] [own 5 1 (.slice ua un uc) (bv (Lt.enc ⟨xm, xp, xa, xs, xb⟩))] h7 [1] rfl (fun F hF hs => Decode_ok (seps_own hs 0 rfl).left hln) fun r B H8 hr h8 => ?_
        unfold DecR at hr
        rw [hde hx] at hr
        obtain ⟨u8, rfl, rfl⟩ := hr
        obtain ⟨xa8, xn8, xc8, rfl, _, _⟩ := h8.sl 0 rfl Rd_own
        simp only [front_eq, fronts_nil, fronts_cons, List.getElem?_cons_zero, List.getElem?_cons_succ, List.eraseIdx_cons_zero, List.eraseIdx_cons_succ, List.cons_append, List.nil_append, putL_cons, putL_nil, List.set_cons_zero, List.set_cons_succ, Nat.reduceAdd] at h8
        ((try simp only [S, TY, reduceCtorEq, nq0, nq1, nq2, nq3, nq4, iq0, iq1, iq2, iq3, iq4, iq5, iq6, iq7, iq8]); (try (simp (disch := omega) only [W2, Int.cast_ofNat_Int]; (try simp only [S, TY, reduceCtorEq, nq0, nq1, nq2, nq3, nq4, iq0, iq1, iq2, iq3, iq4, iq5, iq6, iq7, iq8]))); repeat ((first | (refine cl_drawi 5 D5_5 (List.range 33) (by decide) (by kernel_rfl) ?_; unfold D5_5) | (refine cl_drawi 8 D5_8 (List.range 12) (by decide) (by kernel_rfl) ?_; unfold D5_8) | (refine cl_drawi 13 D5_13 (List.range 28) (by decide) (by kernel_rfl) ?_; unfold D5_13)); simp only [S, TY, reduceCtorEq, nq0, nq1, nq2, nq3, nq4, iq0, iq1, iq2, iq3, iq4, iq5, iq6, iq7, iq8]; (try (simp (disch := omega) only [W2, Int.cast_ofNat_Int]; (try simp only [S, TY, reduceCtorEq, nq0, nq1, nq2, nq3, nq4, iq0, iq1, iq2, iq3, iq4, iq5, iq6, iq7, iq8])))))
        intro k8 hk8 hg8
        have h9 := h8.new hk8 hg8 (.cells z0.toArray 62 (0, 0))
        ((try simp only [S, TY, reduceCtorEq, nq0, nq1, nq2, nq3, nq4, iq0, iq1, iq2, iq3, iq4, iq5, iq6, iq7, iq8]); (try (simp (disch := omega) only [W2, Int.cast_ofNat_Int]; (try simp only [S, TY, reduceCtorEq, nq0, nq1, nq2, nq3, nq4, iq0, iq1, iq2, iq3, iq4, iq5, iq6, iq7, iq8]))); repeat ((first | (refine cl_drawi 5 D5_5 (List.range 33) (by decide) (by kernel_rfl) ?_; unfold D5_5) | (refine cl_drawi 8 D5_8 (List.range 12) (by decide) (by kernel_rfl) ?_; unfold D5_8) | (refine cl_drawi 13 D5_13 (List.range 28) (by decide) (by kernel_rfl) ?_; unfold D5_13)); simp only [S, TY, reduceCtorEq, nq0, nq1, nq2, nq3, nq4, iq0, iq1, iq2, iq3, iq4, iq5, iq6, iq7, iq8]; (try (simp (disch := omega) only [W2, Int.cast_ofNat_Int]; (try simp only [S, TY, reduceCtorEq, nq0, nq1, nq2, nq3, nq4, iq0, iq1, iq2, iq3, iq4, iq5, iq6, iq7, iq8])))))
        refine sg.st h9 rfl rfl fun H10 h10 => ?_
        simp only [front_eq, fronts_nil, fronts_cons, List.getElem?_cons_zero, List.getElem?_cons_succ, List.eraseIdx_cons_zero, List.eraseIdx_cons_succ, List.cons_append, List.nil_append, putL_cons, putL_nil, List.set_cons_zero, List.set_cons_succ, Nat.reduceAdd] at h10
        have w10 := h10.li 0 rfl
        have v10 := h10.li 4 rfl
        ((try simp only [S, TY, reduceCtorEq, nq0, nq1, nq2, nq3, nq4, iq0, iq1, iq2, iq3, iq4, iq5, iq6, iq7, iq8, w10, v10, hx]); (try (simp (disch := omega) only [W2, Int.cast_ofNat_Int]; (try simp only [S, TY, reduceCtorEq, nq0, nq1, nq2, nq3, nq4, iq0, iq1, iq2, iq3, iq4, iq5, iq6, iq7, iq8, w10, v10, hx]))); repeat ((first | (refine cl_drawi 5 D5_5 (List.range 33) (by decide) (by kernel_rfl) ?_; unfold D5_5) | (refine cl_drawi 8 D5_8 (List.range 12) (by decide) (by kernel_rfl) ?_; unfold D5_8) | (refine cl_drawi 13 D5_13 (List.range 28) (by decide) (by kernel_rfl) ?_; unfold D5_13)); simp only [S, TY, reduceCtorEq, nq0, nq1, nq2, nq3, nq4, iq0, iq1, iq2, iq3, iq4, iq5, iq6, iq7, iq8, w10, v10, hx]; (try (simp (disch := omega) only [W2, Int.cast_ofNat_Int]; (try simp only [S, TY, reduceCtorEq, nq0, nq1, nq2, nq3, nq4, iq0, iq1, iq2, iq3, iq4, iq5, iq6, iq7, iq8, w10, v10, hx])))))
        refine Con.lend_at [] [own 5 1 (.slice xa8 xn8 xc8) (bv xb)] h10 [1] rfl (fun F hF hs => Of_ok ⟨xm, xp, xa, xs, xb⟩ (seps_own hs 0 rfl).left) fun r B H11 hr h11 => ?_
        obtain ⟨rfl, rfl⟩ := hr
        simp only [front_eq, fronts_nil, fronts_cons, List.getElem?_cons_zero, List.getElem?_cons_succ, List.eraseIdx_cons_zero, List.eraseIdx_cons_succ, List.cons_append, List.nil_append, putL_cons, putL_nil, List.set_cons_zero, List.set_cons_succ, Nat.reduceAdd] at h11
        have w11 := h11.li 1 rfl
        have v11 := h11.li 4 rfl
        ((try simp only [S, TY, reduceCtorEq, nq0, nq1, nq2, nq3, nq4, iq0, iq1, iq2, iq3, iq4, iq5, iq6, iq7, iq8, w10, v10, w11, v11, hx]); (try (simp (disch := omega) only [W2, Int.cast_ofNat_Int]; (try simp only [S, TY, reduceCtorEq, nq0, nq1, nq2, nq3, nq4, iq0, iq1, iq2, iq3, iq4, iq5, iq6, iq7, iq8, w10, v10, w11, v11, hx]))); repeat ((first | (refine cl_drawi 5 D5_5 (List.range 33) (by decide) (by kernel_rfl) ?_; unfold D5_5) | (refine cl_drawi 8 D5_8 (List.range 12) (by decide) (by kernel_rfl) ?_; unfold D5_8) | (refine cl_drawi 13 D5_13 (List.range 28) (by decide) (by kernel_rfl) ?_; unfold D5_13)); simp only [S, TY, reduceCtorEq, nq0, nq1, nq2, nq3, nq4, iq0, iq1, iq2, iq3, iq4, iq5, iq6, iq7, iq8, w10, v10, w11, v11, hx]; (try (simp (disch := omega) only [W2, Int.cast_ofNat_Int]; (try simp only [S, TY, reduceCtorEq, nq0, nq1, nq2, nq3, nq4, iq0, iq1, iq2, iq3, iq4, iq5, iq6, iq7, iq8, w10, v10, w11, v11, hx])))))
        refine (Of_ok ⟨xm, xp, xa, xs, xb⟩ hv0).at_ h11 [] _ rfl fun r B H12 hr h12 => ?_
        obtain ⟨rfl, rfl⟩ := hr
        simp only [front_eq, fronts_nil, fronts_cons, List.getElem?_cons_zero, List.getElem?_cons_succ, List.eraseIdx_cons_zero, List.eraseIdx_cons_succ, List.cons_append, List.nil_append, putL_cons, putL_nil, List.set_cons_zero, List.set_cons_succ, Nat.reduceAdd] at h12
        have w12 := h12.li 1 rfl
        have v12 := h12.li 4 rfl
        ((try simp only [S, TY, reduceCtorEq, nq0, nq1, nq2, nq3, nq4, iq0, iq1, iq2, iq3, iq4, iq5, iq6, iq7, iq8, w10, v10, w11, v11, w12, v12, hx]); (try (simp (disch := omega) only [W2, Int.cast_ofNat_Int]; (try simp only [S, TY, reduceCtorEq, nq0, nq1, nq2, nq3, nq4, iq0, iq1, iq2, iq3, iq4, iq5, iq6, iq7, iq8, w10, v10, w11, v11, w12, v12, hx]))); repeat ((first | (refine cl_drawi 5 D5_5 (List.range 33) (by decide) (by kernel_rfl) ?_; unfold D5_5) | (refine cl_drawi 8 D5_8 (List.range 12) (by decide) (by kernel_rfl) ?_; unfold D5_8) | (refine cl_drawi 13 D5_13 (List.range 28) (by decide) (by kernel_rfl) ?_; unfold D5_13)); simp only [S, TY, reduceCtorEq, nq0, nq1, nq2, nq3, nq4, iq0, iq1, iq2, iq3, iq4, iq5, iq6, iq7, iq8, w10, v10, w11, v11, w12, v12, hx]; (try (simp (disch := omega) only [W2, Int.cast_ofNat_Int]; (try simp only [S, TY, reduceCtorEq, nq0, nq1, nq2, nq3, nq4, iq0, iq1, iq2, iq3, iq4, iq5, iq6, iq7, iq8, w10, v10, w11, v11, w12, v12, hx])))))
        refine (Decode_ok hw0 (by omega)).at_ h12 [] _ rfl fun r B H13 hr h13 => ?_
        unfold DecR at hr
        cases hdc : ldec c with
        | none =>
          rw [hdc] at hr
          obtain ⟨rfl, rfl⟩ := hr
          ((try simp only [S, TY, reduceCtorEq, nq0, nq1, nq2, nq3, nq4, iq0, iq1, iq2, iq3, iq4, iq5, iq6, iq7, iq8]); (try (simp (disch := omega) only [W2, Int.cast_ofNat_Int]; (try simp only [S, TY, reduceCtorEq, nq0, nq1, nq2, nq3, nq4, iq0, iq1, iq2, iq3, iq4, iq5, iq6, iq7, iq8]))); repeat ((first | (refine cl_drawi 5 D5_5 (List.range 33) (by decide) (by kernel_rfl) ?_; unfold D5_5) | (refine cl_drawi 8 D5_8 (List.range 12) (by decide) (by kernel_rfl) ?_; unfold D5_8) | (refine cl_drawi 13 D5_13 (List.range 28) (by decide) (by kernel_rfl) ?_; unfold D5_13)); simp only [S, TY, reduceCtorEq, nq0, nq1, nq2, nq3, nq4, iq0, iq1, iq2, iq3, iq4, iq5, iq6, iq7, iq8]; (try (simp (disch := omega) only [W2, Int.cast_ofNat_Int]; (try simp only [S, TY, reduceCtorEq, nq0, nq1, nq2, nq3, nq4, iq0, iq1, iq2, iq3, iq4, iq5, iq6, iq7, iq8])))))
          intro k14 p14 q14
          have h14 := h13.new p14 q14 (.cells z0.toArray 62 (0, 0))
          ((try simp only [S, TY, reduceCtorEq, nq0, nq1, nq2, nq3, nq4, iq0, iq1, iq2, iq3, iq4, iq5, iq6, iq7, iq8]); (try (simp (disch := omega) only [W2, Int.cast_ofNat_Int]; (try simp only [S, TY, reduceCtorEq, nq0, nq1, nq2, nq3, nq4, iq0, iq1, iq2, iq3, iq4, iq5, iq6, iq7, iq8]))); repeat ((first | (refine cl_drawi 5 D5_5 (List.range 33) (by decide) (by kernel_rfl) ?_; unfold D5_5) | (refine cl_drawi 8 D5_8 (List.range 12) (by decide) (by kernel_rfl) ?_; unfold D5_8) | (refine cl_drawi 13 D5_13 (List.range 28) (by decide) (by kernel_rfl) ?_; unfold D5_13)); simp only [S, TY, reduceCtorEq, nq0, nq1, nq2, nq3, nq4, iq0, iq1, iq2, iq3, iq4, iq5, iq6, iq7, iq8]; (try (simp (disch := omega) only [W2, Int.cast_ofNat_Int]; (try simp only [S, TY, reduceCtorEq, nq0, nq1, nq2, nq3, nq4, iq0, iq1, iq2, iq3, iq4, iq5, iq6, iq7, iq8])))))
          refine sg.st h14 rfl rfl fun H15 h15 => ?_
          simp only [front_eq, fronts_nil, fronts_cons, List.getElem?_cons_zero, List.getElem?_cons_succ, List.eraseIdx_cons_zero, List.eraseIdx_cons_succ, List.cons_append, List.nil_append, putL_cons, putL_nil, List.set_cons_zero, List.set_cons_succ, Nat.reduceAdd] at h15
          ((try simp only [S, TY, reduceCtorEq, nq0, nq1, nq2, nq3, nq4, iq0, iq1, iq2, iq3, iq4, iq5, iq6, iq7, iq8]); (try (simp (disch := omega) only [W2, Int.cast_ofNat_Int]; (try simp only [S, TY, reduceCtorEq, nq0, nq1, nq2, nq3, nq4, iq0, iq1, iq2, iq3, iq4, iq5, iq6, iq7, iq8]))); repeat ((first | (refine cl_drawi 5 D5_5 (List.range 33) (by decide) (by kernel_rfl) ?_; unfold D5_5) | (refine cl_drawi 8 D5_8 (List.range 12) (by decide) (by kernel_rfl) ?_; unfold D5_8) | (refine cl_drawi 13 D5_13 (List.range 28) (by decide) (by kernel_rfl) ?_; unfold D5_13)); simp only [S, TY, reduceCtorEq, nq0, nq1, nq2, nq3, nq4, iq0, iq1, iq2, iq3, iq4, iq5, iq6, iq7, iq8]; (try (simp (disch := omega) only [W2, Int.cast_ofNat_Int]; (try simp only [S, TY, reduceCtorEq, nq0, nq1, nq2, nq3, nq4, iq0, iq1, iq2, iq3, iq4, iq5, iq6, iq7, iq8])))))
          refine (dParse_ok hw0 (by omega)).at_ h15 [] _ rfl fun r B H16 hr h16 => ?_
          obtain ⟨rfl, rfl⟩ := hr
          unfold dDec
          rw [hdc]
          ((try simp only [S, TY, reduceCtorEq, nq0, nq1, nq2, nq3, nq4, iq0, iq1, iq2, iq3, iq4, iq5, iq6, iq7, iq8]); (try (simp (disch := omega) only [W2, Int.cast_ofNat_Int]; (try simp only [S, TY, reduceCtorEq, nq0, nq1, nq2, nq3, nq4, iq0, iq1, iq2, iq3, iq4, iq5, iq6, iq7, iq8]))); repeat ((first | (refine cl_drawi 5 D5_5 (List.range 33) (by decide) (by kernel_rfl) ?_; unfold D5_5) | (refine cl_drawi 8 D5_8 (List.range 12) (by decide) (by kernel_rfl) ?_; unfold D5_8) | (refine cl_drawi 13 D5_13 (List.range 28) (by decide) (by kernel_rfl) ?_; unfold D5_13)); simp only [S, TY, reduceCtorEq, nq0, nq1, nq2, nq3, nq4, iq0, iq1, iq2, iq3, iq4, iq5, iq6, iq7, iq8]; (try (simp (disch := omega) only [W2, Int.cast_ofNat_Int]; (try simp only [S, TY, reduceCtorEq, nq0, nq1, nq2, nq3, nq4, iq0, iq1, iq2, iq3, iq4, iq5, iq6, iq7, iq8])))))
          intro k17 p17 q17
          have h17 := h16.new p17 q17 (.cells dz.toArray 65 (0, 0))
          ((try simp only [S, TY, reduceCtorEq, nq0, nq1, nq2, nq3, nq4, iq0, iq1, iq2, iq3, iq4, iq5, iq6, iq7, iq8]); (try (simp (disch := omega) only [W2, Int.cast_ofNat_Int]; (try simp only [S, TY, reduceCtorEq, nq0, nq1, nq2, nq3, nq4, iq0, iq1, iq2, iq3, iq4, iq5, iq6, iq7, iq8]))); repeat ((first | (refine cl_drawi 5 D5_5 (List.range 33) (by decide) (by kernel_rfl) ?_; unfold D5_5) | (refine cl_drawi 8 D5_8 (List.range 12) (by decide) (by kernel_rfl) ?_; unfold D5_8) | (refine cl_drawi 13 D5_13 (List.range 28) (by decide) (by kernel_rfl) ?_; unfold D5_13)); simp only [S, TY, reduceCtorEq, nq0, nq1, nq2, nq3, nq4, iq0, iq1, iq2, iq3, iq4, iq5, iq6, iq7, iq8]; (try (simp (disch := omega) only [W2, Int.cast_ofNat_Int]; (try simp only [S, TY, reduceCtorEq, nq0, nq1, nq2, nq3, nq4, iq0, iq1, iq2, iq3, iq4, iq5, iq6, iq7, iq8])))))
          refine sg.st h17 rfl rfl fun H18 h18 => ?_
          simp only [front_eq, fronts_nil, fronts_cons, List.getElem?_cons_zero, List.getElem?_cons_succ, List.eraseIdx_cons_zero, List.eraseIdx_cons_succ, List.cons_append, List.nil_append, putL_cons, putL_nil, List.set_cons_zero, List.set_cons_succ, Nat.reduceAdd] at h18
          have w18 := h18.li 1 rfl
          ((try simp only [S, TY, reduceCtorEq, nq0, nq1, nq2, nq3, nq4, iq0, iq1, iq2, iq3, iq4, iq5, iq6, iq7, iq8, w18]); (try (simp (disch := omega) only [W2, Int.cast_ofNat_Int]; (try simp only [S, TY, reduceCtorEq, nq0, nq1, nq2, nq3, nq4, iq0, iq1, iq2, iq3, iq4, iq5, iq6, iq7, iq8, w18]))); repeat ((first | (refine cl_drawi 5 D5_5 (List.range 33) (by decide) (by kernel_rfl) ?_; unfold D5_5) | (refine cl_drawi 8 D5_8 (List.range 12) (by decide) (by kernel_rfl) ?_; unfold D5_8) | (refine cl_drawi 13 D5_13 (List.range 28) (by decide) (by kernel_rfl) ?_; unfold D5_13)); simp only [S, TY, reduceCtorEq, nq0, nq1, nq2, nq3, nq4, iq0, iq1, iq2, iq3, iq4, iq5, iq6, iq7, iq8, w18]; (try (simp (disch := omega) only [W2, Int.cast_ofNat_Int]; (try simp only [S, TY, reduceCtorEq, nq0, nq1, nq2, nq3, nq4, iq0, iq1, iq2, iq3, iq4, iq5, iq6, iq7, iq8, w18])))))
          refine (Encode_ok ⟨0, 0, 0, 0, []⟩ nil8).at_ h18 [] _ rfl fun r B H19 hr h19 => ?_
          unfold EncR at hr
          rw [if_neg (show ¬ Lt.ok ⟨0, 0, 0, 0, []⟩ = true by decide)] at hr
          obtain ⟨rfl, rfl⟩ := hr
          ((try simp only [S, TY, reduceCtorEq, nq0, nq1, nq2, nq3, nq4, iq0, iq1, iq2, iq3, iq4, iq5, iq6, iq7, iq8]); (try (simp (disch := omega) only [W2, Int.cast_ofNat_Int]; (try simp only [S, TY, reduceCtorEq, nq0, nq1, nq2, nq3, nq4, iq0, iq1, iq2, iq3, iq4, iq5, iq6, iq7, iq8]))); repeat ((first | (refine cl_drawi 5 D5_5 (List.range 33) (by decide) (by kernel_rfl) ?_; unfold D5_5) | (refine cl_drawi 8 D5_8 (List.range 12) (by decide) (by kernel_rfl) ?_; unfold D5_8) | (refine cl_drawi 13 D5_13 (List.range 28) (by decide) (by kernel_rfl) ?_; unfold D5_13)); simp only [S, TY, reduceCtorEq, nq0, nq1, nq2, nq3, nq4, iq0, iq1, iq2, iq3, iq4, iq5, iq6, iq7, iq8]; (try (simp (disch := omega) only [W2, Int.cast_ofNat_Int]; (try simp only [S, TY, reduceCtorEq, nq0, nq1, nq2, nq3, nq4, iq0, iq1, iq2, iq3, iq4, iq5, iq6, iq7, iq8])))))
          refine alive.at_ h19 [] _ rfl fun r B H20 hr h20 => ?_
          obtain ⟨rfl, rfl⟩ := hr
          simp only [front_eq, fronts_nil, fronts_cons, List.getElem?_cons_zero, List.getElem?_cons_succ, List.eraseIdx_cons_zero, List.eraseIdx_cons_succ, List.cons_append, List.nil_append, putL_cons, putL_nil, List.set_cons_zero, List.set_cons_succ, Nat.reduceAdd] at h20
          have w20 := h20.li 1 rfl
          have v20 := h20.li 0 rfl
          ((try simp only [S, TY, reduceCtorEq, nq0, nq1, nq2, nq3, nq4, iq0, iq1, iq2, iq3, iq4, iq5, iq6, iq7, iq8, w20, v20]); (try (simp (disch := omega) only [W2, Int.cast_ofNat_Int]; (try simp only [S, TY, reduceCtorEq, nq0, nq1, nq2, nq3, nq4, iq0, iq1, iq2, iq3, iq4, iq5, iq6, iq7, iq8, w20, v20]))); repeat ((first | (refine cl_drawi 5 D5_5 (List.range 33) (by decide) (by kernel_rfl) ?_; unfold D5_5) | (refine cl_drawi 8 D5_8 (List.range 12) (by decide) (by kernel_rfl) ?_; unfold D5_8) | (refine cl_drawi 13 D5_13 (List.range 28) (by decide) (by kernel_rfl) ?_; unfold D5_13)); simp only [S, TY, reduceCtorEq, nq0, nq1, nq2, nq3, nq4, iq0, iq1, iq2, iq3, iq4, iq5, iq6, iq7, iq8, w20, v20]; (try (simp (disch := omega) only [W2, Int.cast_ofNat_Int]; (try simp only [S, TY, reduceCtorEq, nq0, nq1, nq2, nq3, nq4, iq0, iq1, iq2, iq3, iq4, iq5, iq6, iq7, iq8, w20, v20])))))
          refine (Of_ok ⟨0, 0, 0, 0, []⟩ nil8).at_ h20 [] _ rfl fun r B H21 hr h21 => ?_
          obtain ⟨rfl, rfl⟩ := hr
          simp only [front_eq, fronts_nil, fronts_cons, List.getElem?_cons_zero, List.getElem?_cons_succ, List.eraseIdx_cons_zero, List.eraseIdx_cons_succ, List.cons_append, List.nil_append, putL_cons, putL_nil, List.set_cons_zero, List.set_cons_succ, Nat.reduceAdd] at h21
          have w21 := h21.li 1 rfl
          have v21 := h21.li 0 rfl
          have ez : bs [] = ByteArray.empty := rfl
          ((try simp only [S, TY, reduceCtorEq, nq0, nq1, nq2, nq3, nq4, iq0, iq1, iq2, iq3, iq4, iq5, iq6, iq7, iq8, w20, v20, w21, v21, ez]); (try (simp (disch := omega) only [W2, Int.cast_ofNat_Int]; (try simp only [S, TY, reduceCtorEq, nq0, nq1, nq2, nq3, nq4, iq0, iq1, iq2, iq3, iq4, iq5, iq6, iq7, iq8, w20, v20, w21, v21, ez]))); repeat ((first | (refine cl_drawi 5 D5_5 (List.range 33) (by decide) (by kernel_rfl) ?_; unfold D5_5) | (refine cl_drawi 8 D5_8 (List.range 12) (by decide) (by kernel_rfl) ?_; unfold D5_8) | (refine cl_drawi 13 D5_13 (List.range 28) (by decide) (by kernel_rfl) ?_; unfold D5_13)); simp only [S, TY, reduceCtorEq, nq0, nq1, nq2, nq3, nq4, iq0, iq1, iq2, iq3, iq4, iq5, iq6, iq7, iq8, w20, v20, w21, v21, ez]; (try (simp (disch := omega) only [W2, Int.cast_ofNat_Int]; (try simp only [S, TY, reduceCtorEq, nq0, nq1, nq2, nq3, nq4, iq0, iq1, iq2, iq3, iq4, iq5, iq6, iq7, iq8, w20, v20, w21, v21, ez])))))
          exact fin_take (B := []) h21 ⟨rfl, rfl⟩
        | some y =>
          rw [hdc] at hr
          obtain ⟨u, rfl, rfl⟩ := hr
          obtain ⟨ya, yn, yc, rfl, _, _⟩ := h13.sl 0 rfl Rd_own
          obtain ⟨y1, y2⟩ := hed hdc
          simp only [front_eq, fronts_nil, fronts_cons, List.getElem?_cons_zero, List.getElem?_cons_succ, List.eraseIdx_cons_zero, List.eraseIdx_cons_succ, List.cons_append, List.nil_append, putL_cons, putL_nil, List.set_cons_zero, List.set_cons_succ, Nat.reduceAdd] at h13
          obtain ⟨ym, yp, yk, ys, yb⟩ := y
          ((try simp only [S, TY, reduceCtorEq, nq0, nq1, nq2, nq3, nq4, iq0, iq1, iq2, iq3, iq4, iq5, iq6, iq7, iq8]); (try (simp (disch := omega) only [W2, Int.cast_ofNat_Int]; (try simp only [S, TY, reduceCtorEq, nq0, nq1, nq2, nq3, nq4, iq0, iq1, iq2, iq3, iq4, iq5, iq6, iq7, iq8]))); repeat ((first | (refine cl_drawi 5 D5_5 (List.range 33) (by decide) (by kernel_rfl) ?_; unfold D5_5) | (refine cl_drawi 8 D5_8 (List.range 12) (by decide) (by kernel_rfl) ?_; unfold D5_8) | (refine cl_drawi 13 D5_13 (List.range 28) (by decide) (by kernel_rfl) ?_; unfold D5_13)); simp only [S, TY, reduceCtorEq, nq0, nq1, nq2, nq3, nq4, iq0, iq1, iq2, iq3, iq4, iq5, iq6, iq7, iq8]; (try (simp (disch := omega) only [W2, Int.cast_ofNat_Int]; (try simp only [S, TY, reduceCtorEq, nq0, nq1, nq2, nq3, nq4, iq0, iq1, iq2, iq3, iq4, iq5, iq6, iq7, iq8])))))
          intro k14 p14 q14
          have h14 := h13.new p14 q14 (.cells z0.toArray 62 (0, 0))
          ((try simp only [S, TY, reduceCtorEq, nq0, nq1, nq2, nq3, nq4, iq0, iq1, iq2, iq3, iq4, iq5, iq6, iq7, iq8]); (try (simp (disch := omega) only [W2, Int.cast_ofNat_Int]; (try simp only [S, TY, reduceCtorEq, nq0, nq1, nq2, nq3, nq4, iq0, iq1, iq2, iq3, iq4, iq5, iq6, iq7, iq8]))); repeat ((first | (refine cl_drawi 5 D5_5 (List.range 33) (by decide) (by kernel_rfl) ?_; unfold D5_5) | (refine cl_drawi 8 D5_8 (List.range 12) (by decide) (by kernel_rfl) ?_; unfold D5_8) | (refine cl_drawi 13 D5_13 (List.range 28) (by decide) (by kernel_rfl) ?_; unfold D5_13)); simp only [S, TY, reduceCtorEq, nq0, nq1, nq2, nq3, nq4, iq0, iq1, iq2, iq3, iq4, iq5, iq6, iq7, iq8]; (try (simp (disch := omega) only [W2, Int.cast_ofNat_Int]; (try simp only [S, TY, reduceCtorEq, nq0, nq1, nq2, nq3, nq4, iq0, iq1, iq2, iq3, iq4, iq5, iq6, iq7, iq8])))))
          refine sg.st h14 rfl rfl fun H15 h15 => ?_
          simp only [front_eq, fronts_nil, fronts_cons, List.getElem?_cons_zero, List.getElem?_cons_succ, List.eraseIdx_cons_zero, List.eraseIdx_cons_succ, List.cons_append, List.nil_append, putL_cons, putL_nil, List.set_cons_zero, List.set_cons_succ, Nat.reduceAdd] at h15
          ((try simp only [S, TY, reduceCtorEq, nq0, nq1, nq2, nq3, nq4, iq0, iq1, iq2, iq3, iq4, iq5, iq6, iq7, iq8]); (try (simp (disch := omega) only [W2, Int.cast_ofNat_Int]; (try simp only [S, TY, reduceCtorEq, nq0, nq1, nq2, nq3, nq4, iq0, iq1, iq2, iq3, iq4, iq5, iq6, iq7, iq8]))); repeat ((first | (refine cl_drawi 5 D5_5 (List.range 33) (by decide) (by kernel_rfl) ?_; unfold D5_5) | (refine cl_drawi 8 D5_8 (List.range 12) (by decide) (by kernel_rfl) ?_; unfold D5_8) | (refine cl_drawi 13 D5_13 (List.range 28) (by decide) (by kernel_rfl) ?_; unfold D5_13)); simp only [S, TY, reduceCtorEq, nq0, nq1, nq2, nq3, nq4, iq0, iq1, iq2, iq3, iq4, iq5, iq6, iq7, iq8]; (try (simp (disch := omega) only [W2, Int.cast_ofNat_Int]; (try simp only [S, TY, reduceCtorEq, nq0, nq1, nq2, nq3, nq4, iq0, iq1, iq2, iq3, iq4, iq5, iq6, iq7, iq8])))))
          refine (dParse_ok hw0 (by omega)).at_ h15 [] _ rfl fun r B H16 hr h16 => ?_
          obtain ⟨rfl, rfl⟩ := hr
          unfold dDec
          rw [hdc]
          ((try simp only [S, TY, reduceCtorEq, nq0, nq1, nq2, nq3, nq4, iq0, iq1, iq2, iq3, iq4, iq5, iq6, iq7, iq8]); (try (simp (disch := omega) only [W2, Int.cast_ofNat_Int]; (try simp only [S, TY, reduceCtorEq, nq0, nq1, nq2, nq3, nq4, iq0, iq1, iq2, iq3, iq4, iq5, iq6, iq7, iq8]))); repeat ((first | (refine cl_drawi 5 D5_5 (List.range 33) (by decide) (by kernel_rfl) ?_; unfold D5_5) | (refine cl_drawi 8 D5_8 (List.range 12) (by decide) (by kernel_rfl) ?_; unfold D5_8) | (refine cl_drawi 13 D5_13 (List.range 28) (by decide) (by kernel_rfl) ?_; unfold D5_13)); simp only [S, TY, reduceCtorEq, nq0, nq1, nq2, nq3, nq4, iq0, iq1, iq2, iq3, iq4, iq5, iq6, iq7, iq8]; (try (simp (disch := omega) only [W2, Int.cast_ofNat_Int]; (try simp only [S, TY, reduceCtorEq, nq0, nq1, nq2, nq3, nq4, iq0, iq1, iq2, iq3, iq4, iq5, iq6, iq7, iq8])))))
          intro k17 p17 q17
          have h17 := h16.new p17 q17 (.cells dz.toArray 65 (0, 0))
          ((try simp only [S, TY, reduceCtorEq, nq0, nq1, nq2, nq3, nq4, iq0, iq1, iq2, iq3, iq4, iq5, iq6, iq7, iq8]); (try (simp (disch := omega) only [W2, Int.cast_ofNat_Int]; (try simp only [S, TY, reduceCtorEq, nq0, nq1, nq2, nq3, nq4, iq0, iq1, iq2, iq3, iq4, iq5, iq6, iq7, iq8]))); repeat ((first | (refine cl_drawi 5 D5_5 (List.range 33) (by decide) (by kernel_rfl) ?_; unfold D5_5) | (refine cl_drawi 8 D5_8 (List.range 12) (by decide) (by kernel_rfl) ?_; unfold D5_8) | (refine cl_drawi 13 D5_13 (List.range 28) (by decide) (by kernel_rfl) ?_; unfold D5_13)); simp only [S, TY, reduceCtorEq, nq0, nq1, nq2, nq3, nq4, iq0, iq1, iq2, iq3, iq4, iq5, iq6, iq7, iq8]; (try (simp (disch := omega) only [W2, Int.cast_ofNat_Int]; (try simp only [S, TY, reduceCtorEq, nq0, nq1, nq2, nq3, nq4, iq0, iq1, iq2, iq3, iq4, iq5, iq6, iq7, iq8])))))
          refine sg.st h17 rfl rfl fun H18 h18 => ?_
          simp only [front_eq, fronts_nil, fronts_cons, List.getElem?_cons_zero, List.getElem?_cons_succ, List.eraseIdx_cons_zero, List.eraseIdx_cons_succ, List.cons_append, List.nil_append, putL_cons, putL_nil, List.set_cons_zero, List.set_cons_succ, Nat.reduceAdd] at h18
          have w18 := h18.li 1 rfl
          ((try simp only [S, TY, reduceCtorEq, nq0, nq1, nq2, nq3, nq4, iq0, iq1, iq2, iq3, iq4, iq5, iq6, iq7, iq8, w18]); (try (simp (disch := omega) only [W2, Int.cast_ofNat_Int]; (try simp only [S, TY, reduceCtorEq, nq0, nq1, nq2, nq3, nq4, iq0, iq1, iq2, iq3, iq4, iq5, iq6, iq7, iq8, w18]))); repeat ((first | (refine cl_drawi 5 D5_5 (List.range 33) (by decide) (by kernel_rfl) ?_; unfold D5_5) | (refine cl_drawi 8 D5_8 (List.range 12) (by decide) (by kernel_rfl) ?_; unfold D5_8) | (refine cl_drawi 13 D5_13 (List.range 28) (by decide) (by kernel_rfl) ?_; unfold D5_13)); simp only [S, TY, reduceCtorEq, nq0, nq1, nq2, nq3, nq4, iq0, iq1, iq2, iq3, iq4, iq5, iq6, iq7, iq8, w18]; (try (simp (disch := omega) only [W2, Int.cast_ofNat_Int]; (try simp only [S, TY, reduceCtorEq, nq0, nq1, nq2, nq3, nq4, iq0, iq1, iq2, iq3, iq4, iq5, iq6, iq7, iq8, w18])))))
          refine Con.lend_at [] [own 5 1 (.slice ya yn yc) (bv yb)] h18 [2] rfl (fun F hF hs => Encode_ok ⟨ym, yp, yk, ys, yb⟩ (seps_own hs 0 rfl).left) fun r B H19 hr h19 => ?_
          unfold EncR at hr
          rw [if_pos y1] at hr
          obtain ⟨d, rfl, rfl⟩ := hr
          obtain ⟨da, dn, dc, rfl, _, _⟩ := h19.sl 0 rfl Rd_own
          simp only [front_eq, fronts_nil, fronts_cons, List.getElem?_cons_zero, List.getElem?_cons_succ, List.eraseIdx_cons_zero, List.eraseIdx_cons_succ, List.cons_append, List.nil_append, putL_cons, putL_nil, List.set_cons_zero, List.set_cons_succ, Nat.reduceAdd] at h19
          ((try simp only [S, TY, reduceCtorEq, nq0, nq1, nq2, nq3, nq4, iq0, iq1, iq2, iq3, iq4, iq5, iq6, iq7, iq8]); (try (simp (disch := omega) only [W2, Int.cast_ofNat_Int]; (try simp only [S, TY, reduceCtorEq, nq0, nq1, nq2, nq3, nq4, iq0, iq1, iq2, iq3, iq4, iq5, iq6, iq7, iq8]))); repeat ((first | (refine cl_drawi 5 D5_5 (List.range 33) (by decide) (by kernel_rfl) ?_; unfold D5_5) | (refine cl_drawi 8 D5_8 (List.range 12) (by decide) (by kernel_rfl) ?_; unfold D5_8) | (refine cl_drawi 13 D5_13 (List.range 28) (by decide) (by kernel_rfl) ?_; unfold D5_13)); simp only [S, TY, reduceCtorEq, nq0, nq1, nq2, nq3, nq4, iq0, iq1, iq2, iq3, iq4, iq5, iq6, iq7, iq8]; (try (simp (disch := omega) only [W2, Int.cast_ofNat_Int]; (try simp only [S, TY, reduceCtorEq, nq0, nq1, nq2, nq3, nq4, iq0, iq1, iq2, iq3, iq4, iq5, iq6, iq7, iq8])))))
          refine alive.at_ h19 [] _ rfl fun r B H20 hr h20 => ?_
          obtain ⟨rfl, rfl⟩ := hr
          simp only [front_eq, fronts_nil, fronts_cons, List.getElem?_cons_zero, List.getElem?_cons_succ, List.eraseIdx_cons_zero, List.eraseIdx_cons_succ, List.cons_append, List.nil_append, putL_cons, putL_nil, List.set_cons_zero, List.set_cons_succ, Nat.reduceAdd] at h20
          have w20 := h20.li 3 rfl
          have v20 := h20.li 2 rfl
          have s20 := rStr_of (P := Try.prog) (h20.rdsi 0 rfl Rd_own)
          have z20 := rStr_of (P := Try.prog) (h20.ro hw0)
          ((try simp only [S, TY, reduceCtorEq, nq0, nq1, nq2, nq3, nq4, iq0, iq1, iq2, iq3, iq4, iq5, iq6, iq7, iq8, w20, v20, s20, z20]); (try (simp (disch := omega) only [W2, Int.cast_ofNat_Int]; (try simp only [S, TY, reduceCtorEq, nq0, nq1, nq2, nq3, nq4, iq0, iq1, iq2, iq3, iq4, iq5, iq6, iq7, iq8, w20, v20, s20, z20]))); repeat ((first | (refine cl_drawi 5 D5_5 (List.range 33) (by decide) (by kernel_rfl) ?_; unfold D5_5) | (refine cl_drawi 8 D5_8 (List.range 12) (by decide) (by kernel_rfl) ?_; unfold D5_8) | (refine cl_drawi 13 D5_13 (List.range 28) (by decide) (by kernel_rfl) ?_; unfold D5_13)); simp only [S, TY, reduceCtorEq, nq0, nq1, nq2, nq3, nq4, iq0, iq1, iq2, iq3, iq4, iq5, iq6, iq7, iq8, w20, v20, s20, z20]; (try (simp (disch := omega) only [W2, Int.cast_ofNat_Int]; (try simp only [S, TY, reduceCtorEq, nq0, nq1, nq2, nq3, nq4, iq0, iq1, iq2, iq3, iq4, iq5, iq6, iq7, iq8, w20, v20, s20, z20])))))
          refine Con.lend_at [] [own 5 1 (.slice ya yn yc) (bv yb)] h20 [1] rfl (fun F hF hs => Of_ok ⟨ym, yp, yk, ys, yb⟩ (seps_own hs 0 rfl).left) fun r B H21 hr h21 => ?_
          obtain ⟨rfl, rfl⟩ := hr
          simp only [front_eq, fronts_nil, fronts_cons, List.getElem?_cons_zero, List.getElem?_cons_succ, List.eraseIdx_cons_zero, List.eraseIdx_cons_succ, List.cons_append, List.nil_append, putL_cons, putL_nil, List.set_cons_zero, List.set_cons_succ, Nat.reduceAdd] at h21
          have w21 := h21.li 3 rfl
          have v21 := h21.li 2 rfl
          have s21 := rStr_of (P := Try.prog) (h21.rdsi 1 rfl Rd_own)
          have z21 := rStr_of (P := Try.prog) (h21.ro hw0)
          rw [y2] at s20 s21
          ((try simp only [S, TY, reduceCtorEq, nq0, nq1, nq2, nq3, nq4, iq0, iq1, iq2, iq3, iq4, iq5, iq6, iq7, iq8, w20, v20, s20, z20, w21, v21, s21, z21]); (try (simp (disch := omega) only [W2, Int.cast_ofNat_Int]; (try simp only [S, TY, reduceCtorEq, nq0, nq1, nq2, nq3, nq4, iq0, iq1, iq2, iq3, iq4, iq5, iq6, iq7, iq8, w20, v20, s20, z20, w21, v21, s21, z21]))); repeat ((first | (refine cl_drawi 5 D5_5 (List.range 33) (by decide) (by kernel_rfl) ?_; unfold D5_5) | (refine cl_drawi 8 D5_8 (List.range 12) (by decide) (by kernel_rfl) ?_; unfold D5_8) | (refine cl_drawi 13 D5_13 (List.range 28) (by decide) (by kernel_rfl) ?_; unfold D5_13)); simp only [S, TY, reduceCtorEq, nq0, nq1, nq2, nq3, nq4, iq0, iq1, iq2, iq3, iq4, iq5, iq6, iq7, iq8, w20, v20, s20, z20, w21, v21, s21, z21]; (try (simp (disch := omega) only [W2, Int.cast_ofNat_Int]; (try simp only [S, TY, reduceCtorEq, nq0, nq1, nq2, nq3, nq4, iq0, iq1, iq2, iq3, iq4, iq5, iq6, iq7, iq8, w20, v20, s20, z20, w21, v21, s21, z21])))))
          exact fin_take (B := []) h21 ⟨rfl, rfl⟩
      · rw [if_neg (show ¬ Lt.ok ⟨xm, xp, xa, xs, xb⟩ = true from hx)] at hr
        obtain ⟨rfl, rfl⟩ := hr
        have w4 := h4.li 0 rfl
        ((try simp only [S, TY, reduceCtorEq, nq0, nq1, nq2, nq3, nq4, iq0, iq1, iq2, iq3, iq4, iq5, iq6, iq7, iq8, w4, hx]); (try (simp (disch := omega) only [W2, Int.cast_ofNat_Int]; (try simp only [S, TY, reduceCtorEq, nq0, nq1, nq2, nq3, nq4, iq0, iq1, iq2, iq3, iq4, iq5, iq6, iq7, iq8, w4, hx]))); repeat ((first | (refine cl_drawi 5 D5_5 (List.range 33) (by decide) (by kernel_rfl) ?_; unfold D5_5) | (refine cl_drawi 8 D5_8 (List.range 12) (by decide) (by kernel_rfl) ?_; unfold D5_8) | (refine cl_drawi 13 D5_13 (List.range 28) (by decide) (by kernel_rfl) ?_; unfold D5_13)); simp only [S, TY, reduceCtorEq, nq0, nq1, nq2, nq3, nq4, iq0, iq1, iq2, iq3, iq4, iq5, iq6, iq7, iq8, w4, hx]; (try (simp (disch := omega) only [W2, Int.cast_ofNat_Int]; (try simp only [S, TY, reduceCtorEq, nq0, nq1, nq2, nq3, nq4, iq0, iq1, iq2, iq3, iq4, iq5, iq6, iq7, iq8, w4, hx])))))
        refine (Right_ok xm xp xa xs hv0).at_ h4 [] _ rfl fun r B H5 hr h5 => ?_
        obtain ⟨rfl, rfl⟩ := hr
        have w5 := h5.li 0 rfl
        ((try simp only [S, TY, reduceCtorEq, nq0, nq1, nq2, nq3, nq4, iq0, iq1, iq2, iq3, iq4, iq5, iq6, iq7, iq8, w5, hx]); (try (simp (disch := omega) only [W2, Int.cast_ofNat_Int]; (try simp only [S, TY, reduceCtorEq, nq0, nq1, nq2, nq3, nq4, iq0, iq1, iq2, iq3, iq4, iq5, iq6, iq7, iq8, w5, hx]))); repeat ((first | (refine cl_drawi 5 D5_5 (List.range 33) (by decide) (by kernel_rfl) ?_; unfold D5_5) | (refine cl_drawi 8 D5_8 (List.range 12) (by decide) (by kernel_rfl) ?_; unfold D5_8) | (refine cl_drawi 13 D5_13 (List.range 28) (by decide) (by kernel_rfl) ?_; unfold D5_13)); simp only [S, TY, reduceCtorEq, nq0, nq1, nq2, nq3, nq4, iq0, iq1, iq2, iq3, iq4, iq5, iq6, iq7, iq8, w5, hx]; (try (simp (disch := omega) only [W2, Int.cast_ofNat_Int]; (try simp only [S, TY, reduceCtorEq, nq0, nq1, nq2, nq3, nq4, iq0, iq1, iq2, iq3, iq4, iq5, iq6, iq7, iq8, w5, hx])))))
        refine (Decode_ok nil8 (by simp)).at_ h5 [] _ rfl fun r B H8 hr h8 => ?_
        unfold DecR at hr
        rw [show ldec [] = none from rfl] at hr
        obtain ⟨rfl, rfl⟩ := hr
        ((try simp only [S, TY, reduceCtorEq, nq0, nq1, nq2, nq3, nq4, iq0, iq1, iq2, iq3, iq4, iq5, iq6, iq7, iq8]); (try (simp (disch := omega) only [W2, Int.cast_ofNat_Int]; (try simp only [S, TY, reduceCtorEq, nq0, nq1, nq2, nq3, nq4, iq0, iq1, iq2, iq3, iq4, iq5, iq6, iq7, iq8]))); repeat ((first | (refine cl_drawi 5 D5_5 (List.range 33) (by decide) (by kernel_rfl) ?_; unfold D5_5) | (refine cl_drawi 8 D5_8 (List.range 12) (by decide) (by kernel_rfl) ?_; unfold D5_8) | (refine cl_drawi 13 D5_13 (List.range 28) (by decide) (by kernel_rfl) ?_; unfold D5_13)); simp only [S, TY, reduceCtorEq, nq0, nq1, nq2, nq3, nq4, iq0, iq1, iq2, iq3, iq4, iq5, iq6, iq7, iq8]; (try (simp (disch := omega) only [W2, Int.cast_ofNat_Int]; (try simp only [S, TY, reduceCtorEq, nq0, nq1, nq2, nq3, nq4, iq0, iq1, iq2, iq3, iq4, iq5, iq6, iq7, iq8])))))
        intro k8 hk8 hg8
        have h9 := h8.new hk8 hg8 (.cells z0.toArray 62 (0, 0))
        ((try simp only [S, TY, reduceCtorEq, nq0, nq1, nq2, nq3, nq4, iq0, iq1, iq2, iq3, iq4, iq5, iq6, iq7, iq8]); (try (simp (disch := omega) only [W2, Int.cast_ofNat_Int]; (try simp only [S, TY, reduceCtorEq, nq0, nq1, nq2, nq3, nq4, iq0, iq1, iq2, iq3, iq4, iq5, iq6, iq7, iq8]))); repeat ((first | (refine cl_drawi 5 D5_5 (List.range 33) (by decide) (by kernel_rfl) ?_; unfold D5_5) | (refine cl_drawi 8 D5_8 (List.range 12) (by decide) (by kernel_rfl) ?_; unfold D5_8) | (refine cl_drawi 13 D5_13 (List.range 28) (by decide) (by kernel_rfl) ?_; unfold D5_13)); simp only [S, TY, reduceCtorEq, nq0, nq1, nq2, nq3, nq4, iq0, iq1, iq2, iq3, iq4, iq5, iq6, iq7, iq8]; (try (simp (disch := omega) only [W2, Int.cast_ofNat_Int]; (try simp only [S, TY, reduceCtorEq, nq0, nq1, nq2, nq3, nq4, iq0, iq1, iq2, iq3, iq4, iq5, iq6, iq7, iq8])))))
        refine sg.st h9 rfl rfl fun H12 h12 => ?_
        simp only [front_eq, fronts_nil, fronts_cons, List.getElem?_cons_zero, List.getElem?_cons_succ, List.eraseIdx_cons_zero, List.eraseIdx_cons_succ, List.cons_append, List.nil_append, putL_cons, putL_nil, List.set_cons_zero, List.set_cons_succ, Nat.reduceAdd] at h12
        ((try simp only [S, TY, reduceCtorEq, nq0, nq1, nq2, nq3, nq4, iq0, iq1, iq2, iq3, iq4, iq5, iq6, iq7, iq8, hx]); (try (simp (disch := omega) only [W2, Int.cast_ofNat_Int]; (try simp only [S, TY, reduceCtorEq, nq0, nq1, nq2, nq3, nq4, iq0, iq1, iq2, iq3, iq4, iq5, iq6, iq7, iq8, hx]))); repeat ((first | (refine cl_drawi 5 D5_5 (List.range 33) (by decide) (by kernel_rfl) ?_; unfold D5_5) | (refine cl_drawi 8 D5_8 (List.range 12) (by decide) (by kernel_rfl) ?_; unfold D5_8) | (refine cl_drawi 13 D5_13 (List.range 28) (by decide) (by kernel_rfl) ?_; unfold D5_13)); simp only [S, TY, reduceCtorEq, nq0, nq1, nq2, nq3, nq4, iq0, iq1, iq2, iq3, iq4, iq5, iq6, iq7, iq8, hx]; (try (simp (disch := omega) only [W2, Int.cast_ofNat_Int]; (try simp only [S, TY, reduceCtorEq, nq0, nq1, nq2, nq3, nq4, iq0, iq1, iq2, iq3, iq4, iq5, iq6, iq7, iq8, hx])))))
        refine (Decode_ok hw0 (by omega)).at_ h12 [] _ rfl fun r B H13 hr h13 => ?_
        unfold DecR at hr
        cases hdc : ldec c with
        | none =>
          rw [hdc] at hr
          obtain ⟨rfl, rfl⟩ := hr
          ((try simp only [S, TY, reduceCtorEq, nq0, nq1, nq2, nq3, nq4, iq0, iq1, iq2, iq3, iq4, iq5, iq6, iq7, iq8]); (try (simp (disch := omega) only [W2, Int.cast_ofNat_Int]; (try simp only [S, TY, reduceCtorEq, nq0, nq1, nq2, nq3, nq4, iq0, iq1, iq2, iq3, iq4, iq5, iq6, iq7, iq8]))); repeat ((first | (refine cl_drawi 5 D5_5 (List.range 33) (by decide) (by kernel_rfl) ?_; unfold D5_5) | (refine cl_drawi 8 D5_8 (List.range 12) (by decide) (by kernel_rfl) ?_; unfold D5_8) | (refine cl_drawi 13 D5_13 (List.range 28) (by decide) (by kernel_rfl) ?_; unfold D5_13)); simp only [S, TY, reduceCtorEq, nq0, nq1, nq2, nq3, nq4, iq0, iq1, iq2, iq3, iq4, iq5, iq6, iq7, iq8]; (try (simp (disch := omega) only [W2, Int.cast_ofNat_Int]; (try simp only [S, TY, reduceCtorEq, nq0, nq1, nq2, nq3, nq4, iq0, iq1, iq2, iq3, iq4, iq5, iq6, iq7, iq8])))))
          intro k14 p14 q14
          have h14 := h13.new p14 q14 (.cells z0.toArray 62 (0, 0))
          ((try simp only [S, TY, reduceCtorEq, nq0, nq1, nq2, nq3, nq4, iq0, iq1, iq2, iq3, iq4, iq5, iq6, iq7, iq8]); (try (simp (disch := omega) only [W2, Int.cast_ofNat_Int]; (try simp only [S, TY, reduceCtorEq, nq0, nq1, nq2, nq3, nq4, iq0, iq1, iq2, iq3, iq4, iq5, iq6, iq7, iq8]))); repeat ((first | (refine cl_drawi 5 D5_5 (List.range 33) (by decide) (by kernel_rfl) ?_; unfold D5_5) | (refine cl_drawi 8 D5_8 (List.range 12) (by decide) (by kernel_rfl) ?_; unfold D5_8) | (refine cl_drawi 13 D5_13 (List.range 28) (by decide) (by kernel_rfl) ?_; unfold D5_13)); simp only [S, TY, reduceCtorEq, nq0, nq1, nq2, nq3, nq4, iq0, iq1, iq2, iq3, iq4, iq5, iq6, iq7, iq8]; (try (simp (disch := omega) only [W2, Int.cast_ofNat_Int]; (try simp only [S, TY, reduceCtorEq, nq0, nq1, nq2, nq3, nq4, iq0, iq1, iq2, iq3, iq4, iq5, iq6, iq7, iq8])))))
          refine sg.st h14 rfl rfl fun H15 h15 => ?_
          simp only [front_eq, fronts_nil, fronts_cons, List.getElem?_cons_zero, List.getElem?_cons_succ, List.eraseIdx_cons_zero, List.eraseIdx_cons_succ, List.cons_append, List.nil_append, putL_cons, putL_nil, List.set_cons_zero, List.set_cons_succ, Nat.reduceAdd] at h15
          ((try simp only [S, TY, reduceCtorEq, nq0, nq1, nq2, nq3, nq4, iq0, iq1, iq2, iq3, iq4, iq5, iq6, iq7, iq8]); (try (simp (disch := omega) only [W2, Int.cast_ofNat_Int]; (try simp only [S, TY, reduceCtorEq, nq0, nq1, nq2, nq3, nq4, iq0, iq1, iq2, iq3, iq4, iq5, iq6, iq7, iq8]))); repeat ((first | (refine cl_drawi 5 D5_5 (List.range 33) (by decide) (by kernel_rfl) ?_; unfold D5_5) | (refine cl_drawi 8 D5_8 (List.range 12) (by decide) (by kernel_rfl) ?_; unfold D5_8) | (refine cl_drawi 13 D5_13 (List.range 28) (by decide) (by kernel_rfl) ?_; unfold D5_13)); simp only [S, TY, reduceCtorEq, nq0, nq1, nq2, nq3, nq4, iq0, iq1, iq2, iq3, iq4, iq5, iq6, iq7, iq8]; (try (simp (disch := omega) only [W2, Int.cast_ofNat_Int]; (try simp only [S, TY, reduceCtorEq, nq0, nq1, nq2, nq3, nq4, iq0, iq1, iq2, iq3, iq4, iq5, iq6, iq7, iq8])))))
          refine (dParse_ok hw0 (by omega)).at_ h15 [] _ rfl fun r B H16 hr h16 => ?_
          obtain ⟨rfl, rfl⟩ := hr
          unfold dDec
          rw [hdc]
          ((try simp only [S, TY, reduceCtorEq, nq0, nq1, nq2, nq3, nq4, iq0, iq1, iq2, iq3, iq4, iq5, iq6, iq7, iq8]); (try (simp (disch := omega) only [W2, Int.cast_ofNat_Int]; (try simp only [S, TY, reduceCtorEq, nq0, nq1, nq2, nq3, nq4, iq0, iq1, iq2, iq3, iq4, iq5, iq6, iq7, iq8]))); repeat ((first | (refine cl_drawi 5 D5_5 (List.range 33) (by decide) (by kernel_rfl) ?_; unfold D5_5) | (refine cl_drawi 8 D5_8 (List.range 12) (by decide) (by kernel_rfl) ?_; unfold D5_8) | (refine cl_drawi 13 D5_13 (List.range 28) (by decide) (by kernel_rfl) ?_; unfold D5_13)); simp only [S, TY, reduceCtorEq, nq0, nq1, nq2, nq3, nq4, iq0, iq1, iq2, iq3, iq4, iq5, iq6, iq7, iq8]; (try (simp (disch := omega) only [W2, Int.cast_ofNat_Int]; (try simp only [S, TY, reduceCtorEq, nq0, nq1, nq2, nq3, nq4, iq0, iq1, iq2, iq3, iq4, iq5, iq6, iq7, iq8])))))
          intro k17 p17 q17
          have h17 := h16.new p17 q17 (.cells dz.toArray 65 (0, 0))
          ((try simp only [S, TY, reduceCtorEq, nq0, nq1, nq2, nq3, nq4, iq0, iq1, iq2, iq3, iq4, iq5, iq6, iq7, iq8]); (try (simp (disch := omega) only [W2, Int.cast_ofNat_Int]; (try simp only [S, TY, reduceCtorEq, nq0, nq1, nq2, nq3, nq4, iq0, iq1, iq2, iq3, iq4, iq5, iq6, iq7, iq8]))); repeat ((first | (refine cl_drawi 5 D5_5 (List.range 33) (by decide) (by kernel_rfl) ?_; unfold D5_5) | (refine cl_drawi 8 D5_8 (List.range 12) (by decide) (by kernel_rfl) ?_; unfold D5_8) | (refine cl_drawi 13 D5_13 (List.range 28) (by decide) (by kernel_rfl) ?_; unfold D5_13)); simp only [S, TY, reduceCtorEq, nq0, nq1, nq2, nq3, nq4, iq0, iq1, iq2, iq3, iq4, iq5, iq6, iq7, iq8]; (try (simp (disch := omega) only [W2, Int.cast_ofNat_Int]; (try simp only [S, TY, reduceCtorEq, nq0, nq1, nq2, nq3, nq4, iq0, iq1, iq2, iq3, iq4, iq5, iq6, iq7, iq8])))))
          refine sg.st h17 rfl rfl fun H18 h18 => ?_
          simp only [front_eq, fronts_nil, fronts_cons, List.getElem?_cons_zero, List.getElem?_cons_succ, List.eraseIdx_cons_zero, List.eraseIdx_cons_succ, List.cons_append, List.nil_append, putL_cons, putL_nil, List.set_cons_zero, List.set_cons_succ, Nat.reduceAdd] at h18
          have w18 := h18.li 1 rfl
          ((try simp only [S, TY, reduceCtorEq, nq0, nq1, nq2, nq3, nq4, iq0, iq1, iq2, iq3, iq4, iq5, iq6, iq7, iq8, w18]); (try (simp (disch := omega) only [W2, Int.cast_ofNat_Int]; (try simp only [S, TY, reduceCtorEq, nq0, nq1, nq2, nq3, nq4, iq0, iq1, iq2, iq3, iq4, iq5, iq6, iq7, iq8, w18]))); repeat ((first | (refine cl_drawi 5 D5_5 (List.range 33) (by decide) (by kernel_rfl) ?_; unfold D5_5) | (refine cl_drawi 8 D5_8 (List.range 12) (by decide) (by kernel_rfl) ?_; unfold D5_8) | (refine cl_drawi 13 D5_13 (List.range 28) (by decide) (by kernel_rfl) ?_; unfold D5_13)); simp only [S, TY, reduceCtorEq, nq0, nq1, nq2, nq3, nq4, iq0, iq1, iq2, iq3, iq4, iq5, iq6, iq7, iq8, w18]; (try (simp (disch := omega) only [W2, Int.cast_ofNat_Int]; (try simp only [S, TY, reduceCtorEq, nq0, nq1, nq2, nq3, nq4, iq0, iq1, iq2, iq3, iq4, iq5, iq6, iq7, iq8, w18])))))
          refine (Encode_ok ⟨0, 0, 0, 0, []⟩ nil8).at_ h18 [] _ rfl fun r B H19 hr h19 => ?_
          unfold EncR at hr
          rw [if_neg (show ¬ Lt.ok ⟨0, 0, 0, 0, []⟩ = true by decide)] at hr
          obtain ⟨rfl, rfl⟩ := hr
          ((try simp only [S, TY, reduceCtorEq, nq0, nq1, nq2, nq3, nq4, iq0, iq1, iq2, iq3, iq4, iq5, iq6, iq7, iq8]); (try (simp (disch := omega) only [W2, Int.cast_ofNat_Int]; (try simp only [S, TY, reduceCtorEq, nq0, nq1, nq2, nq3, nq4, iq0, iq1, iq2, iq3, iq4, iq5, iq6, iq7, iq8]))); repeat ((first | (refine cl_drawi 5 D5_5 (List.range 33) (by decide) (by kernel_rfl) ?_; unfold D5_5) | (refine cl_drawi 8 D5_8 (List.range 12) (by decide) (by kernel_rfl) ?_; unfold D5_8) | (refine cl_drawi 13 D5_13 (List.range 28) (by decide) (by kernel_rfl) ?_; unfold D5_13)); simp only [S, TY, reduceCtorEq, nq0, nq1, nq2, nq3, nq4, iq0, iq1, iq2, iq3, iq4, iq5, iq6, iq7, iq8]; (try (simp (disch := omega) only [W2, Int.cast_ofNat_Int]; (try simp only [S, TY, reduceCtorEq, nq0, nq1, nq2, nq3, nq4, iq0, iq1, iq2, iq3, iq4, iq5, iq6, iq7, iq8])))))
          refine alive.at_ h19 [] _ rfl fun r B H20 hr h20 => ?_
          obtain ⟨rfl, rfl⟩ := hr
          simp only [front_eq, fronts_nil, fronts_cons, List.getElem?_cons_zero, List.getElem?_cons_succ, List.eraseIdx_cons_zero, List.eraseIdx_cons_succ, List.cons_append, List.nil_append, putL_cons, putL_nil, List.set_cons_zero, List.set_cons_succ, Nat.reduceAdd] at h20
          have w20 := h20.li 1 rfl
          have v20 := h20.li 0 rfl
          ((try simp only [S, TY, reduceCtorEq, nq0, nq1, nq2, nq3, nq4, iq0, iq1, iq2, iq3, iq4, iq5, iq6, iq7, iq8, w20, v20]); (try (simp (disch := omega) only [W2, Int.cast_ofNat_Int]; (try simp only [S, TY, reduceCtorEq, nq0, nq1, nq2, nq3, nq4, iq0, iq1, iq2, iq3, iq4, iq5, iq6, iq7, iq8, w20, v20]))); repeat ((first | (refine cl_drawi 5 D5_5 (List.range 33) (by decide) (by kernel_rfl) ?_; unfold D5_5) | (refine cl_drawi 8 D5_8 (List.range 12) (by decide) (by kernel_rfl) ?_; unfold D5_8) | (refine cl_drawi 13 D5_13 (List.range 28) (by decide) (by kernel_rfl) ?_; unfold D5_13)); simp only [S, TY, reduceCtorEq, nq0, nq1, nq2, nq3, nq4, iq0, iq1, iq2, iq3, iq4, iq5, iq6, iq7, iq8, w20, v20]; (try (simp (disch := omega) only [W2, Int.cast_ofNat_Int]; (try simp only [S, TY, reduceCtorEq, nq0, nq1, nq2, nq3, nq4, iq0, iq1, iq2, iq3, iq4, iq5, iq6, iq7, iq8, w20, v20])))))
          refine (Of_ok ⟨0, 0, 0, 0, []⟩ nil8).at_ h20 [] _ rfl fun r B H21 hr h21 => ?_
          obtain ⟨rfl, rfl⟩ := hr
          simp only [front_eq, fronts_nil, fronts_cons, List.getElem?_cons_zero, List.getElem?_cons_succ, List.eraseIdx_cons_zero, List.eraseIdx_cons_succ, List.cons_append, List.nil_append, putL_cons, putL_nil, List.set_cons_zero, List.set_cons_succ, Nat.reduceAdd] at h21
          have w21 := h21.li 1 rfl
          have v21 := h21.li 0 rfl
          have ez : bs [] = ByteArray.empty := rfl
          ((try simp only [S, TY, reduceCtorEq, nq0, nq1, nq2, nq3, nq4, iq0, iq1, iq2, iq3, iq4, iq5, iq6, iq7, iq8, w20, v20, w21, v21, ez]); (try (simp (disch := omega) only [W2, Int.cast_ofNat_Int]; (try simp only [S, TY, reduceCtorEq, nq0, nq1, nq2, nq3, nq4, iq0, iq1, iq2, iq3, iq4, iq5, iq6, iq7, iq8, w20, v20, w21, v21, ez]))); repeat ((first | (refine cl_drawi 5 D5_5 (List.range 33) (by decide) (by kernel_rfl) ?_; unfold D5_5) | (refine cl_drawi 8 D5_8 (List.range 12) (by decide) (by kernel_rfl) ?_; unfold D5_8) | (refine cl_drawi 13 D5_13 (List.range 28) (by decide) (by kernel_rfl) ?_; unfold D5_13)); simp only [S, TY, reduceCtorEq, nq0, nq1, nq2, nq3, nq4, iq0, iq1, iq2, iq3, iq4, iq5, iq6, iq7, iq8, w20, v20, w21, v21, ez]; (try (simp (disch := omega) only [W2, Int.cast_ofNat_Int]; (try simp only [S, TY, reduceCtorEq, nq0, nq1, nq2, nq3, nq4, iq0, iq1, iq2, iq3, iq4, iq5, iq6, iq7, iq8, w20, v20, w21, v21, ez])))))
          exact fin_take (B := []) h21 ⟨rfl, rfl⟩
        | some y =>
          rw [hdc] at hr
          obtain ⟨u, rfl, rfl⟩ := hr
          obtain ⟨ya, yn, yc, rfl, _, _⟩ := h13.sl 0 rfl Rd_own
          obtain ⟨y1, y2⟩ := hed hdc
          simp only [front_eq, fronts_nil, fronts_cons, List.getElem?_cons_zero, List.getElem?_cons_succ, List.eraseIdx_cons_zero, List.eraseIdx_cons_succ, List.cons_append, List.nil_append, putL_cons, putL_nil, List.set_cons_zero, List.set_cons_succ, Nat.reduceAdd] at h13
          obtain ⟨ym, yp, yk, ys, yb⟩ := y
          ((try simp only [S, TY, reduceCtorEq, nq0, nq1, nq2, nq3, nq4, iq0, iq1, iq2, iq3, iq4, iq5, iq6, iq7, iq8]); (try (simp (disch := omega) only [W2, Int.cast_ofNat_Int]; (try simp only [S, TY, reduceCtorEq, nq0, nq1, nq2, nq3, nq4, iq0, iq1, iq2, iq3, iq4, iq5, iq6, iq7, iq8]))); repeat ((first | (refine cl_drawi 5 D5_5 (List.range 33) (by decide) (by kernel_rfl) ?_; unfold D5_5) | (refine cl_drawi 8 D5_8 (List.range 12) (by decide) (by kernel_rfl) ?_; unfold D5_8) | (refine cl_drawi 13 D5_13 (List.range 28) (by decide) (by kernel_rfl) ?_; unfold D5_13)); simp only [S, TY, reduceCtorEq, nq0, nq1, nq2, nq3, nq4, iq0, iq1, iq2, iq3, iq4, iq5, iq6, iq7, iq8]; (try (simp (disch := omega) only [W2, Int.cast_ofNat_Int]; (try simp only [S, TY, reduceCtorEq, nq0, nq1, nq2, nq3, nq4, iq0, iq1, iq2, iq3, iq4, iq5, iq6, iq7, iq8])))))
          intro k14 p14 q14
          have h14 := h13.new p14 q14 (.cells z0.toArray 62 (0, 0))
          ((try simp only [S, TY, reduceCtorEq, nq0, nq1, nq2, nq3, nq4, iq0, iq1, iq2, iq3, iq4, iq5, iq6, iq7, iq8]); (try (simp (disch := omega) only [W2, Int.cast_ofNat_Int]; (try simp only [S, TY, reduceCtorEq, nq0, nq1, nq2, nq3, nq4, iq0, iq1, iq2, iq3, iq4, iq5, iq6, iq7, iq8]))); repeat ((first | (refine cl_drawi 5 D5_5 (List.range 33) (by decide) (by kernel_rfl) ?_; unfold D5_5) | (refine cl_drawi 8 D5_8 (List.range 12) (by decide) (by kernel_rfl) ?_; unfold D5_8) | (refine cl_drawi 13 D5_13 (List.range 28) (by decide) (by kernel_rfl) ?_; unfold D5_13)); simp only [S, TY, reduceCtorEq, nq0, nq1, nq2, nq3, nq4, iq0, iq1, iq2, iq3, iq4, iq5, iq6, iq7, iq8]; (try (simp (disch := omega) only [W2, Int.cast_ofNat_Int]; (try simp only [S, TY, reduceCtorEq, nq0, nq1, nq2, nq3, nq4, iq0, iq1, iq2, iq3, iq4, iq5, iq6, iq7, iq8])))))
          refine sg.st h14 rfl rfl fun H15 h15 => ?_
          simp only [front_eq, fronts_nil, fronts_cons, List.getElem?_cons_zero, List.getElem?_cons_succ, List.eraseIdx_cons_zero, List.eraseIdx_cons_succ, List.cons_append, List.nil_append, putL_cons, putL_nil, List.set_cons_zero, List.set_cons_succ, Nat.reduceAdd] at h15
          ((try simp only [S, TY, reduceCtorEq, nq0, nq1, nq2, nq3, nq4, iq0, iq1, iq2, iq3, iq4, iq5, iq6, iq7, iq8]); (try (simp (disch := omega) only [W2, Int.cast_ofNat_Int]; (try simp only [S, TY, reduceCtorEq, nq0, nq1, nq2, nq3, nq4, iq0, iq1, iq2, iq3, iq4, iq5, iq6, iq7, iq8]))); repeat ((first | (refine cl_drawi 5 D5_5 (List.range 33) (by decide) (by kernel_rfl) ?_; unfold D5_5) | (refine cl_drawi 8 D5_8 (List.range 12) (by decide) (by kernel_rfl) ?_; unfold D5_8) | (refine cl_drawi 13 D5_13 (List.range 28) (by decide) (by kernel_rfl) ?_; unfold D5_13)); simp only [S, TY, reduceCtorEq, nq0, nq1, nq2, nq3, nq4, iq0, iq1, iq2, iq3, iq4, iq5, iq6, iq7, iq8]; (try (simp (disch := omega) only [W2, Int.cast_ofNat_Int]; (try simp only [S, TY, reduceCtorEq, nq0, nq1, nq2, nq3, nq4, iq0, iq1, iq2, iq3, iq4, iq5, iq6, iq7, iq8])))))
          refine (dParse_ok hw0 (by omega)).at_ h15 [] _ rfl fun r B H16 hr h16 => ?_
          obtain ⟨rfl, rfl⟩ := hr
          unfold dDec
          rw [hdc]
          ((try simp only [S, TY, reduceCtorEq, nq0, nq1, nq2, nq3, nq4, iq0, iq1, iq2, iq3, iq4, iq5, iq6, iq7, iq8]); (try (simp (disch := omega) only [W2, Int.cast_ofNat_Int]; (try simp only [S, TY, reduceCtorEq, nq0, nq1, nq2, nq3, nq4, iq0, iq1, iq2, iq3, iq4, iq5, iq6, iq7, iq8]))); repeat ((first | (refine cl_drawi 5 D5_5 (List.range 33) (by decide) (by kernel_rfl) ?_; unfold D5_5) | (refine cl_drawi 8 D5_8 (List.range 12) (by decide) (by kernel_rfl) ?_; unfold D5_8) | (refine cl_drawi 13 D5_13 (List.range 28) (by decide) (by kernel_rfl) ?_; unfold D5_13)); simp only [S, TY, reduceCtorEq, nq0, nq1, nq2, nq3, nq4, iq0, iq1, iq2, iq3, iq4, iq5, iq6, iq7, iq8]; (try (simp (disch := omega) only [W2, Int.cast_ofNat_Int]; (try simp only [S, TY, reduceCtorEq, nq0, nq1, nq2, nq3, nq4, iq0, iq1, iq2, iq3, iq4, iq5, iq6, iq7, iq8])))))
          intro k17 p17 q17
          have h17 := h16.new p17 q17 (.cells dz.toArray 65 (0, 0))
          ((try simp only [S, TY, reduceCtorEq, nq0, nq1, nq2, nq3, nq4, iq0, iq1, iq2, iq3, iq4, iq5, iq6, iq7, iq8]); (try (simp (disch := omega) only [W2, Int.cast_ofNat_Int]; (try simp only [S, TY, reduceCtorEq, nq0, nq1, nq2, nq3, nq4, iq0, iq1, iq2, iq3, iq4, iq5, iq6, iq7, iq8]))); repeat ((first | (refine cl_drawi 5 D5_5 (List.range 33) (by decide) (by kernel_rfl) ?_; unfold D5_5) | (refine cl_drawi 8 D5_8 (List.range 12) (by decide) (by kernel_rfl) ?_; unfold D5_8) | (refine cl_drawi 13 D5_13 (List.range 28) (by decide) (by kernel_rfl) ?_; unfold D5_13)); simp only [S, TY, reduceCtorEq, nq0, nq1, nq2, nq3, nq4, iq0, iq1, iq2, iq3, iq4, iq5, iq6, iq7, iq8]; (try (simp (disch := omega) only [W2, Int.cast_ofNat_Int]; (try simp only [S, TY, reduceCtorEq, nq0, nq1, nq2, nq3, nq4, iq0, iq1, iq2, iq3, iq4, iq5, iq6, iq7, iq8])))))
          refine sg.st h17 rfl rfl fun H18 h18 => ?_
          simp only [front_eq, fronts_nil, fronts_cons, List.getElem?_cons_zero, List.getElem?_cons_succ, List.eraseIdx_cons_zero, List.eraseIdx_cons_succ, List.cons_append, List.nil_append, putL_cons, putL_nil, List.set_cons_zero, List.set_cons_succ, Nat.reduceAdd] at h18
          have w18 := h18.li 1 rfl
          ((try simp only [S, TY, reduceCtorEq, nq0, nq1, nq2, nq3, nq4, iq0, iq1, iq2, iq3, iq4, iq5, iq6, iq7, iq8, w18]); (try (simp (disch := omega) only [W2, Int.cast_ofNat_Int]; (try simp only [S, TY, reduceCtorEq, nq0, nq1, nq2, nq3, nq4, iq0, iq1, iq2, iq3, iq4, iq5, iq6, iq7, iq8, w18]))); repeat ((first | (refine cl_drawi 5 D5_5 (List.range 33) (by decide) (by kernel_rfl) ?_; unfold D5_5) | (refine cl_drawi 8 D5_8 (List.range 12) (by decide) (by kernel_rfl) ?_; unfold D5_8) | (refine cl_drawi 13 D5_13 (List.range 28) (by decide) (by kernel_rfl) ?_; unfold D5_13)); simp only [S, TY, reduceCtorEq, nq0, nq1, nq2, nq3, nq4, iq0, iq1, iq2, iq3, iq4, iq5, iq6, iq7, iq8, w18]; (try (simp (disch := omega) only [W2, Int.cast_ofNat_Int]; (try simp only [S, TY, reduceCtorEq, nq0, nq1, nq2, nq3, nq4, iq0, iq1, iq2, iq3, iq4, iq5, iq6, iq7, iq8, w18])))))
          refine Con.lend_at [] [own 5 1 (.slice ya yn yc) (bv yb)] h18 [2] rfl (fun F hF hs => Encode_ok ⟨ym, yp, yk, ys, yb⟩ (seps_own hs 0 rfl).left) fun r B H19 hr h19 => ?_
          unfold EncR at hr
          rw [if_pos y1] at hr
          obtain ⟨d, rfl, rfl⟩ := hr
          obtain ⟨da, dn, dc, rfl, _, _⟩ := h19.sl 0 rfl Rd_own
          simp only [front_eq, fronts_nil, fronts_cons, List.getElem?_cons_zero, List.getElem?_cons_succ, List.eraseIdx_cons_zero, List.eraseIdx_cons_succ, List.cons_append, List.nil_append, putL_cons, putL_nil, List.set_cons_zero, List.set_cons_succ, Nat.reduceAdd] at h19
          ((try simp only [S, TY, reduceCtorEq, nq0, nq1, nq2, nq3, nq4, iq0, iq1, iq2, iq3, iq4, iq5, iq6, iq7, iq8]); (try (simp (disch := omega) only [W2, Int.cast_ofNat_Int]; (try simp only [S, TY, reduceCtorEq, nq0, nq1, nq2, nq3, nq4, iq0, iq1, iq2, iq3, iq4, iq5, iq6, iq7, iq8]))); repeat ((first | (refine cl_drawi 5 D5_5 (List.range 33) (by decide) (by kernel_rfl) ?_; unfold D5_5) | (refine cl_drawi 8 D5_8 (List.range 12) (by decide) (by kernel_rfl) ?_; unfold D5_8) | (refine cl_drawi 13 D5_13 (List.range 28) (by decide) (by kernel_rfl) ?_; unfold D5_13)); simp only [S, TY, reduceCtorEq, nq0, nq1, nq2, nq3, nq4, iq0, iq1, iq2, iq3, iq4, iq5, iq6, iq7, iq8]; (try (simp (disch := omega) only [W2, Int.cast_ofNat_Int]; (try simp only [S, TY, reduceCtorEq, nq0, nq1, nq2, nq3, nq4, iq0, iq1, iq2, iq3, iq4, iq5, iq6, iq7, iq8])))))
          refine alive.at_ h19 [] _ rfl fun r B H20 hr h20 => ?_
          obtain ⟨rfl, rfl⟩ := hr
          simp only [front_eq, fronts_nil, fronts_cons, List.getElem?_cons_zero, List.getElem?_cons_succ, List.eraseIdx_cons_zero, List.eraseIdx_cons_succ, List.cons_append, List.nil_append, putL_cons, putL_nil, List.set_cons_zero, List.set_cons_succ, Nat.reduceAdd] at h20
          have w20 := h20.li 3 rfl
          have v20 := h20.li 2 rfl
          have s20 := rStr_of (P := Try.prog) (h20.rdsi 0 rfl Rd_own)
          have z20 := rStr_of (P := Try.prog) (h20.ro hw0)
          ((try simp only [S, TY, reduceCtorEq, nq0, nq1, nq2, nq3, nq4, iq0, iq1, iq2, iq3, iq4, iq5, iq6, iq7, iq8, w20, v20, s20, z20]); (try (simp (disch := omega) only [W2, Int.cast_ofNat_Int]; (try simp only [S, TY, reduceCtorEq, nq0, nq1, nq2, nq3, nq4, iq0, iq1, iq2, iq3, iq4, iq5, iq6, iq7, iq8, w20, v20, s20, z20]))); repeat ((first | (refine cl_drawi 5 D5_5 (List.range 33) (by decide) (by kernel_rfl) ?_; unfold D5_5) | (refine cl_drawi 8 D5_8 (List.range 12) (by decide) (by kernel_rfl) ?_; unfold D5_8) | (refine cl_drawi 13 D5_13 (List.range 28) (by decide) (by kernel_rfl) ?_; unfold D5_13)); simp only [S, TY, reduceCtorEq, nq0, nq1, nq2, nq3, nq4, iq0, iq1, iq2, iq3, iq4, iq5, iq6, iq7, iq8, w20, v20, s20, z20]; (try (simp (disch := omega) only [W2, Int.cast_ofNat_Int]; (try simp only [S, TY, reduceCtorEq, nq0, nq1, nq2, nq3, nq4, iq0, iq1, iq2, iq3, iq4, iq5, iq6, iq7, iq8, w20, v20, s20, z20])))))
          refine Con.lend_at [] [own 5 1 (.slice ya yn yc) (bv yb)] h20 [1] rfl (fun F hF hs => Of_ok ⟨ym, yp, yk, ys, yb⟩ (seps_own hs 0 rfl).left) fun r B H21 hr h21 => ?_
          obtain ⟨rfl, rfl⟩ := hr
          simp only [front_eq, fronts_nil, fronts_cons, List.getElem?_cons_zero, List.getElem?_cons_succ, List.eraseIdx_cons_zero, List.eraseIdx_cons_succ, List.cons_append, List.nil_append, putL_cons, putL_nil, List.set_cons_zero, List.set_cons_succ, Nat.reduceAdd] at h21
          have w21 := h21.li 3 rfl
          have v21 := h21.li 2 rfl
          have s21 := rStr_of (P := Try.prog) (h21.rdsi 1 rfl Rd_own)
          have z21 := rStr_of (P := Try.prog) (h21.ro hw0)
          rw [y2] at s20 s21
          ((try simp only [S, TY, reduceCtorEq, nq0, nq1, nq2, nq3, nq4, iq0, iq1, iq2, iq3, iq4, iq5, iq6, iq7, iq8, w20, v20, s20, z20, w21, v21, s21, z21]); (try (simp (disch := omega) only [W2, Int.cast_ofNat_Int]; (try simp only [S, TY, reduceCtorEq, nq0, nq1, nq2, nq3, nq4, iq0, iq1, iq2, iq3, iq4, iq5, iq6, iq7, iq8, w20, v20, s20, z20, w21, v21, s21, z21]))); repeat ((first | (refine cl_drawi 5 D5_5 (List.range 33) (by decide) (by kernel_rfl) ?_; unfold D5_5) | (refine cl_drawi 8 D5_8 (List.range 12) (by decide) (by kernel_rfl) ?_; unfold D5_8) | (refine cl_drawi 13 D5_13 (List.range 28) (by decide) (by kernel_rfl) ?_; unfold D5_13)); simp only [S, TY, reduceCtorEq, nq0, nq1, nq2, nq3, nq4, iq0, iq1, iq2, iq3, iq4, iq5, iq6, iq7, iq8, w20, v20, s20, z20, w21, v21, s21, z21]; (try (simp (disch := omega) only [W2, Int.cast_ofNat_Int]; (try simp only [S, TY, reduceCtorEq, nq0, nq1, nq2, nq3, nq4, iq0, iq1, iq2, iq3, iq4, iq5, iq6, iq7, iq8, w20, v20, s20, z20, w21, v21, s21, z21])))))
          exact fin_take (B := []) h21 ⟨rfl, rfl⟩
abbrev LT : Ty := .st (.pr (.int .i64) (.pr (.int .i64) (.pr (.int .i64) (.pr (.int .i64) (.pr .bytes .un)))))
theorem lettersV {G : Hp} {v0 v1 : Value} {y0 : LT.den} {y1 : Ty.bytes.den} (h0 : Ty.V G LT v0 y0) (h1 : Ty.V G .bytes v1 y1) : Con Try.prog G 5 [v0, v1] [] (fun r B => r = .bool true ∧ B = []) := by
  rcases h0 with ⟨_, cs, rfl, h0⟩ | ⟨h, _⟩
  · rcases h1 with ⟨h, _⟩ | ⟨_, w, h1, hw⟩
    · cases h
    cases h1
    obtain ⟨_, _, rfl, _, ⟨rfl, k1⟩, _, _, rfl, _, ⟨rfl, k2⟩, _, _, rfl, _, ⟨rfl, k3⟩, _, _, rfl, _, ⟨rfl, k4⟩, _, _, rfl, _, ⟨u, rfl, hu⟩, rfl⟩ := h0
    exact lettersLaw ⟨_, _, _, _, _⟩ hu hw
  · cases h
end Go.Proofs.Ytanhmbdcdbcfmaa.SeL
