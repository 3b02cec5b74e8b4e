/- Records of bodies: two lists compared; the law on what stands in bytes. -/
import Derived.Test.YtfjmejideoklpaaJnT
set_option linter.unusedVariables false
set_option linter.unusedSimpArgs false
set_option maxRecDepth 10000
set_option maxHeartbeats 1000000
namespace Go.Proofs.Ytfjmejideoklpaa.JnM
open Nat renaming reduceEqDiff → nq0, reduceAdd → nq1, reduceLeDiff → nq2, reduceBEq → nq3, reduceMul → nq4
open Int renaming reduceBEq → iq0, reduceEq → iq1, reduceLT → iq2, reduceLE → iq3, reduceAdd → iq4, reduceSub → iq5, reduceMul → iq6, reduceToNat → iq7, cast_ofNat_Int → iq8
open Go Go.Sl Go.Proofs Go.Proofs.Ytfjmejideoklpaa.Buf Go.Proofs.Ytfjmejideoklpaa.BufRd Go.Proofs.Ytfjmejideoklpaa.BufRe Go.Proofs.Ytfjmejideoklpaa.BufP Go.Proofs.Ytfjmejideoklpaa.Jn Go.Proofs.Ytfjmejideoklpaa.JnP Go.Proofs.Ytfjmejideoklpaa.JnS Go.Proofs.Ytfjmejideoklpaa.JnE Go.Proofs.Ytfjmejideoklpaa.JnT
theorem TY : aggN Try.prog 3 = some none ∧
  aggN Try.prog 5 = some none ∧
  aggN Try.prog 9 = some none ∧
  aggN Try.prog 33 = some none ∧
  aggN Try.prog 90 = some none ∧
  apI Try.prog 33 = some (5, 1, 1) ∧
  apI Try.prog 90 = some (33, 1, 24) ∧
  bySl Try.prog 33 = true ∧
  csz Try.prog 3 = some 1 ∧
  csz Try.prog 5 = some 1 ∧
  csz Try.prog 9 = some 1 ∧
  csz Try.prog 33 = some 1 ∧
  csz Try.prog 90 = some 1 ∧
  inIs Try.prog 3 = some .i64 ∧
  inIs Try.prog 5 = some .u8 ∧
  slEl Try.prog 33 = 5 ∧
  slEl Try.prog 90 = 33 ∧
  slIs Try.prog 33 = true ∧
  slIs Try.prog 90 = true ∧
  slSz Try.prog 33 = 1 ∧
  slSz Try.prog 90 = 1 ∧
  stIs Try.prog 9 = true ∧
  zro Try.prog 3 = some (.int .i64 0) ∧
  zro Try.prog 5 = some (.int .u8 0) ∧
  zro Try.prog 9 = some (.string ByteArray.empty) ∧
  zro Try.prog 33 = some (.slice none 0 0) ∧
  zro Try.prog 90 = some (.slice none 0 0) :=
  ⟨by kernel_rfl, by kernel_rfl, by kernel_rfl, by kernel_rfl, by kernel_rfl, by kernel_rfl, by kernel_rfl, by kernel_rfl, by kernel_rfl, by kernel_rfl, by kernel_rfl, by kernel_rfl, by kernel_rfl, by kernel_rfl, by kernel_rfl, by kernel_rfl, by kernel_rfl, by kernel_rfl, by kernel_rfl, by kernel_rfl, by kernel_rfl, by kernel_rfl, by kernel_rfl, by kernel_rfl, by kernel_rfl, by kernel_rfl, by kernel_rfl⟩
def D55_6 : List Note := Go.Sl.nn [0, 0, 0, 1, 1, 0, 0, 0, 1, 1, 0]
/-- Two lists of bodies, compared. -/
theorem same_ok {G : Hp} {u w : Value} {vs ws : List Value} {xs bs : List (List UInt8)} (hu : rds G 1 u vs) (hw : rds G 1 w ws) (ha : blobs vs xs G) (hb : blobs ws bs G) (hll : vs.length ≤ 100000) :
    Con Try.prog G 55 [u, w] [] (fun r B => r = .bool (decide (xs = bs)) ∧ B = []) := by
  obtain ⟨a, n, c, rfl, e1, e2⟩ := hu.slice
  obtain ⟨a', n', c', rfl, f1, f2⟩ := hw.slice
  rw [Nat.mul_one] at e1 f1
  have la := ha.len
  have lb := hb.len
  refine Con.intro Try.func55 rfl (Nat.le_of_ble_eq_true (by kernel_rfl)) (by kernel_rfl) Try.results55 ?_
  intro H h
  by_cases g1 : n = n'
  · subst g1
    ((try simp only [S, TY, reduceCtorEq, nq0, nq1, nq2, nq3, nq4, iq0, iq1, iq2, iq3, iq4, iq5, iq6, iq7, iq8]); (try (simp (disch := omega) only [W2, Int.cast_ofNat_Int]; (try simp only [S, TY, reduceCtorEq, nq0, nq1, nq2, nq3, nq4, iq0, iq1, iq2, iq3, iq4, iq5, iq6, iq7, iq8]))); repeat ((first | (refine cl_drawi 6 D55_6 (List.range 11) (by decide) (by kernel_rfl) ?_; unfold D55_6)); simp only [S, TY, reduceCtorEq, nq0, nq1, nq2, nq3, nq4, iq0, iq1, iq2, iq3, iq4, iq5, iq6, iq7, iq8]; (try (simp (disch := omega) only [W2, Int.cast_ofNat_Int]; (try simp only [S, TY, reduceCtorEq, nq0, nq1, nq2, nq3, nq4, iq0, iq1, iq2, iq3, iq4, iq5, iq6, iq7, iq8])))))
    refine cl_loop (fun i e H => i ≤ n ∧ e 0 = .slice a n c ∧ e 1 = .slice a' n c' ∧ e 5 = .int .i64 (i : Nat) ∧ xs.take i = bs.take i ∧ sg G [] H) (fun i : Nat => n - i) 0
      ⟨by omega, rfl, rfl, rfl, rfl, h⟩ ?_
    clear h
    rintro i e H ⟨q1, q0, q1', q5, qe, h⟩
    by_cases g2 : (i : Int) < n
    · have g0 : (0 : Int) ≤ i ∧ (i : Int) < n := ⟨by omega, g2⟩
      obtain ⟨b, off, rfl, c0⟩ := (h.ro hu).at1 (i := i) (by omega)
      obtain ⟨b', off', rfl, c1⟩ := (h.ro hw).at1 (i := i) (by omega)
      rw [List.getElem?_eq_getElem (by omega)] at c0 c1
      have da := (ha.get i (by omega) (by omega)).mono (un_le_r h.1)
      have db := (hb.get i (by omega) (by omega)).mono (un_le_r h.1)
      obtain ⟨xa, xn, xc, hxv, _, _⟩ := da.slice
      obtain ⟨ya, yn, yc, hyv, _, _⟩ := db.slice
      rw [hxv] at da c0
      rw [hyv] at db c1
      have s0 := rStr_of (P := Try.prog) da
      have s1 := rStr_of (P := Try.prog) db
      have ea : xs.take (i + 1) = xs.take i ++ [xs[i]] := by rw [List.take_add_one, List.getElem?_eq_getElem (by omega)]; rfl
      have eb : bs.take (i + 1) = bs.take i ++ [bs[i]] := by rw [List.take_add_one, List.getElem?_eq_getElem (by omega)]; rfl
      by_cases g3 : xs[i] = bs[i]
      · ((try simp only [S, TY, reduceCtorEq, nq0, nq1, nq2, nq3, nq4, iq0, iq1, iq2, iq3, iq4, iq5, iq6, iq7, iq8, q0, q1', q5, g0, g2, c0, c1, s0, s1, g3]); (try (simp (disch := omega) only [W2, Int.cast_ofNat_Int]; (try simp only [S, TY, reduceCtorEq, nq0, nq1, nq2, nq3, nq4, iq0, iq1, iq2, iq3, iq4, iq5, iq6, iq7, iq8, q0, q1', q5, g0, g2, c0, c1, s0, s1, g3]))); repeat ((first | (refine cl_drawi 6 D55_6 (List.range 11) (by decide) (by kernel_rfl) ?_; unfold D55_6)); simp only [S, TY, reduceCtorEq, nq0, nq1, nq2, nq3, nq4, iq0, iq1, iq2, iq3, iq4, iq5, iq6, iq7, iq8, q0, q1', q5, g0, g2, c0, c1, s0, s1, g3]; (try (simp (disch := omega) only [W2, Int.cast_ofNat_Int]; (try simp only [S, TY, reduceCtorEq, nq0, nq1, nq2, nq3, nq4, iq0, iq1, iq2, iq3, iq4, iq5, iq6, iq7, iq8, q0, q1', q5, g0, g2, c0, c1, s0, s1, g3])))))
        refine .go (i + 1) (by omega) ⟨by omega, q0, q1', rfl, by rw [ea, eb, qe, g3], h⟩
      · ((try simp only [S, TY, reduceCtorEq, nq0, nq1, nq2, nq3, nq4, iq0, iq1, iq2, iq3, iq4, iq5, iq6, iq7, iq8, q0, q1', q5, g0, g2, c0, c1, s0, s1, g3]); (try (simp (disch := omega) only [W2, Int.cast_ofNat_Int]; (try simp only [S, TY, reduceCtorEq, nq0, nq1, nq2, nq3, nq4, iq0, iq1, iq2, iq3, iq4, iq5, iq6, iq7, iq8, q0, q1', q5, g0, g2, c0, c1, s0, s1, g3]))); repeat ((first | (refine cl_drawi 6 D55_6 (List.range 11) (by decide) (by kernel_rfl) ?_; unfold D55_6)); simp only [S, TY, reduceCtorEq, nq0, nq1, nq2, nq3, nq4, iq0, iq1, iq2, iq3, iq4, iq5, iq6, iq7, iq8, q0, q1', q5, g0, g2, c0, c1, s0, s1, g3]; (try (simp (disch := omega) only [W2, Int.cast_ofNat_Int]; (try simp only [S, TY, reduceCtorEq, nq0, nq1, nq2, nq3, nq4, iq0, iq1, iq2, iq3, iq4, iq5, iq6, iq7, iq8, q0, q1', q5, g0, g2, c0, c1, s0, s1, g3])))))
        refine fin_take (B := []) h ⟨?_, rfl⟩
        rw [decide_eq_false]
        intro z
        subst z
        exact g3 rfl
    · rw [List.take_of_length_le (by omega), List.take_of_length_le (by omega)] at qe
      ((try simp only [S, TY, reduceCtorEq, nq0, nq1, nq2, nq3, nq4, iq0, iq1, iq2, iq3, iq4, iq5, iq6, iq7, iq8, q0, q1', q5, g2]); (try (simp (disch := omega) only [W2, Int.cast_ofNat_Int]; (try simp only [S, TY, reduceCtorEq, nq0, nq1, nq2, nq3, nq4, iq0, iq1, iq2, iq3, iq4, iq5, iq6, iq7, iq8, q0, q1', q5, g2]))); repeat ((first | (refine cl_drawi 6 D55_6 (List.range 11) (by decide) (by kernel_rfl) ?_; unfold D55_6)); simp only [S, TY, reduceCtorEq, nq0, nq1, nq2, nq3, nq4, iq0, iq1, iq2, iq3, iq4, iq5, iq6, iq7, iq8, q0, q1', q5, g2]; (try (simp (disch := omega) only [W2, Int.cast_ofNat_Int]; (try simp only [S, TY, reduceCtorEq, nq0, nq1, nq2, nq3, nq4, iq0, iq1, iq2, iq3, iq4, iq5, iq6, iq7, iq8, q0, q1', q5, g2])))))
      exact fin_take (B := []) h ⟨by rw [decide_eq_true qe], rfl⟩
  · have g2 : ¬ (n : Int) = n' := by omega
    ((try simp only [S, TY, reduceCtorEq, nq0, nq1, nq2, nq3, nq4, iq0, iq1, iq2, iq3, iq4, iq5, iq6, iq7, iq8, g2]); (try (simp (disch := omega) only [W2, Int.cast_ofNat_Int]; (try simp only [S, TY, reduceCtorEq, nq0, nq1, nq2, nq3, nq4, iq0, iq1, iq2, iq3, iq4, iq5, iq6, iq7, iq8, g2]))); repeat ((first | (refine cl_drawi 6 D55_6 (List.range 11) (by decide) (by kernel_rfl) ?_; unfold D55_6)); simp only [S, TY, reduceCtorEq, nq0, nq1, nq2, nq3, nq4, iq0, iq1, iq2, iq3, iq4, iq5, iq6, iq7, iq8, g2]; (try (simp (disch := omega) only [W2, Int.cast_ofNat_Int]; (try simp only [S, TY, reduceCtorEq, nq0, nq1, nq2, nq3, nq4, iq0, iq1, iq2, iq3, iq4, iq5, iq6, iq7, iq8, g2])))))
    refine fin_take (B := []) h ⟨?_, rfl⟩
    rw [decide_eq_false]
    intro z
    subst z
    omega
end Go.Proofs.Ytfjmejideoklpaa.JnM
