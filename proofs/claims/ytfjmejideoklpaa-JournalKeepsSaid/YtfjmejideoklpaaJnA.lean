/- Records of bodies: the law on what stands in bytes. -/
import Derived.Test.YtfjmejideoklpaaJnL
set_option linter.unusedVariables false
set_option linter.unusedSimpArgs false
set_option maxRecDepth 10000
set_option maxHeartbeats 1000000
namespace Go.Proofs.Ytfjmejideoklpaa.JnA
open Nat renaming reduceEqDiff → nq0, reduceAdd → nq1, reduceLeDiff → nq2, reduceBEq → nq3, reduceMul → nq4
open Int renaming reduceBEq → iq0, reduceEq → iq1, reduceLT → iq2, reduceLE → iq3, reduceAdd → iq4, reduceSub → iq5, reduceMul → iq6, reduceToNat → iq7, cast_ofNat_Int → iq8
open Go Go.Sl Go.Proofs Go.Proofs.Ytfjmejideoklpaa.Jn Go.Proofs.Ytfjmejideoklpaa.JnP Go.Proofs.Ytfjmejideoklpaa.JnS Go.Proofs.Ytfjmejideoklpaa.JnE Go.Proofs.Ytfjmejideoklpaa.JnT Go.Proofs.Ytfjmejideoklpaa.JnM Go.Proofs.Ytfjmejideoklpaa.JnO Go.Proofs.Ytfjmejideoklpaa.JnL
theorem TY : aggN Try.prog 3 = some none ∧
  aggN Try.prog 5 = some none ∧
  aggN Try.prog 9 = some none ∧
  aggN Try.prog 33 = some none ∧
  aggN Try.prog 34 = some none ∧
  aggN Try.prog 90 = some none ∧
  apI Try.prog 33 = some (5, 1, 1) ∧
  apI Try.prog 90 = some (33, 1, 24) ∧
  bySl Try.prog 33 = true ∧
  csz Try.prog 3 = some 1 ∧
  csz Try.prog 5 = some 1 ∧
  csz Try.prog 9 = some 1 ∧
  csz Try.prog 33 = some 1 ∧
  csz Try.prog 34 = some 1 ∧
  csz Try.prog 90 = some 1 ∧
  goes Try.prog 47 = true ∧
  goes Try.prog 55 = true ∧
  goes Try.prog 61 = true ∧
  goes Try.prog 62 = true ∧
  goes Try.prog 63 = true ∧
  goes Try.prog 64 = true ∧
  goes Try.prog 65 = true ∧
  goes Try.prog 66 = true ∧
  inIs Try.prog 3 = some .i64 ∧
  inIs Try.prog 5 = some .u8 ∧
  inIs Try.prog 34 = some .i64 ∧
  slEl Try.prog 33 = 5 ∧
  slEl Try.prog 90 = 33 ∧
  slIs Try.prog 33 = true ∧
  slIs Try.prog 90 = true ∧
  slSz Try.prog 33 = 1 ∧
  slSz Try.prog 90 = 1 ∧
  stIs Try.prog 9 = true ∧
  zro Try.prog 3 = some (.int .i64 0) ∧
  zro Try.prog 5 = some (.int .u8 0) ∧
  zro Try.prog 9 = some (.string ByteArray.empty) ∧
  zro Try.prog 33 = some (.slice none 0 0) ∧
  zro Try.prog 34 = some (.int .i64 0) ∧
  zro Try.prog 90 = some (.slice none 0 0) :=
  ⟨by kernel_rfl, by kernel_rfl, by kernel_rfl, by kernel_rfl, by kernel_rfl, by kernel_rfl, by kernel_rfl, by kernel_rfl, by kernel_rfl, by kernel_rfl, by kernel_rfl, by kernel_rfl, by kernel_rfl, by kernel_rfl, by kernel_rfl, by kernel_rfl, by kernel_rfl, by kernel_rfl, by kernel_rfl, by kernel_rfl, by kernel_rfl, by kernel_rfl, by kernel_rfl, by kernel_rfl, by kernel_rfl, by kernel_rfl, by kernel_rfl, by kernel_rfl, by kernel_rfl, by kernel_rfl, by kernel_rfl, by kernel_rfl, by kernel_rfl, by kernel_rfl, by kernel_rfl, by kernel_rfl, by kernel_rfl, by kernel_rfl, by kernel_rfl⟩
theorem seps_blob {L : List Asn} {H : Hp} (h : seps L H) (i : Nat) {vs : List Value} {bs : List (List UInt8)} (hi : L[i]? = some (blobs vs bs)) : blobs vs bs H := by
  obtain ⟨H1, h1, h2⟩ := seps_i h i hi
  exact h1.mono h2
theorem nil8 {R : Hp} : rds R 1 (.slice none 0 0) (bv []) := ⟨none, 0, 0, rfl, rfl, Nat.le_refl _, .inl rfl⟩
theorem scansLaw {G : Hp} {u w : Value} {b c : List UInt8} (hu : rds G 1 u (bv b)) (hw : rds G 1 w (bv c)) : Con Try.prog G 9 [u, w] [] (fun r B => r = .bool true ∧ B = []) := by
  have hu0 := hu
  have hw0 := hw
  obtain ⟨ua, un, uc, rfl, e1, e2⟩ := hu.slice
  obtain ⟨wa, wn, wc, rfl, f1, f2⟩ := hw.slice
  rw [bv_length, Nat.mul_one] at e1 f1
  subst e1 f1
  refine Con.intro Try.func9 rfl (Nat.le_of_ble_eq_true (by kernel_rfl)) (by kernel_rfl) Try.results9 ?_
  intro H h
  by_cases k1 : (3000 : Int) < b.length
  · ((try simp only [S, TY, reduceCtorEq, nq0, nq1, nq2, nq3, nq4, iq0, iq1, iq2, iq3, iq4, iq5, iq6, iq7, iq8, k1]); (try (simp (disch := omega) only [W2, Int.cast_ofNat_Int]; (try simp only [S, TY, reduceCtorEq, nq0, nq1, nq2, nq3, nq4, iq0, iq1, iq2, iq3, iq4, iq5, iq6, iq7, iq8, k1]))))
    refine alive.at_ h [] _ rfl fun r B H1 hr h1 => ?_
    obtain ⟨rfl, rfl⟩ := hr
    ((try simp only [S, TY, reduceCtorEq, nq0, nq1, nq2, nq3, nq4, iq0, iq1, iq2, iq3, iq4, iq5, iq6, iq7, iq8]); (try (simp (disch := omega) only [W2, Int.cast_ofNat_Int]; (try simp only [S, TY, reduceCtorEq, nq0, nq1, nq2, nq3, nq4, iq0, iq1, iq2, iq3, iq4, iq5, iq6, iq7, iq8]))))
    exact fin_take (B := []) h1 ⟨rfl, rfl⟩
  · by_cases k2 : (3000 : Int) < c.length
    · ((try simp only [S, TY, reduceCtorEq, nq0, nq1, nq2, nq3, nq4, iq0, iq1, iq2, iq3, iq4, iq5, iq6, iq7, iq8, k1, k2]); (try (simp (disch := omega) only [W2, Int.cast_ofNat_Int]; (try simp only [S, TY, reduceCtorEq, nq0, nq1, nq2, nq3, nq4, iq0, iq1, iq2, iq3, iq4, iq5, iq6, iq7, iq8, k1, k2]))))
      refine alive.at_ h [] _ rfl fun r B H1 hr h1 => ?_
      obtain ⟨rfl, rfl⟩ := hr
      ((try simp only [S, TY, reduceCtorEq, nq0, nq1, nq2, nq3, nq4, iq0, iq1, iq2, iq3, iq4, iq5, iq6, iq7, iq8]); (try (simp (disch := omega) only [W2, Int.cast_ofNat_Int]; (try simp only [S, TY, reduceCtorEq, nq0, nq1, nq2, nq3, nq4, iq0, iq1, iq2, iq3, iq4, iq5, iq6, iq7, iq8]))))
      exact fin_take (B := []) h1 ⟨rfl, rfl⟩
    · ((try simp only [S, TY, reduceCtorEq, nq0, nq1, nq2, nq3, nq4, iq0, iq1, iq2, iq3, iq4, iq5, iq6, iq7, iq8, k1, k2]); (try (simp (disch := omega) only [W2, Int.cast_ofNat_Int]; (try simp only [S, TY, reduceCtorEq, nq0, nq1, nq2, nq3, nq4, iq0, iq1, iq2, iq3, iq4, iq5, iq6, iq7, iq8, k1, k2]))))
      refine (Scan_ok hu0 (by omega)).at_ h [] _ rfl fun r B H1 hr h1 => ?_
      obtain ⟨bs, rest, vs, x, hsc, rfl, rfl⟩ := hr
      ((try simp only [S, TY, reduceCtorEq, nq0, nq1, nq2, nq3, nq4, iq0, iq1, iq2, iq3, iq4, iq5, iq6, iq7, iq8]); (try (simp (disch := omega) only [W2, Int.cast_ofNat_Int]; (try simp only [S, TY, reduceCtorEq, nq0, nq1, nq2, nq3, nq4, iq0, iq1, iq2, iq3, iq4, iq5, iq6, iq7, iq8]))))
      refine (dScan_ok hu0 (by omega)).at_ h1 [] _ rfl fun r B H2 hr h2 => ?_
      obtain ⟨bs', rest', vs', x', hsc', rfl, rfl⟩ := hr
      obtain ⟨rfl, rfl⟩ := Scans.uniq hsc hsc'
      obtain ⟨m, hm⟩ : ∃ m, (bs.flatMap rcd).length = m := ⟨_, rfl⟩
      have hbl := hsc.len
      rw [hm]
      ((try simp only [S, TY, reduceCtorEq, nq0, nq1, nq2, nq3, nq4, iq0, iq1, iq2, iq3, iq4, iq5, iq6, iq7, iq8]); (try (simp (disch := omega) only [W2, Int.cast_ofNat_Int]; (try simp only [S, TY, reduceCtorEq, nq0, nq1, nq2, nq3, nq4, iq0, iq1, iq2, iq3, iq4, iq5, iq6, iq7, iq8]))))
      refine Con.lend_at [] [own 33 1 x vs, blobs vs bs, own 33 1 x' vs', blobs vs' bs] h2 [2, 2, 0, 0] rfl
        (fun F hF hs => same_ok (seps_own hs 0 rfl).left (seps_own hs 2 rfl).left ((seps_blob hs 1 rfl).mono un_le_l) ((seps_blob hs 3 rfl).mono un_le_l) (by rw [(seps_blob hs 1 rfl).len]; omega)) fun r B H3 hr h3 => ?_
      obtain ⟨rfl, rfl⟩ := hr
      rw [decide_eq_true rfl]
      ((try simp only [S, TY, reduceCtorEq, nq0, nq1, nq2, nq3, nq4, iq0, iq1, iq2, iq3, iq4, iq5, iq6, iq7, iq8]); (try (simp (disch := omega) only [W2, Int.cast_ofNat_Int]; (try simp only [S, TY, reduceCtorEq, nq0, nq1, nq2, nq3, nq4, iq0, iq1, iq2, iq3, iq4, iq5, iq6, iq7, iq8]))))
      refine (Encode_ok hw0 (by omega)).at_ h3 [] _ rfl fun r B H4 hr h4 => ?_
      unfold EncR at hr
      by_cases hg : good c
      · rw [if_pos hg] at hr
        obtain ⟨y, rfl, rfl⟩ := hr
        ((try simp only [S, TY, reduceCtorEq, nq0, nq1, nq2, nq3, nq4, iq0, iq1, iq2, iq3, iq4, iq5, iq6, iq7, iq8]); (try (simp (disch := omega) only [W2, Int.cast_ofNat_Int]; (try simp only [S, TY, reduceCtorEq, nq0, nq1, nq2, nq3, nq4, iq0, iq1, iq2, iq3, iq4, iq5, iq6, iq7, iq8]))))
        refine (dEncode_ok hw0 (by omega)).at_ h4 [] _ rfl fun r B H5 hr h5 => ?_
        unfold EncR at hr
        rw [if_pos hg] at hr
        obtain ⟨y', rfl, rfl⟩ := hr
        obtain ⟨ya, yn, yc, rfl, _, _⟩ := h5.sl 1 rfl Rd_own
        obtain ⟨za, zn, zc, rfl, _, _⟩ := h5.sl 0 rfl Rd_own
        ((try simp only [S, TY, reduceCtorEq, nq0, nq1, nq2, nq3, nq4, iq0, iq1, iq2, iq3, iq4, iq5, iq6, iq7, iq8]); (try (simp (disch := omega) only [W2, Int.cast_ofNat_Int]; (try simp only [S, TY, reduceCtorEq, nq0, nq1, nq2, nq3, nq4, iq0, iq1, iq2, iq3, iq4, iq5, iq6, iq7, iq8]))))
        refine alive.at_ h5 [] _ rfl fun r B H6 hr h6 => ?_
        obtain ⟨rfl, rfl⟩ := hr
        have s1 := rStr_of (P := Try.prog) (h6.rdsi 1 rfl Rd_own)
        have s0 := rStr_of (P := Try.prog) (h6.rdsi 0 rfl Rd_own)
        ((try simp only [S, TY, reduceCtorEq, nq0, nq1, nq2, nq3, nq4, iq0, iq1, iq2, iq3, iq4, iq5, iq6, iq7, iq8, s0, s1]); (try (simp (disch := omega) only [W2, Int.cast_ofNat_Int]; (try simp only [S, TY, reduceCtorEq, nq0, nq1, nq2, nq3, nq4, iq0, iq1, iq2, iq3, iq4, iq5, iq6, iq7, iq8, s0, s1]))))
        refine (Sum_ok hw0 (by omega)).at_ h6 [] _ rfl fun r B H7 hr h7 => ?_
        obtain ⟨rfl, rfl⟩ := hr
        ((try simp only [S, TY, reduceCtorEq, nq0, nq1, nq2, nq3, nq4, iq0, iq1, iq2, iq3, iq4, iq5, iq6, iq7, iq8]); (try (simp (disch := omega) only [W2, Int.cast_ofNat_Int]; (try simp only [S, TY, reduceCtorEq, nq0, nq1, nq2, nq3, nq4, iq0, iq1, iq2, iq3, iq4, iq5, iq6, iq7, iq8]))))
        refine (dSum_ok hw0 (by omega)).at_ h7 [] _ rfl fun r B H8 hr h8 => ?_
        obtain ⟨rfl, rfl⟩ := hr
        ((try simp only [S, TY, reduceCtorEq, nq0, nq1, nq2, nq3, nq4, iq0, iq1, iq2, iq3, iq4, iq5, iq6, iq7, iq8]); (try (simp (disch := omega) only [W2, Int.cast_ofNat_Int]; (try simp only [S, TY, reduceCtorEq, nq0, nq1, nq2, nq3, nq4, iq0, iq1, iq2, iq3, iq4, iq5, iq6, iq7, iq8]))))
        exact fin_take (B := []) h8 ⟨rfl, rfl⟩
      · rw [if_neg hg] at hr
        obtain ⟨rfl, rfl⟩ := hr
        ((try simp only [S, TY, reduceCtorEq, nq0, nq1, nq2, nq3, nq4, iq0, iq1, iq2, iq3, iq4, iq5, iq6, iq7, iq8]); (try (simp (disch := omega) only [W2, Int.cast_ofNat_Int]; (try simp only [S, TY, reduceCtorEq, nq0, nq1, nq2, nq3, nq4, iq0, iq1, iq2, iq3, iq4, iq5, iq6, iq7, iq8]))))
        refine (dEncode_ok hw0 (by omega)).at_ h4 [] _ rfl fun r B H5 hr h5 => ?_
        unfold EncR at hr
        rw [if_neg hg] at hr
        obtain ⟨rfl, rfl⟩ := hr
        ((try simp only [S, TY, reduceCtorEq, nq0, nq1, nq2, nq3, nq4, iq0, iq1, iq2, iq3, iq4, iq5, iq6, iq7, iq8]); (try (simp (disch := omega) only [W2, Int.cast_ofNat_Int]; (try simp only [S, TY, reduceCtorEq, nq0, nq1, nq2, nq3, nq4, iq0, iq1, iq2, iq3, iq4, iq5, iq6, iq7, iq8]))))
        refine alive.at_ h5 [] _ rfl fun r B H6 hr h6 => ?_
        obtain ⟨rfl, rfl⟩ := hr
        have s0 := rStr_of (P := Try.prog) (nil8 (R := H6.un G))
        ((try simp only [S, TY, reduceCtorEq, nq0, nq1, nq2, nq3, nq4, iq0, iq1, iq2, iq3, iq4, iq5, iq6, iq7, iq8, s0]); (try (simp (disch := omega) only [W2, Int.cast_ofNat_Int]; (try simp only [S, TY, reduceCtorEq, nq0, nq1, nq2, nq3, nq4, iq0, iq1, iq2, iq3, iq4, iq5, iq6, iq7, iq8, s0]))))
        refine (Sum_ok hw0 (by omega)).at_ h6 [] _ rfl fun r B H7 hr h7 => ?_
        obtain ⟨rfl, rfl⟩ := hr
        ((try simp only [S, TY, reduceCtorEq, nq0, nq1, nq2, nq3, nq4, iq0, iq1, iq2, iq3, iq4, iq5, iq6, iq7, iq8]); (try (simp (disch := omega) only [W2, Int.cast_ofNat_Int]; (try simp only [S, TY, reduceCtorEq, nq0, nq1, nq2, nq3, nq4, iq0, iq1, iq2, iq3, iq4, iq5, iq6, iq7, iq8]))))
        refine (dSum_ok hw0 (by omega)).at_ h7 [] _ rfl fun r B H8 hr h8 => ?_
        obtain ⟨rfl, rfl⟩ := hr
        ((try simp only [S, TY, reduceCtorEq, nq0, nq1, nq2, nq3, nq4, iq0, iq1, iq2, iq3, iq4, iq5, iq6, iq7, iq8]); (try (simp (disch := omega) only [W2, Int.cast_ofNat_Int]; (try simp only [S, TY, reduceCtorEq, nq0, nq1, nq2, nq3, nq4, iq0, iq1, iq2, iq3, iq4, iq5, iq6, iq7, iq8]))))
        exact fin_take (B := []) h8 ⟨rfl, rfl⟩
theorem scansV {G : Hp} {v0 v1 : Value} {y0 y1 : Ty.bytes.den} (h0 : Ty.V G .bytes v0 y0) (h1 : Ty.V G .bytes v1 y1) :
    Con Try.prog G 9 [v0, v1] [] (fun r B => r = .bool true ∧ B = []) := by
  rcases h0 with ⟨h, _⟩ | ⟨_, h0⟩
  · cases h
  rcases h1 with ⟨h, _⟩ | ⟨_, h1⟩
  · cases h
  obtain ⟨u, h0, hu⟩ := h0
  obtain ⟨w, h1, hw⟩ := h1
  cases h0
  cases h1
  exact scansLaw hu hw
end Go.Proofs.Ytfjmejideoklpaa.JnA
