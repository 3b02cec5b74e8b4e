/- Journals: the laws' live question. -/
import Derived.Test.YtfjmejideoklpaaJnO
set_option linter.unusedVariables false
set_option linter.unusedSimpArgs false
set_option maxRecDepth 10000
set_option maxHeartbeats 1000000
namespace Go.Proofs.Ytfjmejideoklpaa.JnL
open Nat renaming reduceEqDiff → nq0, reduceAdd → nq1, reduceLeDiff → nq2, reduceBEq → nq3, reduceMul → nq4
open Int renaming reduceBEq → iq0, reduceEq → iq1, reduceLT → iq2, reduceLE → iq3, reduceAdd → iq4, reduceSub → iq5, reduceMul → iq6, reduceToNat → iq7, cast_ofNat_Int → iq8
open Go Go.Sl Go.Proofs Go.Proofs.Ytfjmejideoklpaa.Disk Go.Proofs.Ytfjmejideoklpaa.DiskR Go.Proofs.Ytfjmejideoklpaa.Jn Go.Proofs.Ytfjmejideoklpaa.JnP Go.Proofs.Ytfjmejideoklpaa.JnS Go.Proofs.Ytfjmejideoklpaa.JnE Go.Proofs.Ytfjmejideoklpaa.JnT Go.Proofs.Ytfjmejideoklpaa.JnM Go.Proofs.Ytfjmejideoklpaa.JnO
theorem TY : aggN Try.prog 3 = some none ∧
  aggN Try.prog 5 = some none ∧
  aggN Try.prog 9 = some none ∧
  aggN Try.prog 33 = some none ∧
  aggN Try.prog 34 = some none ∧
  aggN Try.prog 86 = some none ∧
  aggN Try.prog 89 = some none ∧
  aggN Try.prog 90 = some none ∧
  apI Try.prog 33 = some (5, 1, 1) ∧
  apI Try.prog 90 = some (33, 1, 24) ∧
  bySl Try.prog 33 = true ∧
  csz Try.prog 3 = some 1 ∧
  csz Try.prog 5 = some 1 ∧
  csz Try.prog 9 = some 1 ∧
  csz Try.prog 33 = some 1 ∧
  csz Try.prog 34 = some 1 ∧
  csz Try.prog 86 = some 1 ∧
  csz Try.prog 89 = some 1 ∧
  csz Try.prog 90 = some 1 ∧
  goes Try.prog 48 = true ∧
  goes Try.prog 49 = true ∧
  goes Try.prog 51 = true ∧
  goes Try.prog 53 = true ∧
  goes Try.prog 56 = true ∧
  goes Try.prog 58 = true ∧
  goes Try.prog 60 = true ∧
  goes Try.prog 65 = true ∧
  inIs Try.prog 3 = some .i64 ∧
  inIs Try.prog 5 = some .u8 ∧
  inIs Try.prog 34 = some .i64 ∧
  ptIs Try.prog 86 = true ∧
  ptIs Try.prog 89 = true ∧
  slEl Try.prog 33 = 5 ∧
  slEl Try.prog 90 = 33 ∧
  slIs Try.prog 33 = true ∧
  slIs Try.prog 90 = true ∧
  slSz Try.prog 33 = 1 ∧
  slSz Try.prog 90 = 1 ∧
  stIs Try.prog 9 = true ∧
  zro Try.prog 3 = some (.int .i64 0) ∧
  zro Try.prog 5 = some (.int .u8 0) ∧
  zro Try.prog 9 = some (.string ByteArray.empty) ∧
  zro Try.prog 33 = some (.slice none 0 0) ∧
  zro Try.prog 34 = some (.int .i64 0) ∧
  zro Try.prog 86 = some (.pointer none) ∧
  zro Try.prog 89 = some (.pointer none) ∧
  zro Try.prog 90 = some (.slice none 0 0) :=
  ⟨by kernel_rfl, by kernel_rfl, by kernel_rfl, by kernel_rfl, by kernel_rfl, by kernel_rfl, by kernel_rfl, by kernel_rfl, by kernel_rfl, by kernel_rfl, by kernel_rfl, by kernel_rfl, by kernel_rfl, by kernel_rfl, by kernel_rfl, by kernel_rfl, by kernel_rfl, by kernel_rfl, by kernel_rfl, by kernel_rfl, by kernel_rfl, by kernel_rfl, by kernel_rfl, by kernel_rfl, by kernel_rfl, by kernel_rfl, by kernel_rfl, by kernel_rfl, by kernel_rfl, by kernel_rfl, by kernel_rfl, by kernel_rfl, by kernel_rfl, by kernel_rfl, by kernel_rfl, by kernel_rfl, by kernel_rfl, by kernel_rfl, by kernel_rfl, by kernel_rfl, by kernel_rfl, by kernel_rfl, by kernel_rfl, by kernel_rfl, by kernel_rfl, by kernel_rfl, by kernel_rfl⟩
abbrev s9 : List UInt8 := [49, 50, 51, 52, 53, 54, 55, 56, 57]
abbrev sab : List UInt8 := [97, 98]
theorem sum9 : sum s9 = 3421780262 := by kernel_rfl
theorem cut_no {b : List UInt8} (hb : good b) {n : Nat} (h : n < (rcd b).length) : ∀ c t, good c → (rcd b).take n ≠ rcd c ++ t := by
  intro c t hc q
  have e : rcd b ++ [] = rcd c ++ (t ++ (rcd b).drop n) := by rw [List.append_nil, ← List.append_assoc, ← q, List.take_append_drop]
  have e2 := congrArg List.length (rcd_inj hb hc e).2
  rw [List.length_nil, List.length_append, List.length_drop] at e2
  omega
theorem g9 : good s9 := by unfold good; decide
theorem gab : good sab := by unfold good; decide
theorem l9 : (rcd s9).length = 15 := by rw [rcd_len]; rfl
theorem lab : (rcd sab).length = 8 := by rw [rcd_len]; rfl
theorem p1 : putM ⟨[], [], 99⟩ 0 s9 = (⟨[], rcd s9, 99⟩, 1, 0) := by
  have e : F.add ⟨[], [], 99⟩ (rcd s9) = (⟨[], rcd s9, 99⟩, 0) := by unfold F.add; rw [if_pos (by rw [l9]; decide)]; rfl
  unfold putM
  rw [if_pos g9, e]; rfl
theorem p2 : putM ⟨rcd s9, [], 99⟩ 1 sab = (⟨rcd s9, rcd sab, 99⟩, 2, 0) := by
  have e : F.add ⟨rcd s9, [], 99⟩ (rcd sab) = (⟨rcd s9, rcd sab, 99⟩, 0) := by unfold F.add; rw [if_pos (by simp only [l9, lab]; decide)]; rfl
  unfold putM
  rw [if_pos gab, e]; rfl
theorem c1 : F.crash ⟨rcd s9, rcd sab, 99⟩ 7 = (⟨rcd s9 ++ (rcd sab).take 7, [], 99⟩, 1) := by
  unfold F.crash
  simp only [lab]; rfl
theorem sc : Scans (rcd s9 ++ (rcd sab).take 7 ++ []) [s9] ((rcd sab).take 7) := by
  refine ⟨by simp, ?_, cut_no gab (by rw [lab]; decide)⟩
  intro b hb
  rw [List.mem_singleton] at hb
  subst hb; exact g9
theorem ok1 : F.ok ⟨[], [], 99⟩ := ⟨by decide, by decide⟩
theorem ok2 : F.ok ⟨[], rcd s9, 99⟩ := ⟨by decide, by simp only [l9]; decide⟩
theorem ok3 : F.ok ⟨rcd s9, [], 99⟩ := ⟨by decide, by simp only [l9]; decide⟩
theorem ok4 : F.ok ⟨rcd s9, rcd sab, 99⟩ := ⟨by decide, by simp only [l9, lab]; decide⟩
theorem ok5 : F.ok ⟨rcd s9 ++ (rcd sab).take 7, [], 99⟩ := ⟨by decide, by simp only [List.length_append, List.length_take, l9, lab]; decide⟩
theorem fo : (fopen ⟨rcd s9 ++ (rcd sab).take 7, [], 99⟩ 15).safe.length = 15 := by
  unfold fopen
  rw [if_pos (by simp only [List.length_append, List.length_take, l9, lab]; decide)]
  simp only [List.length_append, List.length_take, l9, lab]; decide
theorem alive {G : Hp} : Con Try.prog G 47 [] [] (fun v B => v = .bool true ∧ B = []) := by
  refine Con.intro Try.func47 rfl (Nat.le_of_ble_eq_true (by kernel_rfl)) (by kernel_rfl) Try.results47 ?_
  intro H h
  ((try simp only [S, TY, reduceCtorEq, nq0, nq1, nq2, nq3, nq4, iq0, iq1, iq2, iq3, iq4, iq5, iq6, iq7, iq8]); (try (simp (disch := omega) only [W2, Int.cast_ofNat_Int]; (try simp only [S, TY, reduceCtorEq, nq0, nq1, nq2, nq3, nq4, iq0, iq1, iq2, iq3, iq4, iq5, iq6, iq7, iq8]))))
  refine (new_ok 99 (by omega) (by omega)).at_ h [] [] rfl fun v B H1 hv h1 => ?_
  obtain ⟨q, rfl, rfl⟩ := hv
  ((try simp only [S, TY, reduceCtorEq, nq0, nq1, nq2, nq3, nq4, iq0, iq1, iq2, iq3, iq4, iq5, iq6, iq7, iq8]); (try (simp (disch := omega) only [W2, Int.cast_ofNat_Int]; (try simp only [S, TY, reduceCtorEq, nq0, nq1, nq2, nq3, nq4, iq0, iq1, iq2, iq3, iq4, iq5, iq6, iq7, iq8]))))
  refine (Open_ok (f := ⟨[], [], 99⟩) ok1 (by decide)).at_ h1 [0] _ rfl fun r B H2 hr h2 => ?_
  obtain ⟨p, bs, rest, vs, u, hsc, rfl, rfl⟩ := hr
  obtain ⟨rfl, rfl⟩ := Scans.uniq Scans.nil hsc
  obtain ⟨ua, un, uc, rfl, y1, y2⟩ := h2.sl 1 rfl Rd_own
  have vl := (h2.front 2).blobs.len
  rw [Nat.mul_one, vl] at y1
  subst y1
  rw [show fopen ⟨[], [], 99⟩ ((([] : List (List UInt8)).flatMap rcd).length) = ⟨[], [], 99⟩ from rfl, show ([] : List (List UInt8)).length = 0 from rfl] at h2
  ((try simp only [S, TY, reduceCtorEq, nq0, nq1, nq2, nq3, nq4, iq0, iq1, iq2, iq3, iq4, iq5, iq6, iq7, iq8]); (try (simp (disch := omega) only [W2, Int.cast_ofNat_Int]; (try simp only [S, TY, reduceCtorEq, nq0, nq1, nq2, nq3, nq4, iq0, iq1, iq2, iq3, iq4, iq5, iq6, iq7, iq8]))))
  intro b hb hg
  have h3 := h2.newsl (e := 5) (sz := 1) (n := 9) (xs := bv s9) hb hg rfl
  ((try simp only [S, TY, reduceCtorEq, nq0, nq1, nq2, nq3, nq4, iq0, iq1, iq2, iq3, iq4, iq5, iq6, iq7, iq8]); (try (simp (disch := omega) only [W2, Int.cast_ofNat_Int]; (try simp only [S, TY, reduceCtorEq, nq0, nq1, nq2, nq3, nq4, iq0, iq1, iq2, iq3, iq4, iq5, iq6, iq7, iq8]))))
  refine conv_mark (show apI Try.prog 33 = some (5, 1, 1) from by kernel_rfl) (show inIs Try.prog 5 = some .u8 from by kernel_rfl) h3 (fun HM hM => ?_)
  replace h3 := hM
  clear hM
  ((try simp only [S, TY, reduceCtorEq, nq0, nq1, nq2, nq3, nq4, iq0, iq1, iq2, iq3, iq4, iq5, iq6, iq7, iq8]); (try (simp (disch := omega) only [W2, Int.cast_ofNat_Int]; (try simp only [S, TY, reduceCtorEq, nq0, nq1, nq2, nq3, nq4, iq0, iq1, iq2, iq3, iq4, iq5, iq6, iq7, iq8]))))
  refine Con.lend_at [jP p q 0, isF q ⟨[], [], 99⟩] [own 5 1 _ _] h3 [1, 3, 0] rfl (fun F hF hs => Put_ok (n := 0) (b := s9) ok1 (by decide) (seps_own hs 0 rfl).left (by decide)) fun r B H4 hr h4 => ?_
  rw [p1] at hr
  obtain ⟨rfl, rfl⟩ := hr
  ((try simp only [S, TY, reduceCtorEq, nq0, nq1, nq2, nq3, nq4, iq0, iq1, iq2, iq3, iq4, iq5, iq6, iq7, iq8]); (try (simp (disch := omega) only [W2, Int.cast_ofNat_Int]; (try simp only [S, TY, reduceCtorEq, nq0, nq1, nq2, nq3, nq4, iq0, iq1, iq2, iq3, iq4, iq5, iq6, iq7, iq8]))))
  refine (Sync_ok (n := 1) ok2).at_ h4 [0, 0] _ rfl fun r B H5 hr h5 => ?_
  subst hr
  rw [show F.sync ⟨[], rcd s9, 99⟩ = ⟨rcd s9, [], 99⟩ from rfl] at h5
  ((try simp only [S, TY, reduceCtorEq, nq0, nq1, nq2, nq3, nq4, iq0, iq1, iq2, iq3, iq4, iq5, iq6, iq7, iq8]); (try (simp (disch := omega) only [W2, Int.cast_ofNat_Int]; (try simp only [S, TY, reduceCtorEq, nq0, nq1, nq2, nq3, nq4, iq0, iq1, iq2, iq3, iq4, iq5, iq6, iq7, iq8]))))
  intro b2 hb2 hg2
  have h6 := h5.newsl (e := 5) (sz := 1) (n := 2) (xs := bv sab) hb2 hg2 rfl
  ((try simp only [S, TY, reduceCtorEq, nq0, nq1, nq2, nq3, nq4, iq0, iq1, iq2, iq3, iq4, iq5, iq6, iq7, iq8]); (try (simp (disch := omega) only [W2, Int.cast_ofNat_Int]; (try simp only [S, TY, reduceCtorEq, nq0, nq1, nq2, nq3, nq4, iq0, iq1, iq2, iq3, iq4, iq5, iq6, iq7, iq8]))))
  refine conv_mark (show apI Try.prog 33 = some (5, 1, 1) from by kernel_rfl) (show inIs Try.prog 5 = some .u8 from by kernel_rfl) h6 (fun HM hM => ?_)
  replace h6 := hM
  clear hM
  ((try simp only [S, TY, reduceCtorEq, nq0, nq1, nq2, nq3, nq4, iq0, iq1, iq2, iq3, iq4, iq5, iq6, iq7, iq8]); (try (simp (disch := omega) only [W2, Int.cast_ofNat_Int]; (try simp only [S, TY, reduceCtorEq, nq0, nq1, nq2, nq3, nq4, iq0, iq1, iq2, iq3, iq4, iq5, iq6, iq7, iq8]))))
  refine Con.lend_at [jP p q 1, isF q ⟨rcd s9, [], 99⟩] [own 5 1 _ _] h6 [1, 1, 0] rfl (fun F hF hs => Put_ok (n := 1) (b := sab) ok3 (by decide) (seps_own hs 0 rfl).left (by decide)) fun r B H7 hr h7 => ?_
  rw [p2] at hr
  obtain ⟨rfl, rfl⟩ := hr
  ((try simp only [S, TY, reduceCtorEq, nq0, nq1, nq2, nq3, nq4, iq0, iq1, iq2, iq3, iq4, iq5, iq6, iq7, iq8]); (try (simp (disch := omega) only [W2, Int.cast_ofNat_Int]; (try simp only [S, TY, reduceCtorEq, nq0, nq1, nq2, nq3, nq4, iq0, iq1, iq2, iq3, iq4, iq5, iq6, iq7, iq8]))))
  refine (crash_ok ok4 7).at_ h7 [1] _ rfl fun r B H8 hr h8 => ?_
  rw [c1] at hr
  obtain ⟨rfl, rfl⟩ := hr
  ((try simp only [S, TY, reduceCtorEq, nq0, nq1, nq2, nq3, nq4, iq0, iq1, iq2, iq3, iq4, iq5, iq6, iq7, iq8]); (try (simp (disch := omega) only [W2, Int.cast_ofNat_Int]; (try simp only [S, TY, reduceCtorEq, nq0, nq1, nq2, nq3, nq4, iq0, iq1, iq2, iq3, iq4, iq5, iq6, iq7, iq8]))))
  refine (Open_ok ok5 (by decide)).at_ h8 [0] _ rfl fun r B H9 hr h9 => ?_
  obtain ⟨p9, bs, rest, vs, u9, hsc, rfl, rfl⟩ := hr
  obtain ⟨rfl, rfl⟩ := Scans.uniq sc hsc
  have hfl : (([s9] : List (List UInt8)).flatMap rcd).length = 15 := by simp [l9]
  rw [hfl] at h9
  have bl := (h9.front 2).blobs
  have vl9 := bl.len
  obtain ⟨w, rfl⟩ : ∃ w, vs = [w] := by
    match vs, vl9 with
    | [w], _ => exact ⟨w, rfl⟩
  obtain ⟨va, vn, vc, rfl, z1, z2⟩ := h9.sl 1 rfl Rd_own
  rw [Nat.mul_one] at z1
  have hw := bl.get 0 (by simp) (by simp)
  simp only [List.getElem_cons_zero] at hw
  obtain ⟨wa, wn, wc, rfl, _, _⟩ := hw.slice
  have s0 := rStr_of (P := Try.prog) hw
  subst z1
  obtain ⟨wb, woff, rfl, cw⟩ := (h9.rdsi 1 rfl Rd_own).at1 (i := 0) (by simp)
  simp only [Nat.add_zero, List.getElem?_cons_zero] at cw
  ((try simp only [S, TY, reduceCtorEq, nq0, nq1, nq2, nq3, nq4, iq0, iq1, iq2, iq3, iq4, iq5, iq6, iq7, iq8]); (try (simp (disch := omega) only [W2, Int.cast_ofNat_Int]; (try simp only [S, TY, reduceCtorEq, nq0, nq1, nq2, nq3, nq4, iq0, iq1, iq2, iq3, iq4, iq5, iq6, iq7, iq8]))))
  intro b4 hb4 hg4
  have h10 := h9.newsl (e := 5) (sz := 1) (n := 9) (xs := bv s9) hb4 hg4 rfl
  ((try simp only [S, TY, reduceCtorEq, nq0, nq1, nq2, nq3, nq4, iq0, iq1, iq2, iq3, iq4, iq5, iq6, iq7, iq8]); (try (simp (disch := omega) only [W2, Int.cast_ofNat_Int]; (try simp only [S, TY, reduceCtorEq, nq0, nq1, nq2, nq3, nq4, iq0, iq1, iq2, iq3, iq4, iq5, iq6, iq7, iq8]))))
  refine conv_mark (show apI Try.prog 33 = some (5, 1, 1) from by kernel_rfl) (show inIs Try.prog 5 = some .u8 from by kernel_rfl) h10 (fun HM hM => ?_)
  replace h10 := hM
  clear hM
  ((try simp only [S, TY, reduceCtorEq, nq0, nq1, nq2, nq3, nq4, iq0, iq1, iq2, iq3, iq4, iq5, iq6, iq7, iq8]); (try (simp (disch := omega) only [W2, Int.cast_ofNat_Int]; (try simp only [S, TY, reduceCtorEq, nq0, nq1, nq2, nq3, nq4, iq0, iq1, iq2, iq3, iq4, iq5, iq6, iq7, iq8]))))
  refine Con.lend_at [] [own 5 1 _ _] h10 [0] rfl (fun F hF hs => Sum_ok (l := s9) (seps_own hs 0 rfl).left (by decide)) fun r B H11 hr h11 => ?_
  obtain ⟨rfl, rfl⟩ := hr
  rw [sum9]
  have l1 : [s9].length = 1 := rfl
  have l2 : [Value.slice wa wn wc].length = 1 := rfl
  rw [l1, l2] at h11
  simp only [front_eq, fronts_nil, fronts_cons, List.getElem?_cons_zero, List.getElem?_cons_succ, List.eraseIdx_cons_zero, List.eraseIdx_cons_succ, List.cons_append, List.nil_append, putL_cons, putL_nil, List.set_cons_zero, List.set_cons_succ, Nat.reduceAdd] at h11
  have hw2 := (h11.front 3).blobs.get 0 (by simp) (by simp)
  simp only [List.getElem_cons_zero] at hw2
  have s2 := rStr_of (P := Try.prog) hw2
  obtain ⟨wb', woff', hwb, cw2⟩ := (h11.rdsi 2 rfl Rd_own).at1 (i := 0) (by simp)
  cases hwb
  simp only [Nat.add_zero, List.getElem?_cons_zero] at cw2
  have l0 : ([] : List (List UInt8)).length = 0 := rfl
  have n0 : ((0 : Nat) : Int) = 0 := rfl
  have n1 : ((1 : Nat) : Int) = 1 := rfl
  ((try simp only [S, TY, reduceCtorEq, nq0, nq1, nq2, nq3, nq4, iq0, iq1, iq2, iq3, iq4, iq5, iq6, iq7, iq8, s2, cw2, l2, l0, n0, n1]); (try (simp (disch := omega) only [W2, Int.cast_ofNat_Int]; (try simp only [S, TY, reduceCtorEq, nq0, nq1, nq2, nq3, nq4, iq0, iq1, iq2, iq3, iq4, iq5, iq6, iq7, iq8, s2, cw2, l2, l0, n0, n1]))))
  refine Len_ok.at_ h11 [1] _ rfl fun r B H12 hr h12 => ?_
  obtain ⟨rfl, rfl⟩ := hr
  ((try simp only [S, TY, reduceCtorEq, nq0, nq1, nq2, nq3, nq4, iq0, iq1, iq2, iq3, iq4, iq5, iq6, iq7, iq8]); (try (simp (disch := omega) only [W2, Int.cast_ofNat_Int]; (try simp only [S, TY, reduceCtorEq, nq0, nq1, nq2, nq3, nq4, iq0, iq1, iq2, iq3, iq4, iq5, iq6, iq7, iq8]))))
  refine safe_ok.at_ h12 [4] _ rfl fun r B H13 hr h13 => ?_
  obtain ⟨rfl, rfl⟩ := hr
  rw [fo]
  ((try simp only [S, TY, reduceCtorEq, nq0, nq1, nq2, nq3, nq4, iq0, iq1, iq2, iq3, iq4, iq5, iq6, iq7, iq8]); (try (simp (disch := omega) only [W2, Int.cast_ofNat_Int]; (try simp only [S, TY, reduceCtorEq, nq0, nq1, nq2, nq3, nq4, iq0, iq1, iq2, iq3, iq4, iq5, iq6, iq7, iq8]))))
  exact fin_take (B := []) h13 ⟨rfl, rfl⟩
end Go.Proofs.Ytfjmejideoklpaa.JnL
