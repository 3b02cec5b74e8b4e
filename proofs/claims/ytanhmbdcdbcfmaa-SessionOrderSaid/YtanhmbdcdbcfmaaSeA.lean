/- Sessions: the laws' live question. -/
import Derived.Test.YtanhmbdcdbcfmaaSeW
set_option linter.unusedVariables false
set_option linter.unusedSimpArgs false
set_option maxRecDepth 10000
set_option maxHeartbeats 4000000
namespace Go.Proofs.Ytanhmbdcdbcfmaa.SeA
open Nat renaming reduceEqDiff → nq0, reduceAdd → nq1, reduceLeDiff → nq2, reduceBEq → nq3, reduceMul → nq4
open Int renaming reduceBEq → iq0, reduceEq → iq1, reduceLT → iq2, reduceLE → iq3, reduceAdd → iq4, reduceSub → iq5, reduceMul → iq6, reduceToNat → iq7, cast_ofNat_Int → iq8
open Go Go.Sl Go.Proofs Go.Proofs.Ytanhmbdcdbcfmaa.Buf Go.Proofs.Ytanhmbdcdbcfmaa.BufRd Go.Proofs.Ytanhmbdcdbcfmaa.BufRe Go.Proofs.Ytanhmbdcdbcfmaa.BufP Go.Proofs.Ytanhmbdcdbcfmaa.SeP Go.Proofs.Ytanhmbdcdbcfmaa.Se Go.Proofs.Ytanhmbdcdbcfmaa.SeS Go.Proofs.Ytanhmbdcdbcfmaa.SeT Go.Proofs.Ytanhmbdcdbcfmaa.SeW
theorem TY : aggN Try.prog 3 = some none ∧
  aggN Try.prog 4 = some none ∧
  aggN Try.prog 5 = some none ∧
  aggN Try.prog 9 = some none ∧
  aggN Try.prog 24 = some none ∧
  aggN Try.prog 30 = some none ∧
  aggN Try.prog 62 = some (some 5) ∧
  aggN Try.prog 78 = some none ∧
  aggN Try.prog 91 = some (some 3) ∧
  aggN Try.prog 95 = some none ∧
  apI Try.prog 24 = some (5, 1, 1) ∧
  apI Try.prog 95 = some (62, 5, 56) ∧
  bIs Try.prog 62 = true ∧
  bIs Try.prog 91 = true ∧
  boIs Try.prog 4 = true ∧
  bySl Try.prog 24 = true ∧
  csz Try.prog 3 = some 1 ∧
  csz Try.prog 4 = some 1 ∧
  csz Try.prog 5 = some 1 ∧
  csz Try.prog 9 = some 1 ∧
  csz Try.prog 24 = some 1 ∧
  csz Try.prog 30 = some 1 ∧
  csz Try.prog 62 = some 5 ∧
  csz Try.prog 78 = some 1 ∧
  csz Try.prog 91 = some 3 ∧
  csz Try.prog 95 = some 1 ∧
  fIs Try.prog 62 3 = true ∧
  fIs Try.prog 91 0 = true ∧
  fIs Try.prog 91 1 = true ∧
  fIs Try.prog 91 2 = true ∧
  fOff Try.prog 62 3 = 3 ∧
  fOff Try.prog 91 0 = 0 ∧
  fOff Try.prog 91 1 = 1 ∧
  fOff Try.prog 91 2 = 2 ∧
  fTy Try.prog 62 3 = 3 ∧
  fTy Try.prog 91 0 = 24 ∧
  fTy Try.prog 91 1 = 4 ∧
  fTy Try.prog 91 2 = 4 ∧
  goes Try.prog 38 = true ∧
  goes Try.prog 41 = true ∧
  goes Try.prog 42 = true ∧
  goes Try.prog 43 = true ∧
  goes Try.prog 44 = true ∧
  goes Try.prog 45 = true ∧
  inIs Try.prog 3 = some .i64 ∧
  inIs Try.prog 5 = some .u8 ∧
  inIs Try.prog 30 = some .i64 ∧
  plcs Try.prog 62 = [(0, 1), (1, 1), (2, 1), (3, 1), (4, 1)] ∧
  plcs Try.prog 91 = [(0, 1), (1, 1), (2, 1)] ∧
  ptIs Try.prog 78 = true ∧
  slEl Try.prog 24 = 5 ∧
  slEl Try.prog 95 = 62 ∧
  slIs Try.prog 24 = true ∧
  slIs Try.prog 95 = true ∧
  slSz Try.prog 24 = 1 ∧
  slSz Try.prog 95 = 5 ∧
  stIs Try.prog 9 = true ∧
  zcs Try.prog 62 = [.int .i64 0, .int .i64 0, .int .i64 0, .int .i64 0, .slice none 0 0] ∧
  zcs Try.prog 91 = [.slice none 0 0, .bool false, .bool false] ∧
  zro Try.prog 3 = some (.int .i64 0) ∧
  zro Try.prog 4 = some (.bool false) ∧
  zro Try.prog 5 = some (.int .u8 0) ∧
  zro Try.prog 9 = some (.string ByteArray.empty) ∧
  zro Try.prog 24 = some (.slice none 0 0) ∧
  zro Try.prog 30 = some (.int .i64 0) ∧
  zro Try.prog 62 = some (.agg #[.int .i64 0, .int .i64 0, .int .i64 0, .int .i64 0, .slice none 0 0]) ∧
  zro Try.prog 78 = some (.pointer none) ∧
  zro Try.prog 91 = some (.agg #[.slice none 0 0, .bool false, .bool false]) ∧
  zro Try.prog 95 = some (.slice none 0 0) :=
  ⟨by kernel_rfl, by kernel_rfl, by kernel_rfl, by kernel_rfl, by kernel_rfl, by kernel_rfl, by kernel_rfl, by kernel_rfl, by kernel_rfl, by kernel_rfl, by kernel_rfl, by kernel_rfl, by kernel_rfl, by kernel_rfl, by kernel_rfl, by kernel_rfl, by kernel_rfl, by kernel_rfl, by kernel_rfl, by kernel_rfl, by kernel_rfl, by kernel_rfl, by kernel_rfl, by kernel_rfl, by kernel_rfl, by kernel_rfl, by kernel_rfl, by kernel_rfl, by kernel_rfl, by kernel_rfl, by kernel_rfl, by kernel_rfl, by kernel_rfl, by kernel_rfl, by kernel_rfl, by kernel_rfl, by kernel_rfl, by kernel_rfl, by kernel_rfl, by kernel_rfl, by kernel_rfl, by kernel_rfl, by kernel_rfl, by kernel_rfl, by kernel_rfl, by kernel_rfl, by kernel_rfl, by kernel_rfl, by kernel_rfl, by kernel_rfl, by kernel_rfl, by kernel_rfl, by kernel_rfl, by kernel_rfl, by kernel_rfl, by kernel_rfl, by kernel_rfl, by kernel_rfl, by kernel_rfl, by kernel_rfl, by kernel_rfl, by kernel_rfl, by kernel_rfl, by kernel_rfl, by kernel_rfl, by kernel_rfl, by kernel_rfl, by kernel_rfl, by kernel_rfl⟩
theorem map_one {zl : List (Lt × Value)} {x : Lt} (h : zl.map (·.1) = [x]) : ∃ u, zl = [(x, u)] := by
  match zl, h with
  | [(y, u)], h =>
    simp only [List.map_cons, List.map_nil, List.cons.injEq, and_true] at h
    exact ⟨u, by rw [h]⟩
abbrev A0 : Ses := ⟨5, 0, 1, 0, []⟩
abbrev B0 : Ses := ⟨7, 0, 1, 0, []⟩
abbrev B1 : Ses := ⟨7, 5, 1, 0, []⟩
abbrev A1 : Ses := ⟨5, 7, 1, 0, []⟩
abbrev A2 : Ses := ⟨5, 7, 1, 0, [[104, 105]]⟩
abbrev B2 : Ses := ⟨7, 5, 1, 1, []⟩
theorem o1 : A0.out = [⟨5, 0, 0, 0, []⟩] := rfl
theorem o2 : B1.out = [⟨7, 5, 0, 0, []⟩] := rfl
theorem o3 : A2.out = [⟨5, 7, 0, 1, [104, 105]⟩] := rfl
theorem t1 : B0.take ⟨5, 0, 0, 0, []⟩ = (B1, ⟨[], false, true⟩, 0) := rfl
theorem t2 : A0.take ⟨7, 5, 0, 0, []⟩ = (A1, ⟨[], false, true⟩, 0) := rfl
theorem p1 : A1.push [104, 105] = (A2, 0) := rfl
theorem t3 : B1.take ⟨5, 7, 0, 1, [104, 105]⟩ = (B2, ⟨[104, 105], true, false⟩, 0) := rfl
theorem t4 : B2.take ⟨5, 7, 0, 1, [104, 105]⟩ = (B2, ⟨[], false, false⟩, 0) := rfl
theorem wa0 : A0.wf := Ses.wf_new (m := 5) (by omega)
theorem wb0 : B0.wf := Ses.wf_new (m := 7) (by omega)
theorem wb1 : B1.wf := by have := Ses.wf_take wb0 ⟨5, 0, 0, 0, []⟩; rw [t1] at this; exact this
theorem wa1 : A1.wf := by have := Ses.wf_take wa0 ⟨7, 5, 0, 0, []⟩; rw [t2] at this; exact this
theorem wa2 : A2.wf := by have := Ses.wf_push wa1 [104, 105]; rw [p1] at this; exact this
theorem wb2 : B2.wf := by have := Ses.wf_take wb1 ⟨5, 7, 0, 1, [104, 105]⟩; rw [t3] at this; exact this
theorem alive {G : Hp} : Con Try.prog G 29 [] [] (fun r B => r = .bool true ∧ B = []) := by
  refine Con.intro Try.func29 rfl (Nat.le_of_ble_eq_true (by kernel_rfl)) (by kernel_rfl) Try.results29 ?_
  intro H h
  ((try simp only [S, TY, reduceCtorEq, nq0, nq1, nq2, nq3, nq4, iq0, iq1, iq2, iq3, iq4, iq5, iq6, iq7, iq8]); (try (simp (disch := omega) only [W2, Int.cast_ofNat_Int]; (try simp only [S, TY, reduceCtorEq, nq0, nq1, nq2, nq3, nq4, iq0, iq1, iq2, iq3, iq4, iq5, iq6, iq7, iq8]))))
  refine (New_ok 5 (by omega)).at_ h [] _ rfl fun r B H1 hr h1 => ?_
  obtain ⟨a, rfl, rfl⟩ := hr
  ((try simp only [S, TY, reduceCtorEq, nq0, nq1, nq2, nq3, nq4, iq0, iq1, iq2, iq3, iq4, iq5, iq6, iq7, iq8]); (try (simp (disch := omega) only [W2, Int.cast_ofNat_Int]; (try simp only [S, TY, reduceCtorEq, nq0, nq1, nq2, nq3, nq4, iq0, iq1, iq2, iq3, iq4, iq5, iq6, iq7, iq8]))))
  refine (New_ok 7 (by omega)).at_ h1 [] _ rfl fun r B H2 hr h2 => ?_
  obtain ⟨b, rfl, rfl⟩ := hr
  ((try simp only [S, TY, reduceCtorEq, nq0, nq1, nq2, nq3, nq4, iq0, iq1, iq2, iq3, iq4, iq5, iq6, iq7, iq8]); (try (simp (disch := omega) only [W2, Int.cast_ofNat_Int]; (try simp only [S, TY, reduceCtorEq, nq0, nq1, nq2, nq3, nq4, iq0, iq1, iq2, iq3, iq4, iq5, iq6, iq7, iq8]))))
  refine (Out_ok wa0).at_ h2 [1] _ rfl fun r B H3 hr h3 => ?_
  obtain ⟨zl, hz, rfl⟩ := hr
  rw [o1] at hz
  obtain ⟨u, rfl⟩ := map_one hz
  obtain ⟨ra, rn, rc, rfl, e1, _⟩ := h3.sl 0 rfl Rd_own
  rw [flat_len lc_len] at e1
  obtain rfl : 1 = rn := by simp at e1; omega
  simp only [front_eq, fronts_nil, fronts_cons, List.getElem?_cons_zero, List.getElem?_cons_succ, List.eraseIdx_cons_zero, List.eraseIdx_cons_succ, List.cons_append, List.nil_append, putL_cons, putL_nil, List.set_cons_zero, List.set_cons_succ, Nat.reduceAdd] at h3
  obtain ⟨k, off, hl', rfl, hcc, hld⟩ := (h3.rdsi 0 rfl Rd_own).el lc_len (i := 0) (by simp) (by omega)
  simp only [List.getElem_cons_zero, Nat.zero_mul, Nat.add_zero] at hld
  ((try simp only [S, TY, reduceCtorEq, nq0, nq1, nq2, nq3, nq4, iq0, iq1, iq2, iq3, iq4, iq5, iq6, iq7, iq8, hld]); (try (simp (disch := omega) only [W2, Int.cast_ofNat_Int]; (try simp only [S, TY, reduceCtorEq, nq0, nq1, nq2, nq3, nq4, iq0, iq1, iq2, iq3, iq4, iq5, iq6, iq7, iq8, hld]))))
  refine Con.lend_at [sS b B0] [blobs [u] [[]]] h3 [3, 1] rfl (fun F hF hs => Take_ok ⟨5, 0, 0, 0, []⟩ ((seps_blob hs 0 rfl).get 0 (by simp) (by simp)).left wb0) fun r B H4 hr h4 => ?_
  obtain ⟨u1, rfl, rfl⟩ := hr
  rw [t1] at h4 ⊢
  obtain ⟨x4, y4, z4, rfl, _, _⟩ := h4.sl 0 rfl Rd_own
  simp only [front_eq, fronts_nil, fronts_cons, List.getElem?_cons_zero, List.getElem?_cons_succ, List.eraseIdx_cons_zero, List.eraseIdx_cons_succ, List.cons_append, List.nil_append, putL_cons, putL_nil, List.set_cons_zero, List.set_cons_succ, Nat.reduceAdd] at h4
  ((try simp only [S, TY, reduceCtorEq, nq0, nq1, nq2, nq3, nq4, iq0, iq1, iq2, iq3, iq4, iq5, iq6, iq7, iq8, hld]); (try (simp (disch := omega) only [W2, Int.cast_ofNat_Int]; (try simp only [S, TY, reduceCtorEq, nq0, nq1, nq2, nq3, nq4, iq0, iq1, iq2, iq3, iq4, iq5, iq6, iq7, iq8, hld]))))
  intro k5 p5 q5
  have h5 := h4.new p5 q5 (.cells (tkl (.slice none 0 0) false false).toArray 91 (0, 0))
  ((try simp only [S, TY, reduceCtorEq, nq0, nq1, nq2, nq3, nq4, iq0, iq1, iq2, iq3, iq4, iq5, iq6, iq7, iq8]); (try (simp (disch := omega) only [W2, Int.cast_ofNat_Int]; (try simp only [S, TY, reduceCtorEq, nq0, nq1, nq2, nq3, nq4, iq0, iq1, iq2, iq3, iq4, iq5, iq6, iq7, iq8]))))
  refine sg.st h5 rfl rfl fun H6 h6 => ?_
  simp only [front_eq, fronts_nil, fronts_cons, List.getElem?_cons_zero, List.getElem?_cons_succ, List.eraseIdx_cons_zero, List.eraseIdx_cons_succ, List.cons_append, List.nil_append, putL_cons, putL_nil, List.set_cons_zero, List.set_cons_succ, Nat.reduceAdd] at h6
  ((try simp only [S, TY, reduceCtorEq, nq0, nq1, nq2, nq3, nq4, iq0, iq1, iq2, iq3, iq4, iq5, iq6, iq7, iq8]); (try (simp (disch := omega) only [W2, Int.cast_ofNat_Int]; (try simp only [S, TY, reduceCtorEq, nq0, nq1, nq2, nq3, nq4, iq0, iq1, iq2, iq3, iq4, iq5, iq6, iq7, iq8]))))
  refine (Out_ok wb1).at_ h6 [2] _ rfl fun r B H7 hr h7 => ?_
  obtain ⟨zl, hz, rfl⟩ := hr
  rw [o2] at hz
  obtain ⟨u2, rfl⟩ := map_one hz
  obtain ⟨r2, rn, c2, rfl, e1, _⟩ := h7.sl 0 rfl Rd_own
  rw [flat_len lc_len] at e1
  obtain rfl : 1 = rn := by simp at e1; omega
  simp only [front_eq, fronts_nil, fronts_cons, List.getElem?_cons_zero, List.getElem?_cons_succ, List.eraseIdx_cons_zero, List.eraseIdx_cons_succ, List.cons_append, List.nil_append, putL_cons, putL_nil, List.set_cons_zero, List.set_cons_succ, Nat.reduceAdd] at h7
  obtain ⟨b2, o2, hl', rfl, e2, d2⟩ := (h7.rdsi 0 rfl Rd_own).el lc_len (i := 0) (by simp) (by omega)
  simp only [List.getElem_cons_zero, Nat.zero_mul, Nat.add_zero] at d2
  ((try simp only [S, TY, reduceCtorEq, nq0, nq1, nq2, nq3, nq4, iq0, iq1, iq2, iq3, iq4, iq5, iq6, iq7, iq8, d2]); (try (simp (disch := omega) only [W2, Int.cast_ofNat_Int]; (try simp only [S, TY, reduceCtorEq, nq0, nq1, nq2, nq3, nq4, iq0, iq1, iq2, iq3, iq4, iq5, iq6, iq7, iq8, d2]))))
  refine Con.lend_at [sS a A0] [blobs [u2] [[]]] h7 [7, 1] rfl (fun F hF hs => Take_ok ⟨7, 5, 0, 0, []⟩ ((seps_blob hs 0 rfl).get 0 (by simp) (by simp)).left wa0) fun r B H8 hr h8 => ?_
  obtain ⟨u3, rfl, rfl⟩ := hr
  rw [t2] at h8 ⊢
  obtain ⟨x8, y8, z8, rfl, _, _⟩ := h8.sl 0 rfl Rd_own
  simp only [front_eq, fronts_nil, fronts_cons, List.getElem?_cons_zero, List.getElem?_cons_succ, List.eraseIdx_cons_zero, List.eraseIdx_cons_succ, List.cons_append, List.nil_append, putL_cons, putL_nil, List.set_cons_zero, List.set_cons_succ, Nat.reduceAdd] at h8
  ((try simp only [S, TY, reduceCtorEq, nq0, nq1, nq2, nq3, nq4, iq0, iq1, iq2, iq3, iq4, iq5, iq6, iq7, iq8, d2]); (try (simp (disch := omega) only [W2, Int.cast_ofNat_Int]; (try simp only [S, TY, reduceCtorEq, nq0, nq1, nq2, nq3, nq4, iq0, iq1, iq2, iq3, iq4, iq5, iq6, iq7, iq8, d2]))))
  intro k9 p9 q9
  have h9 := h8.new p9 q9 (.cells (tkl (.slice none 0 0) false false).toArray 91 (0, 0))
  ((try simp only [S, TY, reduceCtorEq, nq0, nq1, nq2, nq3, nq4, iq0, iq1, iq2, iq3, iq4, iq5, iq6, iq7, iq8]); (try (simp (disch := omega) only [W2, Int.cast_ofNat_Int]; (try simp only [S, TY, reduceCtorEq, nq0, nq1, nq2, nq3, nq4, iq0, iq1, iq2, iq3, iq4, iq5, iq6, iq7, iq8]))))
  refine sg.st h9 rfl rfl fun H10 h10 => ?_
  simp only [front_eq, fronts_nil, fronts_cons, List.getElem?_cons_zero, List.getElem?_cons_succ, List.eraseIdx_cons_zero, List.eraseIdx_cons_succ, List.cons_append, List.nil_append, putL_cons, putL_nil, List.set_cons_zero, List.set_cons_succ, Nat.reduceAdd] at h10
  ((try simp only [S, TY, reduceCtorEq, nq0, nq1, nq2, nq3, nq4, iq0, iq1, iq2, iq3, iq4, iq5, iq6, iq7, iq8]); (try (simp (disch := omega) only [W2, Int.cast_ofNat_Int]; (try simp only [S, TY, reduceCtorEq, nq0, nq1, nq2, nq3, nq4, iq0, iq1, iq2, iq3, iq4, iq5, iq6, iq7, iq8]))))
  intro k11 hk11 hg11
  have h11 := h10.newsl (e := 5) (sz := 1) (n := 2) (xs := bv [104, 105]) hk11 hg11 rfl
  ((try simp only [S, TY, reduceCtorEq, nq0, nq1, nq2, nq3, nq4, iq0, iq1, iq2, iq3, iq4, iq5, iq6, iq7, iq8]); (try (simp (disch := omega) only [W2, Int.cast_ofNat_Int]; (try simp only [S, TY, reduceCtorEq, nq0, nq1, nq2, nq3, nq4, iq0, iq1, iq2, iq3, iq4, iq5, iq6, iq7, iq8]))))
  refine conv_mark (show apI Try.prog 24 = some (5, 1, 1) from by kernel_rfl) (show inIs Try.prog 5 = some .u8 from by kernel_rfl) h11 (fun HM hM => ?_)
  clear h11
  have h11 := hM
  ((try simp only [S, TY, reduceCtorEq, nq0, nq1, nq2, nq3, nq4, iq0, iq1, iq2, iq3, iq4, iq5, iq6, iq7, iq8]); (try (simp (disch := omega) only [W2, Int.cast_ofNat_Int]; (try simp only [S, TY, reduceCtorEq, nq0, nq1, nq2, nq3, nq4, iq0, iq1, iq2, iq3, iq4, iq5, iq6, iq7, iq8]))))
  refine Con.lend_at [sS a A1] [own 5 1 _ (bv [104, 105])] h11 [3, 0] rfl (fun F hF hs => Push_ok (seps_own hs 0 rfl).left (by simp)) fun r B H12 hr h12 => ?_
  obtain ⟨rfl, rfl⟩ := hr
  rw [p1] at h12 ⊢
  ((try simp only [S, TY, reduceCtorEq, nq0, nq1, nq2, nq3, nq4, iq0, iq1, iq2, iq3, iq4, iq5, iq6, iq7, iq8]); (try (simp (disch := omega) only [W2, Int.cast_ofNat_Int]; (try simp only [S, TY, reduceCtorEq, nq0, nq1, nq2, nq3, nq4, iq0, iq1, iq2, iq3, iq4, iq5, iq6, iq7, iq8]))))
  ((try simp only [S, TY, reduceCtorEq, nq0, nq1, nq2, nq3, nq4, iq0, iq1, iq2, iq3, iq4, iq5, iq6, iq7, iq8]); (try (simp (disch := omega) only [W2, Int.cast_ofNat_Int]; (try simp only [S, TY, reduceCtorEq, nq0, nq1, nq2, nq3, nq4, iq0, iq1, iq2, iq3, iq4, iq5, iq6, iq7, iq8]))))
  refine (Out_ok wa2).at_ h12 [0] _ rfl fun r B H13 hr h13 => ?_
  obtain ⟨zl, hz, rfl⟩ := hr
  rw [o3] at hz
  obtain ⟨u4, rfl⟩ := map_one hz
  obtain ⟨r4, rn, c4, rfl, e1, _⟩ := h13.sl 0 rfl Rd_own
  rw [flat_len lc_len] at e1
  obtain rfl : 1 = rn := by simp at e1; omega
  simp only [front_eq, fronts_nil, fronts_cons, List.getElem?_cons_zero, List.getElem?_cons_succ, List.eraseIdx_cons_zero, List.eraseIdx_cons_succ, List.cons_append, List.nil_append, putL_cons, putL_nil, List.set_cons_zero, List.set_cons_succ, Nat.reduceAdd] at h13
  obtain ⟨b4, o4, hl', rfl, e4, d4⟩ := (h13.rdsi 0 rfl Rd_own).el lc_len (i := 0) (by simp) (by omega)
  simp only [List.getElem_cons_zero, Nat.zero_mul, Nat.add_zero] at d4
  ((try simp only [S, TY, reduceCtorEq, nq0, nq1, nq2, nq3, nq4, iq0, iq1, iq2, iq3, iq4, iq5, iq6, iq7, iq8, d4]); (try (simp (disch := omega) only [W2, Int.cast_ofNat_Int]; (try simp only [S, TY, reduceCtorEq, nq0, nq1, nq2, nq3, nq4, iq0, iq1, iq2, iq3, iq4, iq5, iq6, iq7, iq8, d4]))))
  refine Con.lend_at [sS b B1] [blobs [u4] [[104, 105]]] h13 [8, 1] rfl (fun F hF hs => Take_ok ⟨5, 7, 0, 1, [104, 105]⟩ ((seps_blob hs 0 rfl).get 0 (by simp) (by simp)).left wb1) fun r B H14 hr h14 => ?_
  obtain ⟨u5, rfl, rfl⟩ := hr
  rw [t3] at h14 ⊢
  obtain ⟨x14, y14, z14, rfl, _, _⟩ := h14.sl 0 rfl Rd_own
  simp only [front_eq, fronts_nil, fronts_cons, List.getElem?_cons_zero, List.getElem?_cons_succ, List.eraseIdx_cons_zero, List.eraseIdx_cons_succ, List.cons_append, List.nil_append, putL_cons, putL_nil, List.set_cons_zero, List.set_cons_succ, Nat.reduceAdd] at h14
  ((try simp only [S, TY, reduceCtorEq, nq0, nq1, nq2, nq3, nq4, iq0, iq1, iq2, iq3, iq4, iq5, iq6, iq7, iq8, d4]); (try (simp (disch := omega) only [W2, Int.cast_ofNat_Int]; (try simp only [S, TY, reduceCtorEq, nq0, nq1, nq2, nq3, nq4, iq0, iq1, iq2, iq3, iq4, iq5, iq6, iq7, iq8, d4]))))
  intro k15 p15 q15
  have h15 := h14.new p15 q15 (.cells (tkl (.slice none 0 0) false false).toArray 91 (0, 0))
  ((try simp only [S, TY, reduceCtorEq, nq0, nq1, nq2, nq3, nq4, iq0, iq1, iq2, iq3, iq4, iq5, iq6, iq7, iq8]); (try (simp (disch := omega) only [W2, Int.cast_ofNat_Int]; (try simp only [S, TY, reduceCtorEq, nq0, nq1, nq2, nq3, nq4, iq0, iq1, iq2, iq3, iq4, iq5, iq6, iq7, iq8]))))
  refine sg.st h15 rfl rfl fun H16 h16 => ?_
  simp only [front_eq, fronts_nil, fronts_cons, List.getElem?_cons_zero, List.getElem?_cons_succ, List.eraseIdx_cons_zero, List.eraseIdx_cons_succ, List.cons_append, List.nil_append, putL_cons, putL_nil, List.set_cons_zero, List.set_cons_succ, Nat.reduceAdd] at h16
  obtain ⟨b', o', hl', hk, hcc, d16⟩ := (h16.rdsi 4 rfl Rd_own).el lc_len (i := 0) (by simp) (by omega)
  cases hk
  simp only [List.getElem_cons_zero, Nat.zero_mul, Nat.add_zero] at d16
  ((try simp only [S, TY, reduceCtorEq, nq0, nq1, nq2, nq3, nq4, iq0, iq1, iq2, iq3, iq4, iq5, iq6, iq7, iq8, d16]); (try (simp (disch := omega) only [W2, Int.cast_ofNat_Int]; (try simp only [S, TY, reduceCtorEq, nq0, nq1, nq2, nq3, nq4, iq0, iq1, iq2, iq3, iq4, iq5, iq6, iq7, iq8, d16]))))
  refine Con.lend_at [sS b B2] [blobs [u4] [[104, 105]]] h16 [2, 2] rfl (fun F hF hs => Take_ok ⟨5, 7, 0, 1, [104, 105]⟩ ((seps_blob hs 0 rfl).get 0 (by simp) (by simp)).left wb2) fun r B H17 hr h17 => ?_
  obtain ⟨u6, rfl, rfl⟩ := hr
  rw [t4] at h17 ⊢
  obtain ⟨x17, y17, z17, rfl, _, _⟩ := h17.sl 0 rfl Rd_own
  simp only [front_eq, fronts_nil, fronts_cons, List.getElem?_cons_zero, List.getElem?_cons_succ, List.eraseIdx_cons_zero, List.eraseIdx_cons_succ, List.cons_append, List.nil_append, putL_cons, putL_nil, List.set_cons_zero, List.set_cons_succ, Nat.reduceAdd] at h17
  ((try simp only [S, TY, reduceCtorEq, nq0, nq1, nq2, nq3, nq4, iq0, iq1, iq2, iq3, iq4, iq5, iq6, iq7, iq8, d16]); (try (simp (disch := omega) only [W2, Int.cast_ofNat_Int]; (try simp only [S, TY, reduceCtorEq, nq0, nq1, nq2, nq3, nq4, iq0, iq1, iq2, iq3, iq4, iq5, iq6, iq7, iq8, d16]))))
  intro k18 p18 q18
  have h18 := h17.new p18 q18 (.cells (tkl (.slice none 0 0) false false).toArray 91 (0, 0))
  ((try simp only [S, TY, reduceCtorEq, nq0, nq1, nq2, nq3, nq4, iq0, iq1, iq2, iq3, iq4, iq5, iq6, iq7, iq8]); (try (simp (disch := omega) only [W2, Int.cast_ofNat_Int]; (try simp only [S, TY, reduceCtorEq, nq0, nq1, nq2, nq3, nq4, iq0, iq1, iq2, iq3, iq4, iq5, iq6, iq7, iq8]))))
  refine sg.st h18 rfl rfl fun H19 h19 => ?_
  simp only [front_eq, fronts_nil, fronts_cons, List.getElem?_cons_zero, List.getElem?_cons_succ, List.eraseIdx_cons_zero, List.eraseIdx_cons_succ, List.cons_append, List.nil_append, putL_cons, putL_nil, List.set_cons_zero, List.set_cons_succ, Nat.reduceAdd] at h19
  obtain ⟨b'', o'', hl', hk, hcc, d19⟩ := (h19.rdsi 6 rfl Rd_own).el lc_len (i := 0) (by simp) (by omega)
  cases hk
  simp only [List.getElem_cons_zero, Nat.zero_mul, Nat.add_zero] at d19 hcc
  have e3 := hcc 3 (by decide)
  simp only [List.getElem?_cons_zero, List.getElem?_cons_succ] at e3
  have c0 := h19.c0
  have c4 := h19.ci 4 rfl
  have c9 := h19.ci 9 rfl
  have c13 := h19.ci 13 rfl
  have s5 := rStr_of (P := Try.prog) (h19.rdsi 5 rfl Rd_own)
  ((try simp only [S, TY, reduceCtorEq, nq0, nq1, nq2, nq3, nq4, iq0, iq1, iq2, iq3, iq4, iq5, iq6, iq7, iq8, d19, e3, c0, c4, c9, c13, s5]); (try (simp (disch := omega) only [W2, Int.cast_ofNat_Int]; (try simp only [S, TY, reduceCtorEq, nq0, nq1, nq2, nq3, nq4, iq0, iq1, iq2, iq3, iq4, iq5, iq6, iq7, iq8, d19, e3, c0, c4, c9, c13, s5]))))
  simp only [List.append_eq, List.cons_append, List.nil_append]
  ((try simp only [S, TY, reduceCtorEq, nq0, nq1, nq2, nq3, nq4, iq0, iq1, iq2, iq3, iq4, iq5, iq6, iq7, iq8, d19, e3, c0, c4, c9, c13, s5]); (try (simp (disch := omega) only [W2, Int.cast_ofNat_Int]; (try simp only [S, TY, reduceCtorEq, nq0, nq1, nq2, nq3, nq4, iq0, iq1, iq2, iq3, iq4, iq5, iq6, iq7, iq8, d19, e3, c0, c4, c9, c13, s5]))))
  refine Len_ok.at_ h19 [7] _ rfl fun r B H20 hr h20 => ?_
  obtain ⟨rfl, rfl⟩ := hr
  simp only [front_eq, fronts_nil, fronts_cons, List.getElem?_cons_zero, List.getElem?_cons_succ, List.eraseIdx_cons_zero, List.eraseIdx_cons_succ, List.cons_append, List.nil_append, putL_cons, putL_nil, List.set_cons_zero, List.set_cons_succ, Nat.reduceAdd] at h20
  rw [show ((A2.q.length : Nat) : Int) = 1 from rfl]
  ((try simp only [S, TY, reduceCtorEq, nq0, nq1, nq2, nq3, nq4, iq0, iq1, iq2, iq3, iq4, iq5, iq6, iq7, iq8]); (try (simp (disch := omega) only [W2, Int.cast_ofNat_Int]; (try simp only [S, TY, reduceCtorEq, nq0, nq1, nq2, nq3, nq4, iq0, iq1, iq2, iq3, iq4, iq5, iq6, iq7, iq8]))))
  refine Peer_ok.at_ h20 [3] _ rfl fun r B H21 hr h21 => ?_
  obtain ⟨rfl, rfl⟩ := hr
  rw [show B2.p = 5 from rfl]
  ((try simp only [S, TY, reduceCtorEq, nq0, nq1, nq2, nq3, nq4, iq0, iq1, iq2, iq3, iq4, iq5, iq6, iq7, iq8]); (try (simp (disch := omega) only [W2, Int.cast_ofNat_Int]; (try simp only [S, TY, reduceCtorEq, nq0, nq1, nq2, nq3, nq4, iq0, iq1, iq2, iq3, iq4, iq5, iq6, iq7, iq8]))))
  exact fin_take (B := []) h21 ⟨rfl, rfl⟩
end Go.Proofs.Ytanhmbdcdbcfmaa.SeA
