/- Nets: the laws' live question. -/
import Derived.Test.YtanhmbdcdbcfmaaNtS
set_option linter.unusedVariables false
set_option linter.unusedSimpArgs false
set_option maxRecDepth 10000
set_option maxHeartbeats 4000000
namespace Go.Proofs.Ytanhmbdcdbcfmaa.NtA
open Nat renaming reduceEqDiff → nq0, reduceAdd → nq1, reduceLeDiff → nq2, reduceBEq → nq3, reduceMul → nq4
open Int renaming reduceBEq → iq0, reduceEq → iq1, reduceLT → iq2, reduceLE → iq3, reduceAdd → iq4, reduceSub → iq5, reduceMul → iq6, reduceToNat → iq7, cast_ofNat_Int → iq8
open Go Go.Sl Go.Proofs Go.Proofs.Ytanhmbdcdbcfmaa.NtP Go.Proofs.Ytanhmbdcdbcfmaa.Nt Go.Proofs.Ytanhmbdcdbcfmaa.NtK Go.Proofs.Ytanhmbdcdbcfmaa.NtD Go.Proofs.Ytanhmbdcdbcfmaa.NtL
theorem TY : aggN Try.prog 3 = some none ∧
  aggN Try.prog 5 = some none ∧
  aggN Try.prog 9 = some none ∧
  aggN Try.prog 24 = some none ∧
  aggN Try.prog 30 = some none ∧
  aggN Try.prog 140 = some none ∧
  aggN Try.prog 148 = some none ∧
  aggN Try.prog 152 = some (some 3) ∧
  apI Try.prog 24 = some (5, 1, 1) ∧
  apI Try.prog 148 = some (152, 3, 40) ∧
  bIs Try.prog 152 = true ∧
  bySl Try.prog 24 = true ∧
  csz Try.prog 3 = some 1 ∧
  csz Try.prog 5 = some 1 ∧
  csz Try.prog 9 = some 1 ∧
  csz Try.prog 24 = some 1 ∧
  csz Try.prog 30 = some 1 ∧
  csz Try.prog 140 = some 1 ∧
  csz Try.prog 148 = some 1 ∧
  csz Try.prog 152 = some 3 ∧
  fIs Try.prog 152 1 = true ∧
  fIs Try.prog 152 2 = true ∧
  fOff Try.prog 152 1 = 1 ∧
  fOff Try.prog 152 2 = 2 ∧
  fTy Try.prog 152 1 = 3 ∧
  fTy Try.prog 152 2 = 24 ∧
  goes Try.prog 72 = true ∧
  goes Try.prog 74 = true ∧
  goes Try.prog 75 = true ∧
  goes Try.prog 76 = true ∧
  goes Try.prog 77 = true ∧
  goes Try.prog 78 = true ∧
  goes Try.prog 79 = true ∧
  goes Try.prog 80 = true ∧
  inIs Try.prog 3 = some .i64 ∧
  inIs Try.prog 5 = some .u8 ∧
  inIs Try.prog 30 = some .i64 ∧
  plcs Try.prog 152 = [(0, 1), (1, 1), (2, 1)] ∧
  ptIs Try.prog 140 = true ∧
  slEl Try.prog 24 = 5 ∧
  slEl Try.prog 148 = 152 ∧
  slIs Try.prog 24 = true ∧
  slIs Try.prog 148 = true ∧
  slSz Try.prog 24 = 1 ∧
  slSz Try.prog 148 = 3 ∧
  stIs Try.prog 9 = true ∧
  zcs Try.prog 152 = [.int .i64 0, .int .i64 0, .slice none 0 0] ∧
  zro Try.prog 3 = some (.int .i64 0) ∧
  zro Try.prog 5 = some (.int .u8 0) ∧
  zro Try.prog 9 = some (.string ByteArray.empty) ∧
  zro Try.prog 24 = some (.slice none 0 0) ∧
  zro Try.prog 30 = some (.int .i64 0) ∧
  zro Try.prog 140 = some (.pointer none) ∧
  zro Try.prog 148 = some (.slice none 0 0) ∧
  zro Try.prog 152 = some (.agg #[.int .i64 0, .int .i64 0, .slice none 0 0]) :=
  ⟨by kernel_rfl, by kernel_rfl, by kernel_rfl, by kernel_rfl, by kernel_rfl, by kernel_rfl, by kernel_rfl, by kernel_rfl, by kernel_rfl, by kernel_rfl, by kernel_rfl, by kernel_rfl, by kernel_rfl, by kernel_rfl, by kernel_rfl, by kernel_rfl, by kernel_rfl, by kernel_rfl, by kernel_rfl, by kernel_rfl, by kernel_rfl, by kernel_rfl, by kernel_rfl, by kernel_rfl, by kernel_rfl, by kernel_rfl, by kernel_rfl, by kernel_rfl, by kernel_rfl, by kernel_rfl, by kernel_rfl, by kernel_rfl, by kernel_rfl, by kernel_rfl, by kernel_rfl, by kernel_rfl, by kernel_rfl, by kernel_rfl, by kernel_rfl, by kernel_rfl, by kernel_rfl, by kernel_rfl, by kernel_rfl, by kernel_rfl, by kernel_rfl, by kernel_rfl, by kernel_rfl, by kernel_rfl, by kernel_rfl, by kernel_rfl, by kernel_rfl, by kernel_rfl, by kernel_rfl, by kernel_rfl, by kernel_rfl⟩
abbrev x0 : It := ⟨1, 4, [97, 98]⟩
abbrev x1 : It := ⟨0, 15, []⟩
abbrev n0 : Nt := ⟨[], 2, 0⟩
abbrev n1 : Nt := ⟨[x0, x1], 2, 2⟩
abbrev n2 : Nt := ⟨[x1], 2, 2⟩
abbrev n3 : Nt := ⟨[x1, x1], 2, 2⟩
theorem p1 : n0.puts [x0, ⟨3, 0, []⟩, x1, ⟨0, 0, []⟩] = (n1, 2) := rfl
theorem d1 : n1.dbl 0 = (n1, 3) := rfl
theorem f1 : find 0 15 n1.l 0 = 1 := rfl
theorem d2 : n2.dbl 0 = (n3, 0) := rfl
theorem w0 : n0.wf 0 := wf_new (room := 2) (by omega)
theorem w1 : n1.wf 4 := by have := wf_puts w0 [x0, ⟨3, 0, []⟩, x1, ⟨0, 0, []⟩]; rw [p1] at this; exact this
theorem w2 : n2.wf 4 := wf_drop w1 0
theorem w3 : n3.wf 4 := by have := wf_dbl w2 0; rw [d2] at this; exact this
theorem alive {G : Hp} : Con Try.prog G 71 [] [] (fun r B => r = .bool true ∧ B = []) := by
  refine Con.intro Try.func71 rfl (Nat.le_of_ble_eq_true (by kernel_rfl)) (by kernel_rfl) Try.results71 ?_
  intro H h
  ((try simp only [S, TY, reduceCtorEq, nq0, nq1, nq2, nq3, nq4, iq0, iq1, iq2, iq3, iq4, iq5, iq6, iq7, iq8]); (try (simp (disch := omega) only [W2, Int.cast_ofNat_Int]; (try simp only [S, TY, reduceCtorEq, nq0, nq1, nq2, nq3, nq4, iq0, iq1, iq2, iq3, iq4, iq5, iq6, iq7, iq8]))))
  refine (New_ok 2 (by omega)).at_ h [] _ rfl fun r B H1 hr h1 => ?_
  obtain ⟨p, rfl, rfl⟩ := hr
  ((try simp only [S, TY, reduceCtorEq, nq0, nq1, nq2, nq3, nq4, iq0, iq1, iq2, iq3, iq4, iq5, iq6, iq7, iq8]); (try (simp (disch := omega) only [W2, Int.cast_ofNat_Int]; (try simp only [S, TY, reduceCtorEq, nq0, nq1, nq2, nq3, nq4, iq0, iq1, iq2, iq3, iq4, iq5, iq6, iq7, iq8]))))
  intro k2 hk2 hg2
  have h2 := h1.newsl (e := 5) (sz := 1) (n := 2) (xs := bv [97, 98]) hk2 hg2 rfl
  ((try simp only [S, TY, reduceCtorEq, nq0, nq1, nq2, nq3, nq4, iq0, iq1, iq2, iq3, iq4, iq5, iq6, iq7, iq8]); (try (simp (disch := omega) only [W2, Int.cast_ofNat_Int]; (try simp only [S, TY, reduceCtorEq, nq0, nq1, nq2, nq3, nq4, iq0, iq1, iq2, iq3, iq4, iq5, iq6, iq7, iq8]))))
  refine conv_mark (show apI Try.prog 24 = some (5, 1, 1) from by kernel_rfl) (show inIs Try.prog 5 = some .u8 from by kernel_rfl) h2 (fun HM hM => ?_)
  clear h2
  have h2 := hM
  ((try simp only [S, TY, reduceCtorEq, nq0, nq1, nq2, nq3, nq4, iq0, iq1, iq2, iq3, iq4, iq5, iq6, iq7, iq8]); (try (simp (disch := omega) only [W2, Int.cast_ofNat_Int]; (try simp only [S, TY, reduceCtorEq, nq0, nq1, nq2, nq3, nq4, iq0, iq1, iq2, iq3, iq4, iq5, iq6, iq7, iq8]))))
  intro k3 hk3 hg3
  have h3 := h2.newsl (e := 152) (sz := 3) (n := 4) (xs := [(x0, Value.slice (some ⟨k2, 0, none⟩) 2 2), ((⟨3, 0, []⟩ : It), Value.slice none 0 0), (x1, Value.slice none 0 0), ((⟨0, 0, []⟩ : It), Value.slice none 0 0)].flatMap ic) hk3 hg3 rfl
  ((try simp only [S, TY, reduceCtorEq, nq0, nq1, nq2, nq3, nq4, iq0, iq1, iq2, iq3, iq4, iq5, iq6, iq7, iq8]); (try (simp (disch := omega) only [W2, Int.cast_ofNat_Int]; (try simp only [S, TY, reduceCtorEq, nq0, nq1, nq2, nq3, nq4, iq0, iq1, iq2, iq3, iq4, iq5, iq6, iq7, iq8]))))
  refine Con.lend_at [nN p n0] [own 152 3 _ _, own 5 1 _ (bv [97, 98])] h3 [2, 0, 0] rfl (fun F hF hs => Put_ok (yl := [(x0, Value.slice (some ⟨k2, 0, none⟩) 2 2), ((⟨3, 0, []⟩ : It), Value.slice none 0 0), (x1, Value.slice none 0 0), ((⟨0, 0, []⟩ : It), Value.slice none 0 0)]) w0 (by omega) (by simp) (seps_own hs 0 rfl).left ⟨(seps_own hs 1 rfl).left, SeW.nil8, SeW.nil8, SeW.nil8, trivial⟩) fun r B H4 hr h4 => ?_
  obtain ⟨rfl, rfl⟩ := hr
  simp only [List.map_cons, List.map_nil] at h4 ⊢
  rw [p1] at h4 ⊢
  simp only [front_eq, fronts_nil, fronts_cons, List.getElem?_cons_zero, List.getElem?_cons_succ, List.eraseIdx_cons_zero, List.eraseIdx_cons_succ, List.cons_append, List.nil_append, putL_cons, putL_nil, List.set_cons_zero, List.set_cons_succ, Nat.reduceAdd] at h4
  ((try simp only [S, TY, reduceCtorEq, nq0, nq1, nq2, nq3, nq4, iq0, iq1, iq2, iq3, iq4, iq5, iq6, iq7, iq8]); (try (simp (disch := omega) only [W2, Int.cast_ofNat_Int]; (try simp only [S, TY, reduceCtorEq, nq0, nq1, nq2, nq3, nq4, iq0, iq1, iq2, iq3, iq4, iq5, iq6, iq7, iq8]))))
  refine (Double_ok w1 0).at_ h4 [0] _ rfl fun r B H5 hr h5 => ?_
  obtain ⟨rfl, rfl⟩ := hr
  rw [d1] at h5 ⊢
  simp only [front_eq, fronts_nil, fronts_cons, List.getElem?_cons_zero, List.getElem?_cons_succ, List.eraseIdx_cons_zero, List.eraseIdx_cons_succ, List.cons_append, List.nil_append, putL_cons, putL_nil, List.set_cons_zero, List.set_cons_succ, Nat.reduceAdd] at h5
  ((try simp only [S, TY, reduceCtorEq, nq0, nq1, nq2, nq3, nq4, iq0, iq1, iq2, iq3, iq4, iq5, iq6, iq7, iq8]); (try (simp (disch := omega) only [W2, Int.cast_ofNat_Int]; (try simp only [S, TY, reduceCtorEq, nq0, nq1, nq2, nq3, nq4, iq0, iq1, iq2, iq3, iq4, iq5, iq6, iq7, iq8]))))
  refine (Find_ok w1 0 15).at_ h5 [0] _ rfl fun r B H6 hr h6 => ?_
  obtain ⟨rfl, rfl⟩ := hr
  rw [f1]
  simp only [front_eq, fronts_nil, fronts_cons, List.getElem?_cons_zero, List.getElem?_cons_succ, List.eraseIdx_cons_zero, List.eraseIdx_cons_succ, List.cons_append, List.nil_append, putL_cons, putL_nil, List.set_cons_zero, List.set_cons_succ, Nat.reduceAdd] at h6
  ((try simp only [S, TY, reduceCtorEq, nq0, nq1, nq2, nq3, nq4, iq0, iq1, iq2, iq3, iq4, iq5, iq6, iq7, iq8]); (try (simp (disch := omega) only [W2, Int.cast_ofNat_Int]; (try simp only [S, TY, reduceCtorEq, nq0, nq1, nq2, nq3, nq4, iq0, iq1, iq2, iq3, iq4, iq5, iq6, iq7, iq8]))))
  refine (Take_ok w1 0).at_ h6 [0] _ rfl fun r B H7 hr h7 => ?_
  unfold TakeR at hr
  rw [if_pos (show n1.has 0 from ⟨by decide, by decide⟩)] at hr
  obtain ⟨u, rfl, rfl⟩ := hr
  rw [show n1.l.getD (0 : Int).toNat ⟨0, 0, []⟩ = x0 from rfl, show n1.drop 0 = n2 from rfl] at h7
  rw [show n1.l.getD (0 : Int).toNat ⟨0, 0, []⟩ = x0 from rfl]
  obtain ⟨ua, un, uc, rfl, _, _⟩ := h7.sl 0 rfl Rd_own
  simp only [front_eq, fronts_nil, fronts_cons, List.getElem?_cons_zero, List.getElem?_cons_succ, List.eraseIdx_cons_zero, List.eraseIdx_cons_succ, List.cons_append, List.nil_append, putL_cons, putL_nil, List.set_cons_zero, List.set_cons_succ, Nat.reduceAdd] at h7
  ((try simp only [S, TY, reduceCtorEq, nq0, nq1, nq2, nq3, nq4, iq0, iq1, iq2, iq3, iq4, iq5, iq6, iq7, iq8]); (try (simp (disch := omega) only [W2, Int.cast_ofNat_Int]; (try simp only [S, TY, reduceCtorEq, nq0, nq1, nq2, nq3, nq4, iq0, iq1, iq2, iq3, iq4, iq5, iq6, iq7, iq8]))))
  intro k8 hk8 hg8
  have h8 := h7.new hk8 hg8 (.cells (il 0 0 (.slice none 0 0)).toArray 152 (0, 0))
  ((try simp only [S, TY, reduceCtorEq, nq0, nq1, nq2, nq3, nq4, iq0, iq1, iq2, iq3, iq4, iq5, iq6, iq7, iq8]); (try (simp (disch := omega) only [W2, Int.cast_ofNat_Int]; (try simp only [S, TY, reduceCtorEq, nq0, nq1, nq2, nq3, nq4, iq0, iq1, iq2, iq3, iq4, iq5, iq6, iq7, iq8]))))
  refine sg.st h8 rfl rfl fun H9 h9 => ?_
  simp only [front_eq, fronts_nil, fronts_cons, List.getElem?_cons_zero, List.getElem?_cons_succ, List.eraseIdx_cons_zero, List.eraseIdx_cons_succ, List.cons_append, List.nil_append, putL_cons, putL_nil, List.set_cons_zero, List.set_cons_succ, Nat.reduceAdd] at h9
  ((try simp only [S, TY, reduceCtorEq, nq0, nq1, nq2, nq3, nq4, iq0, iq1, iq2, iq3, iq4, iq5, iq6, iq7, iq8]); (try (simp (disch := omega) only [W2, Int.cast_ofNat_Int]; (try simp only [S, TY, reduceCtorEq, nq0, nq1, nq2, nq3, nq4, iq0, iq1, iq2, iq3, iq4, iq5, iq6, iq7, iq8]))))
  refine (Double_ok w2 0).at_ h9 [2] _ rfl fun r B H10 hr h10 => ?_
  obtain ⟨rfl, rfl⟩ := hr
  rw [d2] at h10 ⊢
  simp only [front_eq, fronts_nil, fronts_cons, List.getElem?_cons_zero, List.getElem?_cons_succ, List.eraseIdx_cons_zero, List.eraseIdx_cons_succ, List.cons_append, List.nil_append, putL_cons, putL_nil, List.set_cons_zero, List.set_cons_succ, Nat.reduceAdd] at h10
  ((try simp only [S, TY, reduceCtorEq, nq0, nq1, nq2, nq3, nq4, iq0, iq1, iq2, iq3, iq4, iq5, iq6, iq7, iq8]); (try (simp (disch := omega) only [W2, Int.cast_ofNat_Int]; (try simp only [S, TY, reduceCtorEq, nq0, nq1, nq2, nq3, nq4, iq0, iq1, iq2, iq3, iq4, iq5, iq6, iq7, iq8]))))
  refine (At_ok w3 1).at_ h10 [0] _ rfl fun r B H11 hr h11 => ?_
  unfold AtR at hr
  rw [if_pos (show n3.has 1 from ⟨by decide, by decide⟩)] at hr
  obtain ⟨v, rfl, rfl⟩ := hr
  rw [show n3.l.getD (1 : Int).toNat ⟨0, 0, []⟩ = x1 from rfl] at h11 ⊢
  obtain ⟨va, vn, vc, rfl, _, _⟩ := h11.sl 0 rfl Rd_own
  simp only [front_eq, fronts_nil, fronts_cons, List.getElem?_cons_zero, List.getElem?_cons_succ, List.eraseIdx_cons_zero, List.eraseIdx_cons_succ, List.cons_append, List.nil_append, putL_cons, putL_nil, List.set_cons_zero, List.set_cons_succ, Nat.reduceAdd] at h11
  ((try simp only [S, TY, reduceCtorEq, nq0, nq1, nq2, nq3, nq4, iq0, iq1, iq2, iq3, iq4, iq5, iq6, iq7, iq8]); (try (simp (disch := omega) only [W2, Int.cast_ofNat_Int]; (try simp only [S, TY, reduceCtorEq, nq0, nq1, nq2, nq3, nq4, iq0, iq1, iq2, iq3, iq4, iq5, iq6, iq7, iq8]))))
  intro k12 hk12 hg12
  have h12 := h11.new hk12 hg12 (.cells (il 0 0 (.slice none 0 0)).toArray 152 (0, 0))
  ((try simp only [S, TY, reduceCtorEq, nq0, nq1, nq2, nq3, nq4, iq0, iq1, iq2, iq3, iq4, iq5, iq6, iq7, iq8]); (try (simp (disch := omega) only [W2, Int.cast_ofNat_Int]; (try simp only [S, TY, reduceCtorEq, nq0, nq1, nq2, nq3, nq4, iq0, iq1, iq2, iq3, iq4, iq5, iq6, iq7, iq8]))))
  refine sg.st h12 rfl rfl fun H13 h13 => ?_
  simp only [front_eq, fronts_nil, fronts_cons, List.getElem?_cons_zero, List.getElem?_cons_succ, List.eraseIdx_cons_zero, List.eraseIdx_cons_succ, List.cons_append, List.nil_append, putL_cons, putL_nil, List.set_cons_zero, List.set_cons_succ, Nat.reduceAdd] at h13
  have c0 := h13.c0
  have c3 := h13.ci 3 rfl
  have s13 := rStr_of (P := Try.prog) (h13.rdsi 4 rfl Rd_own)
  ((try simp only [S, TY, reduceCtorEq, nq0, nq1, nq2, nq3, nq4, iq0, iq1, iq2, iq3, iq4, iq5, iq6, iq7, iq8, c0, c3, s13]); (try (simp (disch := omega) only [W2, Int.cast_ofNat_Int]; (try simp only [S, TY, reduceCtorEq, nq0, nq1, nq2, nq3, nq4, iq0, iq1, iq2, iq3, iq4, iq5, iq6, iq7, iq8, c0, c3, s13]))))
  refine Lost_ok.at_ h13 [2] _ rfl fun r B H14 hr h14 => ?_
  obtain ⟨rfl, rfl⟩ := hr
  rw [show n3.lost = 2 from rfl]
  simp only [front_eq, fronts_nil, fronts_cons, List.getElem?_cons_zero, List.getElem?_cons_succ, List.eraseIdx_cons_zero, List.eraseIdx_cons_succ, List.cons_append, List.nil_append, putL_cons, putL_nil, List.set_cons_zero, List.set_cons_succ, Nat.reduceAdd] at h14
  ((try simp only [S, TY, reduceCtorEq, nq0, nq1, nq2, nq3, nq4, iq0, iq1, iq2, iq3, iq4, iq5, iq6, iq7, iq8]); (try (simp (disch := omega) only [W2, Int.cast_ofNat_Int]; (try simp only [S, TY, reduceCtorEq, nq0, nq1, nq2, nq3, nq4, iq0, iq1, iq2, iq3, iq4, iq5, iq6, iq7, iq8]))))
  refine Len_ok.at_ h14 [0] _ rfl fun r B H15 hr h15 => ?_
  obtain ⟨rfl, rfl⟩ := hr
  rw [show ((n3.l.length : Nat) : Int) = 2 from rfl]
  ((try simp only [S, TY, reduceCtorEq, nq0, nq1, nq2, nq3, nq4, iq0, iq1, iq2, iq3, iq4, iq5, iq6, iq7, iq8]); (try (simp (disch := omega) only [W2, Int.cast_ofNat_Int]; (try simp only [S, TY, reduceCtorEq, nq0, nq1, nq2, nq3, nq4, iq0, iq1, iq2, iq3, iq4, iq5, iq6, iq7, iq8]))))
  exact fin_take (B := []) h15 ⟨rfl, rfl⟩
end Go.Proofs.Ytanhmbdcdbcfmaa.NtA
