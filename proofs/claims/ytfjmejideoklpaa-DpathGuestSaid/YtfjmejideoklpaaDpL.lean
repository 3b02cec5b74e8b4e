/- What becomes of frames: the laws' live question. -/
import Derived.Test.YtfjmejideoklpaaDpD
import Derived.Test.YtfjmejideoklpaaBiD
set_option linter.unusedVariables false
set_option linter.unusedSimpArgs false
set_option maxRecDepth 10000
set_option maxHeartbeats 2000000
namespace Go.Proofs.Ytfjmejideoklpaa.DpL
open Nat renaming reduceEqDiff → nq0, reduceAdd → nq1, reduceLeDiff → nq2, reduceBEq → nq3, reduceMul → nq4
open Int renaming reduceBEq → iq0, reduceEq → iq1, reduceLT → iq2, reduceLE → iq3, reduceAdd → iq4, reduceSub → iq5, reduceMul → iq6, reduceToNat → iq7, cast_ofNat_Int → iq8
open Go Go.Sl Go.Proofs Go.Proofs.Ytfjmejideoklpaa.SoI Go.Proofs.Ytfjmejideoklpaa.SoM Go.Proofs.Ytfjmejideoklpaa.Fl Go.Proofs.Ytfjmejideoklpaa.FlT Go.Proofs.Ytfjmejideoklpaa.TunP Go.Proofs.Ytfjmejideoklpaa.TunD Go.Proofs.Ytfjmejideoklpaa.TunA Go.Proofs.Ytfjmejideoklpaa.Dp Go.Proofs.Ytfjmejideoklpaa.DpG Go.Proofs.Ytfjmejideoklpaa.DpT Go.Proofs.Ytfjmejideoklpaa.DpU Go.Proofs.Ytfjmejideoklpaa.DpD Go.Proofs.Ytfjmejideoklpaa.Ph Go.Proofs.Ytfjmejideoklpaa.BiC Go.Proofs.Ytfjmejideoklpaa.BiD
theorem TY : aggN Try.prog 3 = some none ∧
  aggN Try.prog 5 = some none ∧
  aggN Try.prog 25 = some (some 9) ∧
  aggN Try.prog 33 = some none ∧
  aggN Try.prog 34 = some none ∧
  aggN Try.prog 59 = some none ∧
  aggN Try.prog 118 = some none ∧
  aggN Try.prog 127 = some (some 4) ∧
  aggN Try.prog 131 = some none ∧
  aggN Try.prog 133 = some (some 8) ∧
  aggN Try.prog 135 = some (some 13) ∧
  apI Try.prog 33 = some (5, 1, 1) ∧
  apI Try.prog 118 = some (25, 9, 72) ∧
  bIs Try.prog 25 = true ∧
  bIs Try.prog 127 = true ∧
  bIs Try.prog 133 = true ∧
  bIs Try.prog 135 = true ∧
  bySl Try.prog 33 = true ∧
  csz Try.prog 3 = some 1 ∧
  csz Try.prog 5 = some 1 ∧
  csz Try.prog 25 = some 9 ∧
  csz Try.prog 33 = some 1 ∧
  csz Try.prog 34 = some 1 ∧
  csz Try.prog 59 = some 1 ∧
  csz Try.prog 118 = some 1 ∧
  csz Try.prog 127 = some 4 ∧
  csz Try.prog 131 = some 1 ∧
  csz Try.prog 133 = some 8 ∧
  csz Try.prog 135 = some 13 ∧
  eqF Try.prog 25 = some [.i, .i, .i, .i, .i, .i, .i, .i, .i] ∧
  fIs Try.prog 133 0 = true ∧
  fIs Try.prog 133 2 = true ∧
  fIs Try.prog 133 3 = true ∧
  fIs Try.prog 133 5 = true ∧
  fIs Try.prog 135 0 = true ∧
  fIs Try.prog 135 2 = true ∧
  fIs Try.prog 135 3 = true ∧
  fIs Try.prog 135 4 = true ∧
  fIs Try.prog 135 5 = true ∧
  fOff Try.prog 133 0 = 0 ∧
  fOff Try.prog 133 2 = 2 ∧
  fOff Try.prog 133 3 = 3 ∧
  fOff Try.prog 133 5 = 5 ∧
  fOff Try.prog 135 0 = 0 ∧
  fOff Try.prog 135 2 = 2 ∧
  fOff Try.prog 135 3 = 3 ∧
  fOff Try.prog 135 4 = 4 ∧
  fOff Try.prog 135 5 = 5 ∧
  fTy Try.prog 133 0 = 131 ∧
  fTy Try.prog 133 2 = 3 ∧
  fTy Try.prog 133 3 = 3 ∧
  fTy Try.prog 133 5 = 3 ∧
  fTy Try.prog 135 0 = 3 ∧
  fTy Try.prog 135 2 = 3 ∧
  fTy Try.prog 135 3 = 3 ∧
  fTy Try.prog 135 4 = 33 ∧
  fTy Try.prog 135 5 = 133 ∧
  goes Try.prog 73 = true ∧
  goes Try.prog 78 = true ∧
  goes Try.prog 129 = true ∧
  inIs Try.prog 3 = some .i64 ∧
  inIs Try.prog 5 = some .u8 ∧
  inIs Try.prog 34 = some .i64 ∧
  inIs Try.prog 131 = some .i64 ∧
  plcs Try.prog 25 = [(0, 1), (1, 1), (2, 1), (3, 1), (4, 1), (5, 1), (6, 1), (7, 1), (8, 1)] ∧
  plcs Try.prog 127 = [(0, 1), (1, 1), (2, 1), (3, 1)] ∧
  plcs Try.prog 133 = [(0, 1), (1, 1), (2, 1), (3, 1), (4, 1), (5, 1), (6, 1), (7, 1)] ∧
  plcs Try.prog 135 = [(0, 1), (1, 1), (2, 1), (3, 1), (4, 1), (5, 8)] ∧
  ptIs Try.prog 59 = true ∧
  slEl Try.prog 33 = 5 ∧
  slEl Try.prog 118 = 25 ∧
  slIs Try.prog 33 = true ∧
  slIs Try.prog 118 = true ∧
  slSz Try.prog 33 = 1 ∧
  slSz Try.prog 118 = 9 ∧
  zcs Try.prog 25 = [.int .i64 0, .int .u64 0, .int .i64 0, .int .i64 0, .int .i64 0, .int .i64 0, .int .i64 0, .int .i64 0, .int .i64 0] ∧
  zcs Try.prog 127 = [.int .u64 0, .int .u64 0, .int .i64 0, .slice none 0 0] ∧
  zcs Try.prog 133 = [.int .i64 0, .int .i64 0, .int .i64 0, .int .i64 0, .int .i64 0, .int .i64 0, .int .i64 0, .slice none 0 0] ∧
  zcs Try.prog 135 = [.int .i64 0, .int .i64 0, .int .i64 0, .int .i64 0, .slice none 0 0, .int .i64 0, .int .i64 0, .int .i64 0, .int .i64 0, .int .i64 0, .int .i64 0, .int .i64 0, .slice none 0 0] ∧
  zro Try.prog 3 = some (.int .i64 0) ∧
  zro Try.prog 5 = some (.int .u8 0) ∧
  zro Try.prog 25 = some (.agg #[.int .i64 0, .int .u64 0, .int .i64 0, .int .i64 0, .int .i64 0, .int .i64 0, .int .i64 0, .int .i64 0, .int .i64 0]) ∧
  zro Try.prog 33 = some (.slice none 0 0) ∧
  zro Try.prog 34 = some (.int .i64 0) ∧
  zro Try.prog 59 = some (.pointer none) ∧
  zro Try.prog 118 = some (.slice none 0 0) ∧
  zro Try.prog 127 = some (.agg #[.int .u64 0, .int .u64 0, .int .i64 0, .slice none 0 0]) ∧
  zro Try.prog 131 = some (.int .i64 0) ∧
  zro Try.prog 133 = some (.agg #[.int .i64 0, .int .i64 0, .int .i64 0, .int .i64 0, .int .i64 0, .int .i64 0, .int .i64 0, .slice none 0 0]) ∧
  zro Try.prog 135 = some (.agg #[.int .i64 0, .int .i64 0, .int .i64 0, .int .i64 0, .slice none 0 0, .int .i64 0, .int .i64 0, .int .i64 0, .int .i64 0, .int .i64 0, .int .i64 0, .int .i64 0, .slice none 0 0]) :=
  ⟨by kernel_rfl, by kernel_rfl, by kernel_rfl, by kernel_rfl, by kernel_rfl, by kernel_rfl, by kernel_rfl, by kernel_rfl, by kernel_rfl, by kernel_rfl, by kernel_rfl, by kernel_rfl, by kernel_rfl, by kernel_rfl, by kernel_rfl, by kernel_rfl, by kernel_rfl, by kernel_rfl, by kernel_rfl, by kernel_rfl, by kernel_rfl, by kernel_rfl, by kernel_rfl, by kernel_rfl, by kernel_rfl, by kernel_rfl, by kernel_rfl, by kernel_rfl, by kernel_rfl, by kernel_rfl, by kernel_rfl, by kernel_rfl, by kernel_rfl, by kernel_rfl, by kernel_rfl, by kernel_rfl, by kernel_rfl, by kernel_rfl, by kernel_rfl, by kernel_rfl, by kernel_rfl, by kernel_rfl, by kernel_rfl, by kernel_rfl, by kernel_rfl, by kernel_rfl, by kernel_rfl, by kernel_rfl, by kernel_rfl, by kernel_rfl, by kernel_rfl, by kernel_rfl, by kernel_rfl, by kernel_rfl, by kernel_rfl, by kernel_rfl, by kernel_rfl, by kernel_rfl, by kernel_rfl, by kernel_rfl, by kernel_rfl, by kernel_rfl, by kernel_rfl, by kernel_rfl, by kernel_rfl, by kernel_rfl, by kernel_rfl, by kernel_rfl, by kernel_rfl, by kernel_rfl, by kernel_rfl, by kernel_rfl, by kernel_rfl, by kernel_rfl, by kernel_rfl, by kernel_rfl, by kernel_rfl, by kernel_rfl, by kernel_rfl, by kernel_rfl, by kernel_rfl, by kernel_rfl, by kernel_rfl, by kernel_rfl, by kernel_rfl, by kernel_rfl, by kernel_rfl, by kernel_rfl, by kernel_rfl, by kernel_rfl⟩
abbrev L0 : List En := [ra].flatMap (comp 0)
abbrev L1 : List En := [ra].flatMap (comp 1)
abbrev L2 : List En := [ra].flatMap (comp 2)
abbrev fr14 : List UInt8 := List.replicate 14 0
abbrev x1 : Pk := ⟨1, 0, 0, 1, 3, 4, 4, fr14⟩
abbrev x2 : Pk := ⟨2, 0, 1, 2, 3, 5, 4, fr14⟩
theorem hG : wayM (lookT ⟨0, 7, 0, 0, -1⟩ L0).1 0 4 (Eth.enc 7 0 0 []).length = .snt 1 0 0 2 3 5 4 := by rfl
theorem hT1 : wayT (lookT ⟨1, 0, 3, 4, 0⟩ L1).1 x1 = .snt 2 0 1 2 3 5 4 := by rfl
theorem hT2 : wayT (lookT ⟨2, 0, 3, 5, 0⟩ L2).1 x2 = .del 3 5 5 := by rfl
theorem alive {G : Hp} : Con Try.prog G 77 [] [] (fun r B => r = .bool true ∧ B = []) := by
  refine Con.intro Try.func77 rfl (Nat.le_of_ble_eq_true (by kernel_rfl)) (by kernel_rfl) Try.results77 ?_
  intro H h
  ((try simp only [S, TY, reduceCtorEq, nq0, nq1, nq2, nq3, nq4, iq0, iq1, iq2, iq3, iq4, iq5, iq6, iq7, iq8]); (try (simp (disch := omega) only [W2, Int.cast_ofNat_Int]; (try simp only [S, TY, reduceCtorEq, nq0, nq1, nq2, nq3, nq4, iq0, iq1, iq2, iq3, iq4, iq5, iq6, iq7, iq8]))))
  iterate 40 (all_goals (try ((first
      | (((with_reducible show opMk _ _ _ _ _ _ _); refine mk_bytes (n := 14) (show apI Try.prog 33 = some (5, 1, 1) from by kernel_rfl) (show zro Try.prog 5 = some (.int .u8 0) from by kernel_rfl) rfl (by omega) (by omega) (fun b hb hg => ?_); (have h' := h.newsl (e := 5) (sz := 1) (n := 14) (xs := bv fr14) hb hg rfl); skip))
      | ((with_reducible show CallsH _ _ 73 _ _ _); refine Con.lend_at [] [own 25 9 _ ([ra].flatMap Rw.l)] h [0] rfl (fun F hF hs => Table_ok _ (seps_own hs 0 rfl).left (by decide)) (fun r B H' hr h' => ?_); obtain ⟨p, rfl, rfl⟩ := hr; skip)
      | ((with_reducible show CallsH _ _ 78 _ _ _); (refine (DpG.Guest_ok (t := L0) (l := []) 7 0 0 (by decide) (by decide) (by decide) rds_nil (by decide) 0 4).at_ h [4] _ rfl (fun r B H' hr h' => ?_); unfold DpG.GuestR at hr; rw [if_pos (by decide), hG] at hr; obtain ⟨u, rfl, rfl⟩ := hr; obtain ⟨ua, un, uc, rfl, _, _⟩ := h'.sl 0 rfl Rd_own; skip))
      | ((with_reducible show CallsH _ _ 129 _ _ _); (with_reducible show CallsH _ _ _ #[_, .int .i64 1, _] _ _); refine Con.lend_at [tb _ L1] [own 5 1 _ (bv fr14)] h [7, 1] rfl (fun F hF hs => DpU.Tunnel_ok x1 (seps_own hs 0 rfl).left (by decide) (by decide) 1) (fun r B H' hr h' => ?_); unfold DpU.TuR at hr; rw [if_pos ⟨by rfl, by rfl⟩] at hr; obtain ⟨rv, rfl, hw⟩ := hr; (replace hw : WR (.snt 2 0 1 2 3 5 4) fr14 _ _ _ := hw); obtain ⟨z, -⟩ | ⟨-, u, rfl, rfl⟩ := hw; (cases z); obtain ⟨ba, bn, bc, rfl, hbn, _⟩ := h'.sl 0 rfl Rd_own; skip)
      | ((with_reducible show CallsH _ _ 129 _ _ _); (with_reducible show CallsH _ _ _ #[_, .int .i64 2, Value.agg #[.int .i64 2, _, _, _, _, _, _, _]] _ _); refine Con.lend_at [tb _ L2] [own 5 1 _ (bv fr14)] h [8, 1] rfl (fun F hF hs => DpU.Tunnel_ok x2 (seps_own hs 0 rfl).left (by decide) (by decide) 2) (fun r B H' hr h' => ?_); unfold DpU.TuR at hr; rw [if_pos ⟨by rfl, by rfl⟩] at hr; obtain ⟨rv, rfl, hw⟩ := hr; (replace hw : WR (.del 3 5 5) fr14 _ _ _ := hw); obtain ⟨z, -⟩ | ⟨-, u, rfl, rfl⟩ := hw; (cases z); obtain ⟨ca, cn, cc, rfl, hcn, _⟩ := h'.sl 0 rfl Rd_own; obtain rfl : 14 = cn := (by rw [bv_length] at hcn; simp at hcn; omega); skip)
      | ((with_reducible show CallsH _ _ 129 _ _ _); (with_reducible show CallsH _ _ _ #[_, .int .i64 2, Value.agg #[.int .i64 1, _, _, _, _, _, _, _]] _ _); refine Con.lend_at [tb _ L2] [own 5 1 _ (bv fr14)] h [2, 5] rfl (fun F hF hs => DpU.Tunnel_ok x1 (seps_own hs 0 rfl).left (by decide) (by decide) 2) (fun r B H' hr h' => ?_); unfold DpU.TuR at hr; rw [if_neg (fun z => absurd z.2 (by decide))] at hr; obtain ⟨rfl, rfl⟩ := hr; skip)
      | ((with_reducible show fin _ _ _); first | (exact fin_take (B := []) h ⟨rfl, rfl⟩))
      | ((with_reducible show New _ _ _); first | (refine New_sl h 9 rfl (fun b H' h' => ?_); skip) | (refine New_qsl h 9 rfl (fun b => rfl) (fun b H' h' => ?_); skip) | (refine New_ob h (fun b H' h' => ?_); skip) | (refine New_qob h (fun b H' h' => ?_); skip))
      | ((with_reducible show St _ _); first | (refine sg.st (h.front 0) rfl rfl (fun H' h' => ?_); skip) | (refine sg.st (h.front 1) rfl rfl (fun H' h' => ?_); skip) | (refine sg.st (h.front 2) rfl rfl (fun H' h' => ?_); skip) | (refine sg.st (h.front 3) rfl rfl (fun H' h' => ?_); skip) | (refine sg.st (h.front 4) rfl rfl (fun H' h' => ?_); skip) | (refine sg.st (h.front 5) rfl rfl (fun H' h' => ?_); skip) | (refine sg.st (h.front 6) rfl rfl (fun H' h' => ?_); skip) | (refine sg.st (h.front 7) rfl rfl (fun H' h' => ?_); skip) | (refine sg.st (h.front 8) rfl rfl (fun H' h' => ?_); skip) | (refine sg.st (h.front 9) rfl rfl (fun H' h' => ?_); skip) | (refine sg.st (h.front 10) rfl rfl (fun H' h' => ?_); skip) | (refine sg.st (h.front 11) rfl rfl (fun H' h' => ?_); skip) | (refine sg.st (h.front 12) rfl rfl (fun H' h' => ?_); skip) | (refine sg.st (h.front 13) rfl rfl (fun H' h' => ?_); skip))
      | ((with_reducible show Gate _ _ _); refine Gate.intro (fun g => ?_) (fun g => ?_) <;> (try subst g))
      ) <;> ((try ((try simp only [row, En.l, Ky.l, Ac.l, Rw.l, front_eq] at h'); (try simp only [front_eq, fronts_nil, fronts_cons, List.getElem?_cons_zero, List.getElem?_cons_succ, List.eraseIdx_cons_zero, List.eraseIdx_cons_succ, List.cons_append, List.nil_append, putL_cons, putL_nil, List.set_cons_zero, List.set_cons_succ, Nat.reduceAdd] at h'); clear h; have h := h'; clear h'; (try have fc := h.ci 0 rfl); (try have fl := h.li 0 rfl); (try have fc := h.ci 1 rfl); (try have fl := h.li 1 rfl); (try have fc := h.ci 2 rfl); (try have fl := h.li 2 rfl); (try have fc := h.ci 3 rfl); (try have fl := h.li 3 rfl); (try have fc := h.ci 4 rfl); (try have fl := h.li 4 rfl); (try have fc := h.ci 5 rfl); (try have fl := h.li 5 rfl); (try have fc := h.ci 6 rfl); (try have fl := h.li 6 rfl); (try have fc := h.ci 7 rfl); (try have fl := h.li 7 rfl); (try have fc := h.ci 8 rfl); (try have fl := h.li 8 rfl); (try have fc := h.ci 9 rfl); (try have fl := h.li 9 rfl); (try have fc := h.ci 10 rfl); (try have fl := h.li 10 rfl); (try have fc := h.ci 11 rfl); (try have fl := h.li 11 rfl); (try have fc := h.ci 12 rfl); (try have fl := h.li 12 rfl); (try have fc := h.ci 13 rfl); (try have fl := h.li 13 rfl))); ((try simp only [S, TY, reduceCtorEq, nq0, nq1, nq2, nq3, nq4, iq0, iq1, iq2, iq3, iq4, iq5, iq6, iq7, iq8, *]); (try (simp (disch := omega) only [W2, Int.cast_ofNat_Int]; (try simp only [S, TY, reduceCtorEq, nq0, nq1, nq2, nq3, nq4, iq0, iq1, iq2, iq3, iq4, iq5, iq6, iq7, iq8, *]))))))))
  simp only [List.append]
  have f1 := h.li 3 rfl
  have f2 := h.li 6 rfl
  have f3 := h.li 9 rfl
  have e1 := h.ci 3 rfl
  have e2 := h.ci 6 rfl
  have e3 := h.ci 9 rfl
  ((try simp only [S, TY, reduceCtorEq, nq0, nq1, nq2, nq3, nq4, iq0, iq1, iq2, iq3, iq4, iq5, iq6, iq7, iq8, f1, f2, f3, e1, e2, e3]); (try (simp (disch := omega) only [W2, Int.cast_ofNat_Int]; (try simp only [S, TY, reduceCtorEq, nq0, nq1, nq2, nq3, nq4, iq0, iq1, iq2, iq3, iq4, iq5, iq6, iq7, iq8, f1, f2, f3, e1, e2, e3]))))
  exact fin_take (B := []) h ⟨rfl, rfl⟩
end Go.Proofs.Ytfjmejideoklpaa.DpL
