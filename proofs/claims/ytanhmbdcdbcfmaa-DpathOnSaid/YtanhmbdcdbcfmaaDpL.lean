/- What becomes of frames: the laws' live question. -/
import Derived.Test.YtanhmbdcdbcfmaaDpD
import Derived.Test.YtanhmbdcdbcfmaaBiD
set_option linter.unusedVariables false
set_option linter.unusedSimpArgs false
set_option maxRecDepth 10000
set_option maxHeartbeats 2000000
namespace Go.Proofs.Ytanhmbdcdbcfmaa.DpL
open Nat renaming reduceEqDiff → nq0, reduceAdd → nq1, reduceLeDiff → nq2, reduceBEq → nq3, reduceMul → nq4
open Int renaming reduceBEq → iq0, reduceEq → iq1, reduceLT → iq2, reduceLE → iq3, reduceAdd → iq4, reduceSub → iq5, reduceMul → iq6, reduceToNat → iq7, cast_ofNat_Int → iq8
open Go Go.Sl Go.Proofs Go.Proofs.Ytanhmbdcdbcfmaa.SoI Go.Proofs.Ytanhmbdcdbcfmaa.SoM Go.Proofs.Ytanhmbdcdbcfmaa.Fl Go.Proofs.Ytanhmbdcdbcfmaa.FlT Go.Proofs.Ytanhmbdcdbcfmaa.TunP Go.Proofs.Ytanhmbdcdbcfmaa.TunD Go.Proofs.Ytanhmbdcdbcfmaa.TunA Go.Proofs.Ytanhmbdcdbcfmaa.Dp Go.Proofs.Ytanhmbdcdbcfmaa.DpG Go.Proofs.Ytanhmbdcdbcfmaa.DpT Go.Proofs.Ytanhmbdcdbcfmaa.DpU Go.Proofs.Ytanhmbdcdbcfmaa.DpD Go.Proofs.Ytanhmbdcdbcfmaa.Ph Go.Proofs.Ytanhmbdcdbcfmaa.BiC Go.Proofs.Ytanhmbdcdbcfmaa.BiD
theorem TY : aggN Try.prog 3 = some none ∧
  aggN Try.prog 5 = some none ∧
  aggN Try.prog 23 = some none ∧
  aggN Try.prog 24 = some none ∧
  aggN Try.prog 26 = some (some 8) ∧
  aggN Try.prog 29 = some none ∧
  aggN Try.prog 30 = some none ∧
  aggN Try.prog 34 = some (some 13) ∧
  aggN Try.prog 46 = some none ∧
  aggN Try.prog 51 = some (some 4) ∧
  aggN Try.prog 191 = some (some 9) ∧
  apI Try.prog 24 = some (5, 1, 1) ∧
  apI Try.prog 46 = some (191, 9, 72) ∧
  bIs Try.prog 26 = true ∧
  bIs Try.prog 34 = true ∧
  bIs Try.prog 51 = true ∧
  bIs Try.prog 191 = true ∧
  bySl Try.prog 24 = true ∧
  csz Try.prog 3 = some 1 ∧
  csz Try.prog 5 = some 1 ∧
  csz Try.prog 23 = some 1 ∧
  csz Try.prog 24 = some 1 ∧
  csz Try.prog 26 = some 8 ∧
  csz Try.prog 29 = some 1 ∧
  csz Try.prog 30 = some 1 ∧
  csz Try.prog 34 = some 13 ∧
  csz Try.prog 46 = some 1 ∧
  csz Try.prog 51 = some 4 ∧
  csz Try.prog 191 = some 9 ∧
  eqF Try.prog 191 = some [.i, .i, .i, .i, .i, .i, .i, .i, .i] ∧
  fIs Try.prog 26 0 = true ∧
  fIs Try.prog 26 2 = true ∧
  fIs Try.prog 26 3 = true ∧
  fIs Try.prog 26 5 = true ∧
  fIs Try.prog 34 0 = true ∧
  fIs Try.prog 34 2 = true ∧
  fIs Try.prog 34 3 = true ∧
  fIs Try.prog 34 4 = true ∧
  fIs Try.prog 34 5 = true ∧
  fOff Try.prog 26 0 = 0 ∧
  fOff Try.prog 26 2 = 2 ∧
  fOff Try.prog 26 3 = 3 ∧
  fOff Try.prog 26 5 = 5 ∧
  fOff Try.prog 34 0 = 0 ∧
  fOff Try.prog 34 2 = 2 ∧
  fOff Try.prog 34 3 = 3 ∧
  fOff Try.prog 34 4 = 4 ∧
  fOff Try.prog 34 5 = 5 ∧
  fTy Try.prog 26 0 = 23 ∧
  fTy Try.prog 26 2 = 3 ∧
  fTy Try.prog 26 3 = 3 ∧
  fTy Try.prog 26 5 = 3 ∧
  fTy Try.prog 34 0 = 3 ∧
  fTy Try.prog 34 2 = 3 ∧
  fTy Try.prog 34 3 = 3 ∧
  fTy Try.prog 34 4 = 24 ∧
  fTy Try.prog 34 5 = 26 ∧
  goes Try.prog 18 = true ∧
  goes Try.prog 27 = true ∧
  goes Try.prog 28 = true ∧
  inIs Try.prog 3 = some .i64 ∧
  inIs Try.prog 5 = some .u8 ∧
  inIs Try.prog 23 = some .i64 ∧
  inIs Try.prog 30 = some .i64 ∧
  plcs Try.prog 26 = [(0, 1), (1, 1), (2, 1), (3, 1), (4, 1), (5, 1), (6, 1), (7, 1)] ∧
  plcs Try.prog 34 = [(0, 1), (1, 1), (2, 1), (3, 1), (4, 1), (5, 8)] ∧
  plcs Try.prog 51 = [(0, 1), (1, 1), (2, 1), (3, 1)] ∧
  plcs Try.prog 191 = [(0, 1), (1, 1), (2, 1), (3, 1), (4, 1), (5, 1), (6, 1), (7, 1), (8, 1)] ∧
  ptIs Try.prog 29 = true ∧
  slEl Try.prog 24 = 5 ∧
  slEl Try.prog 46 = 191 ∧
  slIs Try.prog 24 = true ∧
  slIs Try.prog 46 = true ∧
  slSz Try.prog 24 = 1 ∧
  slSz Try.prog 46 = 9 ∧
  zcs Try.prog 26 = [.int .i64 0, .int .i64 0, .int .i64 0, .int .i64 0, .int .i64 0, .int .i64 0, .int .i64 0, .slice none 0 0] ∧
  zcs Try.prog 34 = [.int .i64 0, .int .i64 0, .int .i64 0, .int .i64 0, .slice none 0 0, .int .i64 0, .int .i64 0, .int .i64 0, .int .i64 0, .int .i64 0, .int .i64 0, .int .i64 0, .slice none 0 0] ∧
  zcs Try.prog 51 = [.int .u64 0, .int .u64 0, .int .i64 0, .slice none 0 0] ∧
  zcs Try.prog 191 = [.int .i64 0, .int .u64 0, .int .i64 0, .int .i64 0, .int .i64 0, .int .i64 0, .int .i64 0, .int .i64 0, .int .i64 0] ∧
  zro Try.prog 3 = some (.int .i64 0) ∧
  zro Try.prog 5 = some (.int .u8 0) ∧
  zro Try.prog 23 = some (.int .i64 0) ∧
  zro Try.prog 24 = some (.slice none 0 0) ∧
  zro Try.prog 26 = some (.agg #[.int .i64 0, .int .i64 0, .int .i64 0, .int .i64 0, .int .i64 0, .int .i64 0, .int .i64 0, .slice none 0 0]) ∧
  zro Try.prog 29 = some (.pointer none) ∧
  zro Try.prog 30 = some (.int .i64 0) ∧
  zro Try.prog 34 = some (.agg #[.int .i64 0, .int .i64 0, .int .i64 0, .int .i64 0, .slice none 0 0, .int .i64 0, .int .i64 0, .int .i64 0, .int .i64 0, .int .i64 0, .int .i64 0, .int .i64 0, .slice none 0 0]) ∧
  zro Try.prog 46 = some (.slice none 0 0) ∧
  zro Try.prog 51 = some (.agg #[.int .u64 0, .int .u64 0, .int .i64 0, .slice none 0 0]) ∧
  zro Try.prog 191 = some (.agg #[.int .i64 0, .int .u64 0, .int .i64 0, .int .i64 0, .int .i64 0, .int .i64 0, .int .i64 0, .int .i64 0, .int .i64 0]) :=
  ⟨by kernel_rfl, by kernel_rfl, by kernel_rfl, by kernel_rfl, by kernel_rfl, by kernel_rfl, by kernel_rfl, by kernel_rfl, by kernel_rfl, by kernel_rfl, by kernel_rfl, by kernel_rfl, by kernel_rfl, by kernel_rfl, by kernel_rfl, by kernel_rfl, by kernel_rfl, by kernel_rfl, by kernel_rfl, by kernel_rfl, by kernel_rfl, by kernel_rfl, by kernel_rfl, by kernel_rfl, by kernel_rfl, by kernel_rfl, by kernel_rfl, by kernel_rfl, by kernel_rfl, by kernel_rfl, by kernel_rfl, by kernel_rfl, by kernel_rfl, by kernel_rfl, by kernel_rfl, by kernel_rfl, by kernel_rfl, by kernel_rfl, by kernel_rfl, by kernel_rfl, by kernel_rfl, by kernel_rfl, by kernel_rfl, by kernel_rfl, by kernel_rfl, by kernel_rfl, by kernel_rfl, by kernel_rfl, by kernel_rfl, by kernel_rfl, by kernel_rfl, by kernel_rfl, by kernel_rfl, by kernel_rfl, by kernel_rfl, by kernel_rfl, by kernel_rfl, by kernel_rfl, by kernel_rfl, by kernel_rfl, by kernel_rfl, by kernel_rfl, by kernel_rfl, by kernel_rfl, by kernel_rfl, by kernel_rfl, by kernel_rfl, by kernel_rfl, by kernel_rfl, by kernel_rfl, by kernel_rfl, by kernel_rfl, by kernel_rfl, by kernel_rfl, by kernel_rfl, by kernel_rfl, by kernel_rfl, by kernel_rfl, by kernel_rfl, by kernel_rfl, by kernel_rfl, by kernel_rfl, by kernel_rfl, by kernel_rfl, by kernel_rfl, by kernel_rfl, by kernel_rfl, by kernel_rfl, by kernel_rfl, by kernel_rfl⟩
abbrev L0 : List En := [ra].flatMap (comp 0)
abbrev L1 : List En := [ra].flatMap (comp 1)
abbrev L2 : List En := [ra].flatMap (comp 2)
abbrev fr14 : List UInt8 := List.replicate 14 0
abbrev x1 : Pk := ⟨1, 0, 0, 1, 3, 4, 4, fr14⟩
abbrev x2 : Pk := ⟨2, 0, 1, 2, 3, 5, 4, fr14⟩
theorem hG : wayM (lookT ⟨0, 7, 0, 0, -1⟩ L0).1 0 4 (Eth.enc 7 0 0 []).length = .snt 1 0 0 2 3 5 4 := by rfl
theorem hT1 : wayT (lookT ⟨1, 0, 3, 4, 0⟩ L1).1 x1 = .snt 2 0 1 2 3 5 4 := by rfl
theorem hT2 : wayT (lookT ⟨2, 0, 3, 5, 0⟩ L2).1 x2 = .del 3 5 5 := by rfl
theorem alive {G : Hp} : Con Try.prog G 16 [] [] (fun r B => r = .bool true ∧ B = []) := by
  refine Con.intro Try.func16 rfl (Nat.le_of_ble_eq_true (by kernel_rfl)) (by kernel_rfl) Try.results16 ?_
  intro H h
  ((try simp only [S, TY, reduceCtorEq, nq0, nq1, nq2, nq3, nq4, iq0, iq1, iq2, iq3, iq4, iq5, iq6, iq7, iq8]); (try (simp (disch := omega) only [W2, Int.cast_ofNat_Int]; (try simp only [S, TY, reduceCtorEq, nq0, nq1, nq2, nq3, nq4, iq0, iq1, iq2, iq3, iq4, iq5, iq6, iq7, iq8]))))
  iterate 40 (all_goals (try ((first
      | (((with_reducible show opMk _ _ _ _ _ _ _); refine mk_bytes (n := 14) (show apI Try.prog 24 = some (5, 1, 1) from by kernel_rfl) (show zro Try.prog 5 = some (.int .u8 0) from by kernel_rfl) rfl (by omega) (by omega) (fun b hb hg => ?_); (have h' := h.newsl (e := 5) (sz := 1) (n := 14) (xs := bv fr14) hb hg rfl); skip))
      | ((with_reducible show CallsH _ _ 27 _ _ _); refine Con.lend_at [] [own 191 9 _ ([ra].flatMap Rw.l)] h [0] rfl (fun F hF hs => Table_ok _ (seps_own hs 0 rfl).left (by decide)) (fun r B H' hr h' => ?_); obtain ⟨p, rfl, rfl⟩ := hr; skip)
      | ((with_reducible show CallsH _ _ 28 _ _ _); (refine (DpG.Guest_ok (t := L0) (l := []) 7 0 0 (by decide) (by decide) (by decide) rds_nil (by decide) 0 4).at_ h [4] _ rfl (fun r B H' hr h' => ?_); unfold DpG.GuestR at hr; rw [if_pos (by decide), hG] at hr; obtain ⟨u, rfl, rfl⟩ := hr; obtain ⟨ua, un, uc, rfl, _, _⟩ := h'.sl 0 rfl Rd_own; skip))
      | ((with_reducible show CallsH _ _ 18 _ _ _); (with_reducible show CallsH _ _ _ #[_, .int .i64 1, _] _ _); refine Con.lend_at [tb _ L1] [own 5 1 _ (bv fr14)] h [7, 1] rfl (fun F hF hs => DpU.Tunnel_ok x1 (seps_own hs 0 rfl).left (by decide) (by decide) 1) (fun r B H' hr h' => ?_); unfold DpU.TuR at hr; rw [if_pos ⟨by rfl, by rfl⟩] at hr; obtain ⟨rv, rfl, hw⟩ := hr; (replace hw : WR (.snt 2 0 1 2 3 5 4) fr14 _ _ _ := hw); obtain ⟨z, -⟩ | ⟨-, u, rfl, rfl⟩ := hw; (cases z); obtain ⟨ba, bn, bc, rfl, hbn, _⟩ := h'.sl 0 rfl Rd_own; skip)
      | ((with_reducible show CallsH _ _ 18 _ _ _); (with_reducible show CallsH _ _ _ #[_, .int .i64 2, Value.agg #[.int .i64 2, _, _, _, _, _, _, _]] _ _); refine Con.lend_at [tb _ L2] [own 5 1 _ (bv fr14)] h [8, 1] rfl (fun F hF hs => DpU.Tunnel_ok x2 (seps_own hs 0 rfl).left (by decide) (by decide) 2) (fun r B H' hr h' => ?_); unfold DpU.TuR at hr; rw [if_pos ⟨by rfl, by rfl⟩] at hr; obtain ⟨rv, rfl, hw⟩ := hr; (replace hw : WR (.del 3 5 5) fr14 _ _ _ := hw); obtain ⟨z, -⟩ | ⟨-, u, rfl, rfl⟩ := hw; (cases z); obtain ⟨ca, cn, cc, rfl, hcn, _⟩ := h'.sl 0 rfl Rd_own; obtain rfl : 14 = cn := (by rw [bv_length] at hcn; simp at hcn; omega); skip)
      | ((with_reducible show CallsH _ _ 18 _ _ _); (with_reducible show CallsH _ _ _ #[_, .int .i64 2, Value.agg #[.int .i64 1, _, _, _, _, _, _, _]] _ _); refine Con.lend_at [tb _ L2] [own 5 1 _ (bv fr14)] h [2, 5] rfl (fun F hF hs => DpU.Tunnel_ok x1 (seps_own hs 0 rfl).left (by decide) (by decide) 2) (fun r B H' hr h' => ?_); unfold DpU.TuR at hr; rw [if_neg (fun z => absurd z.2 (by decide))] at hr; obtain ⟨rfl, rfl⟩ := hr; skip)
      | ((with_reducible show fin _ _ _); first | (exact fin_take (B := []) h ⟨rfl, rfl⟩))
      | ((with_reducible show New _ _ _); first | (refine New_sl h 9 rfl (fun b H' h' => ?_); skip) | (refine New_qsl h 9 rfl (fun b => rfl) (fun b H' h' => ?_); skip) | (refine New_ob h (fun b H' h' => ?_); skip) | (refine New_qob h (fun b H' h' => ?_); skip))
      | ((with_reducible show St _ _); first | (refine sg.st (h.front 0) rfl rfl (fun H' h' => ?_); skip) | (refine sg.st (h.front 1) rfl rfl (fun H' h' => ?_); skip) | (refine sg.st (h.front 2) rfl rfl (fun H' h' => ?_); skip) | (refine sg.st (h.front 3) rfl rfl (fun H' h' => ?_); skip) | (refine sg.st (h.front 4) rfl rfl (fun H' h' => ?_); skip) | (refine sg.st (h.front 5) rfl rfl (fun H' h' => ?_); skip) | (refine sg.st (h.front 6) rfl rfl (fun H' h' => ?_); skip) | (refine sg.st (h.front 7) rfl rfl (fun H' h' => ?_); skip) | (refine sg.st (h.front 8) rfl rfl (fun H' h' => ?_); skip) | (refine sg.st (h.front 9) rfl rfl (fun H' h' => ?_); skip) | (refine sg.st (h.front 10) rfl rfl (fun H' h' => ?_); skip) | (refine sg.st (h.front 11) rfl rfl (fun H' h' => ?_); skip) | (refine sg.st (h.front 12) rfl rfl (fun H' h' => ?_); skip) | (refine sg.st (h.front 13) rfl rfl (fun H' h' => ?_); skip))
      | ((with_reducible show Gate _ _ _); refine Gate.intro (fun g => ?_) (fun g => ?_) <;> (try subst g))
      ) <;> ((try ((try simp only [row, En.l, Ky.l, Ac.l, Rw.l, front_eq] at h'); (try simp only [front_eq, fronts_nil, fronts_cons, List.getElem?_cons_zero, List.getElem?_cons_succ, List.eraseIdx_cons_zero, List.eraseIdx_cons_succ, List.cons_append, List.nil_append, putL_cons, putL_nil, List.set_cons_zero, List.set_cons_succ, Nat.reduceAdd] at h'); clear h; have h := h'; clear h'; (try have fc := h.ci 0 rfl); (try have fl := h.li 0 rfl); (try have fc := h.ci 1 rfl); (try have fl := h.li 1 rfl); (try have fc := h.ci 2 rfl); (try have fl := h.li 2 rfl); (try have fc := h.ci 3 rfl); (try have fl := h.li 3 rfl); (try have fc := h.ci 4 rfl); (try have fl := h.li 4 rfl); (try have fc := h.ci 5 rfl); (try have fl := h.li 5 rfl); (try have fc := h.ci 6 rfl); (try have fl := h.li 6 rfl); (try have fc := h.ci 7 rfl); (try have fl := h.li 7 rfl); (try have fc := h.ci 8 rfl); (try have fl := h.li 8 rfl); (try have fc := h.ci 9 rfl); (try have fl := h.li 9 rfl); (try have fc := h.ci 10 rfl); (try have fl := h.li 10 rfl); (try have fc := h.ci 11 rfl); (try have fl := h.li 11 rfl); (try have fc := h.ci 12 rfl); (try have fl := h.li 12 rfl); (try have fc := h.ci 13 rfl); (try have fl := h.li 13 rfl))); ((try simp only [S, TY, reduceCtorEq, nq0, nq1, nq2, nq3, nq4, iq0, iq1, iq2, iq3, iq4, iq5, iq6, iq7, iq8, *]); (try (simp (disch := omega) only [W2, Int.cast_ofNat_Int]; (try simp only [S, TY, reduceCtorEq, nq0, nq1, nq2, nq3, nq4, iq0, iq1, iq2, iq3, iq4, iq5, iq6, iq7, iq8, *]))))))))
  simp only [List.append]
  have f1 := h.li 3 rfl
  have f2 := h.li 6 rfl
  have f3 := h.li 9 rfl
  have e1 := h.ci 3 rfl
  have e2 := h.ci 6 rfl
  have e3 := h.ci 9 rfl
  ((try simp only [S, TY, reduceCtorEq, nq0, nq1, nq2, nq3, nq4, iq0, iq1, iq2, iq3, iq4, iq5, iq6, iq7, iq8, f1, f2, f3, e1, e2, e3]); (try (simp (disch := omega) only [W2, Int.cast_ofNat_Int]; (try simp only [S, TY, reduceCtorEq, nq0, nq1, nq2, nq3, nq4, iq0, iq1, iq2, iq3, iq4, iq5, iq6, iq7, iq8, f1, f2, f3, e1, e2, e3]))))
  exact fin_take (B := []) h ⟨rfl, rfl⟩
end Go.Proofs.Ytanhmbdcdbcfmaa.DpL
