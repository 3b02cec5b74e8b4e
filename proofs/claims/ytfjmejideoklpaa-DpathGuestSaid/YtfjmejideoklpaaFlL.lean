/- The law on what tables tell. -/
import Derived.Test.YtfjmejideoklpaaFlD
set_option linter.unusedVariables false
set_option linter.unusedSimpArgs false
set_option maxRecDepth 10000
set_option maxHeartbeats 1000000
namespace Go.Proofs.Ytfjmejideoklpaa.FlL
open Go Go.Sl Go.Proofs Go.Proofs.Ytfjmejideoklpaa.So Go.Proofs.Ytfjmejideoklpaa.SoI Go.Proofs.Ytfjmejideoklpaa.SoR Go.Proofs.Ytfjmejideoklpaa.SoM Go.Proofs.Ytfjmejideoklpaa.SoS Go.Proofs.Ytfjmejideoklpaa.Fl Go.Proofs.Ytfjmejideoklpaa.FlT Go.Proofs.Ytfjmejideoklpaa.FlD
theorem TY : aggN Try.prog 3 = some none ∧
  aggN Try.prog 34 = some none ∧
  aggN Try.prog 56 = some none ∧
  aggN Try.prog 58 = some (some 5) ∧
  aggN Try.prog 59 = some none ∧
  aggN Try.prog 66 = some (some 4) ∧
  aggN Try.prog 80 = some (some 11) ∧
  apI Try.prog 56 = some (80, 11, 88) ∧
  bIs Try.prog 58 = true ∧
  bIs Try.prog 66 = true ∧
  bIs Try.prog 80 = true ∧
  csz Try.prog 3 = some 1 ∧
  csz Try.prog 34 = some 1 ∧
  csz Try.prog 56 = some 1 ∧
  csz Try.prog 58 = some 5 ∧
  csz Try.prog 59 = some 1 ∧
  csz Try.prog 66 = some 4 ∧
  csz Try.prog 80 = some 11 ∧
  eqF Try.prog 58 = some [.i, .i, .i, .i, .i] ∧
  eqF Try.prog 66 = some [.i, .i, .i, .i] ∧
  eqF Try.prog 80 = some [.i, .i, .i, .i, .i, .i, .i, .i, .i, .i, .i] ∧
  fIs Try.prog 66 0 = true ∧
  fIs Try.prog 66 2 = true ∧
  fOff Try.prog 66 0 = 0 ∧
  fOff Try.prog 66 2 = 2 ∧
  fTy Try.prog 66 0 = 3 ∧
  fTy Try.prog 66 2 = 3 ∧
  goes Try.prog 36 = true ∧
  goes Try.prog 39 = true ∧
  goes Try.prog 42 = true ∧
  goes Try.prog 44 = true ∧
  inIs Try.prog 3 = some .i64 ∧
  inIs Try.prog 34 = some .i64 ∧
  plcs Try.prog 58 = [(0, 1), (1, 1), (2, 1), (3, 1), (4, 1)] ∧
  plcs Try.prog 66 = [(0, 1), (1, 1), (2, 1), (3, 1)] ∧
  plcs Try.prog 80 = [(0, 1), (1, 1), (2, 1), (3, 1), (4, 1), (5, 1), (6, 1), (7, 4)] ∧
  ptIs Try.prog 59 = true ∧
  slEl Try.prog 56 = 80 ∧
  slIs Try.prog 56 = true ∧
  slSz Try.prog 56 = 11 ∧
  zcs Try.prog 58 = [.int .i64 0, .int .u64 0, .int .i64 0, .int .i64 0, .int .i64 0] ∧
  zcs Try.prog 66 = [.int .i64 0, .int .i64 0, .int .i64 0, .int .i64 0] ∧
  zcs Try.prog 80 = [.int .i64 0, .int .i64 0, .int .u64 0, .int .i64 0, .int .i64 0, .int .i64 0, .int .i64 0, .int .i64 0, .int .i64 0, .int .i64 0, .int .i64 0] ∧
  zro Try.prog 3 = some (.int .i64 0) ∧
  zro Try.prog 34 = some (.int .i64 0) ∧
  zro Try.prog 56 = some (.slice none 0 0) ∧
  zro Try.prog 58 = some (.agg #[.int .i64 0, .int .u64 0, .int .i64 0, .int .i64 0, .int .i64 0]) ∧
  zro Try.prog 59 = some (.pointer none) ∧
  zro Try.prog 66 = some (.agg #[.int .i64 0, .int .i64 0, .int .i64 0, .int .i64 0]) ∧
  zro Try.prog 80 = some (.agg #[.int .i64 0, .int .i64 0, .int .u64 0, .int .i64 0, .int .i64 0, .int .i64 0, .int .i64 0, .int .i64 0, .int .i64 0, .int .i64 0, .int .i64 0]) :=
  ⟨by kernel_rfl, by kernel_rfl, by kernel_rfl, by kernel_rfl, by kernel_rfl, by kernel_rfl, by kernel_rfl, by kernel_rfl, by kernel_rfl, by kernel_rfl, by kernel_rfl, by kernel_rfl, by kernel_rfl, by kernel_rfl, by kernel_rfl, by kernel_rfl, by kernel_rfl, by kernel_rfl, by kernel_rfl, by kernel_rfl, by kernel_rfl, by kernel_rfl, by kernel_rfl, by kernel_rfl, by kernel_rfl, by kernel_rfl, by kernel_rfl, by kernel_rfl, by kernel_rfl, by kernel_rfl, by kernel_rfl, by kernel_rfl, by kernel_rfl, by kernel_rfl, by kernel_rfl, by kernel_rfl, by kernel_rfl, by kernel_rfl, by kernel_rfl, by kernel_rfl, by kernel_rfl, by kernel_rfl, by kernel_rfl, by kernel_rfl, by kernel_rfl, by kernel_rfl, by kernel_rfl, by kernel_rfl, by kernel_rfl, by kernel_rfl⟩
theorem hk1 : goes Try.prog 117 = true := by kernel_rfl
theorem hk2 : goes Try.prog 120 = true := by kernel_rfl
theorem NewR_yes {l : List En} (h : l.length ≤ 256) {r : Value} {B : List Asn} (hr : NewR l r B) : ∃ p, r = .tuple #[.pointer (some ⟨p, 0, none⟩), .int .i64 0] ∧ B = [tb p l] := by
  unfold NewR at hr
  rwa [if_pos h] at hr
theorem NewR_no {l : List En} (h : ¬ l.length ≤ 256) {r : Value} {B : List Asn} (hr : NewR l r B) : r = .tuple #[.pointer none, .int .i64 3] ∧ B = [] := by
  unfold NewR at hr
  rwa [if_neg h] at hr
abbrev ea : En := ⟨1, 3, 7, 2, 0, 9, -2, 1, 2, 0, 0⟩
abbrev eb : En := ⟨5, 2, 0, 2, 0, 4, 3, 2, 0, 6, 0⟩
theorem alive {G : Hp} : Con Try.prog G 35 [] [] (fun r B => r = .bool true ∧ B = []) := by
  have e1 : lookT ⟨1, 0, 2, 4, 0⟩ [ea, eb] = (⟨2, 0, 6, 0⟩, true) := by decide
  have e2 : lookT ⟨1, 0, 2, 4, 3⟩ [ea, eb] = (⟨1, 2, 0, 0⟩, true) := by decide
  have e3 : lookT ⟨2, 0, 2, 0, 0⟩ [ea, eb] = (⟨0, 0, 0, 0⟩, false) := by decide
  have e4 : fits ⟨0, 7, 0, 0, -1⟩ ea = true := by decide
  refine Con.intro Try.func35 rfl (Nat.le_of_ble_eq_true (by kernel_rfl)) (by kernel_rfl) Try.results35 ?_
  intro H h
  ((try simp only [S, TY, reduceCtorEq, Nat.reduceEqDiff, Nat.reduceAdd, Nat.reduceLeDiff, Nat.reduceBEq, Nat.reduceMul, Int.reduceBEq, Int.reduceEq, Int.reduceLT, Int.reduceLE, Int.reduceAdd, Int.reduceSub, Int.reduceMul, Int.reduceToNat, Int.cast_ofNat_Int]); (try (simp (disch := omega) only [W2, Int.cast_ofNat_Int]; (try simp only [S, TY, reduceCtorEq, Nat.reduceEqDiff, Nat.reduceAdd, Nat.reduceLeDiff, Nat.reduceBEq, Nat.reduceMul, Int.reduceBEq, Int.reduceEq, Int.reduceLT, Int.reduceLE, Int.reduceAdd, Int.reduceSub, Int.reduceMul, Int.reduceToNat, Int.cast_ofNat_Int]))))
  iterate 40 (all_goals (try ((first
      | ((with_reducible show CallsH _ _ 36 _ _ _); refine Con.lend_at [] [own 80 11 _ ([ea, eb].flatMap En.l)] h [0] rfl (fun F hF hs => New_ok hk1 (seps_own hs 0 rfl).left (by simp)) (fun r B H' hr h' => ?_); obtain ⟨p, rfl, rfl⟩ := NewR_yes (by simp) hr; clear hr; skip)
      | ((with_reducible show CallsH _ _ 39 _ _ _); (with_reducible show CallsH _ _ _ #[_, Value.agg #[.int .i64 1, _, _, .int .i64 4, .int .i64 0]] _ _); refine (Look_ok (l := [ea, eb]) hk2 ⟨1, 0, 2, 4, 0⟩ (by simp)).at_ h [0] _ rfl (fun r B H' hr h' => ?_); obtain ⟨rfl, rfl⟩ := hr; rw [e1]; skip)
      | ((with_reducible show CallsH _ _ 39 _ _ _); (with_reducible show CallsH _ _ _ #[_, Value.agg #[.int .i64 1, _, _, .int .i64 4, .int .i64 3]] _ _); refine (Look_ok (l := [ea, eb]) hk2 ⟨1, 0, 2, 4, 3⟩ (by simp)).at_ h [1] _ rfl (fun r B H' hr h' => ?_); obtain ⟨rfl, rfl⟩ := hr; rw [e2]; skip)
      | ((with_reducible show CallsH _ _ 39 _ _ _); (with_reducible show CallsH _ _ _ #[_, Value.agg #[.int .i64 2, _, _, .int .i64 0, .int .i64 0]] _ _); refine (Look_ok (l := [ea, eb]) hk2 ⟨2, 0, 2, 0, 0⟩ (by simp)).at_ h [1] _ rfl (fun r B H' hr h' => ?_); obtain ⟨rfl, rfl⟩ := hr; rw [e3]; skip)
      | ((with_reducible show CallsH _ _ 42 _ _ _); refine (Entries_ok (l := [ea, eb]) (by simp)).at_ h [1] _ rfl (fun r B H' hr h' => ?_); subst hr; obtain ⟨ua, un, uc, rfl, hun, _⟩ := h'.sl 0 rfl Rd_own; obtain rfl : 2 = un := (by simp at hun; omega); skip)
      | ((with_reducible show CallsH _ _ 44 _ _ _); refine (Fits_ok ea ⟨0, 7, 0, 0, -1⟩).at_ h [] _ rfl (fun r B H' hr h' => ?_); obtain ⟨rfl, rfl⟩ := hr; rw [e4]; skip)
      | ((with_reducible show fin _ _ _); first | (exact fin_take (B := []) h ⟨rfl, rfl⟩))
      | ((with_reducible show New _ _ _); first | (refine New_sl h 11 rfl (fun b H' h' => ?_); skip) | (refine New_qsl h 11 rfl (fun b => rfl) (fun b H' h' => ?_); skip) | (refine New_ob h (fun b H' h' => ?_); skip) | (refine New_qob h (fun b H' h' => ?_); skip))
      | ((with_reducible show St _ _); first | (refine sg.st (h.front 0) rfl rfl (fun H' h' => ?_); skip) | (refine sg.st (h.front 1) rfl rfl (fun H' h' => ?_); skip) | (refine sg.st (h.front 2) rfl rfl (fun H' h' => ?_); skip) | (refine sg.st (h.front 3) rfl rfl (fun H' h' => ?_); skip) | (refine sg.st (h.front 4) rfl rfl (fun H' h' => ?_); skip) | (refine sg.st (h.front 5) rfl rfl (fun H' h' => ?_); skip) | (refine sg.st (h.front 6) rfl rfl (fun H' h' => ?_); skip) | (refine sg.st (h.front 7) rfl rfl (fun H' h' => ?_); skip))
      | ((with_reducible show Gate _ _ _); refine Gate.intro (fun g => ?_) (fun g => ?_) <;> (try subst g))
      ) <;> ((try ((try simp only [row, En.l, Ky.l, Ac.l, front_eq] at h'); (try simp only [front_eq, fronts_nil, fronts_cons, List.getElem?_cons_zero, List.getElem?_cons_succ, List.eraseIdx_cons_zero, List.eraseIdx_cons_succ, List.cons_append, List.nil_append, putL_cons, putL_nil, List.set_cons_zero, List.set_cons_succ, Nat.reduceAdd] at h'); clear h; have h := h'; clear h'; (try have fc := h.ci 0 rfl); (try have fl := h.li 0 rfl); (try have fc := h.ci 1 rfl); (try have fl := h.li 1 rfl); (try have fc := h.ci 2 rfl); (try have fl := h.li 2 rfl); (try have fc := h.ci 3 rfl); (try have fl := h.li 3 rfl); (try have fc := h.ci 4 rfl); (try have fl := h.li 4 rfl); (try have fc := h.ci 5 rfl); (try have fl := h.li 5 rfl); (try have fc := h.ci 6 rfl); (try have fl := h.li 6 rfl); (try have fc := h.ci 7 rfl); (try have fl := h.li 7 rfl))); ((try simp only [S, TY, reduceCtorEq, Nat.reduceEqDiff, Nat.reduceAdd, Nat.reduceLeDiff, Nat.reduceBEq, Nat.reduceMul, Int.reduceBEq, Int.reduceEq, Int.reduceLT, Int.reduceLE, Int.reduceAdd, Int.reduceSub, Int.reduceMul, Int.reduceToNat, Int.cast_ofNat_Int, *]); (try (simp (disch := omega) only [W2, Int.cast_ofNat_Int]; (try simp only [S, TY, reduceCtorEq, Nat.reduceEqDiff, Nat.reduceAdd, Nat.reduceLeDiff, Nat.reduceBEq, Nat.reduceMul, Int.reduceBEq, Int.reduceEq, Int.reduceLT, Int.reduceLE, Int.reduceAdd, Int.reduceSub, Int.reduceMul, Int.reduceToNat, Int.cast_ofNat_Int, *]))))))))
end Go.Proofs.Ytfjmejideoklpaa.FlL
