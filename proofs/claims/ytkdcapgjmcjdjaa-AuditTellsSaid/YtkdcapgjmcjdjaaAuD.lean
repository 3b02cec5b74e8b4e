/- The document's audit, over the machine. -/
import Derived.Test.YtkdcapgjmcjdjaaAuP
set_option linter.unusedVariables false
set_option linter.unusedSimpArgs false
set_option maxRecDepth 10000
set_option maxHeartbeats 1000000
namespace Go.Proofs.Ytkdcapgjmcjdjaa.AuD
open Go Go.Sl Go.Proofs Go.Proofs.Ytkdcapgjmcjdjaa.Au Go.Proofs.Ytkdcapgjmcjdjaa.AuF Go.Proofs.Ytkdcapgjmcjdjaa.AuL Go.Proofs.Ytkdcapgjmcjdjaa.AuV Go.Proofs.Ytkdcapgjmcjdjaa.AuP
theorem TY : aggN Try.prog 3 = some none ∧
  aggN Try.prog 22 = some none ∧
  aggN Try.prog 29 = some none ∧
  aggN Try.prog 36 = some none ∧
  aggN Try.prog 38 = some (some 13) ∧
  aggN Try.prog 174 = some (some 13) ∧
  apI Try.prog 22 = some (38, 13, 104) ∧
  apI Try.prog 29 = some (174, 13, 104) ∧
  bIs Try.prog 38 = true ∧
  bIs Try.prog 174 = true ∧
  csz Try.prog 3 = some 1 ∧
  csz Try.prog 22 = some 1 ∧
  csz Try.prog 29 = some 1 ∧
  csz Try.prog 36 = some 1 ∧
  csz Try.prog 38 = some 13 ∧
  csz Try.prog 174 = some 13 ∧
  eqF Try.prog 38 = some [.i, .i, .i, .i, .i, .i, .i, .i, .i, .i, .i, .i, .i] ∧
  eqF Try.prog 174 = some [.i, .i, .i, .i, .i, .i, .i, .i, .i, .i, .i, .i, .i] ∧
  fIs Try.prog 38 0 = true ∧
  fIs Try.prog 38 1 = true ∧
  fIs Try.prog 38 2 = true ∧
  fIs Try.prog 38 3 = true ∧
  fIs Try.prog 38 4 = true ∧
  fIs Try.prog 38 5 = true ∧
  fIs Try.prog 38 6 = true ∧
  fIs Try.prog 38 7 = true ∧
  fIs Try.prog 38 8 = true ∧
  fIs Try.prog 38 9 = true ∧
  fIs Try.prog 38 10 = true ∧
  fIs Try.prog 38 11 = true ∧
  fIs Try.prog 38 12 = true ∧
  fIs Try.prog 174 0 = true ∧
  fIs Try.prog 174 2 = true ∧
  fIs Try.prog 174 5 = true ∧
  fIs Try.prog 174 7 = true ∧
  fIs Try.prog 174 8 = true ∧
  fIs Try.prog 174 9 = true ∧
  fOff Try.prog 38 0 = 0 ∧
  fOff Try.prog 38 1 = 1 ∧
  fOff Try.prog 38 2 = 2 ∧
  fOff Try.prog 38 3 = 3 ∧
  fOff Try.prog 38 4 = 4 ∧
  fOff Try.prog 38 5 = 5 ∧
  fOff Try.prog 38 6 = 6 ∧
  fOff Try.prog 38 7 = 7 ∧
  fOff Try.prog 38 8 = 8 ∧
  fOff Try.prog 38 9 = 9 ∧
  fOff Try.prog 38 10 = 10 ∧
  fOff Try.prog 38 11 = 11 ∧
  fOff Try.prog 38 12 = 12 ∧
  fOff Try.prog 174 0 = 0 ∧
  fOff Try.prog 174 2 = 2 ∧
  fOff Try.prog 174 5 = 5 ∧
  fOff Try.prog 174 7 = 7 ∧
  fOff Try.prog 174 8 = 8 ∧
  fOff Try.prog 174 9 = 9 ∧
  fTy Try.prog 38 0 = 3 ∧
  fTy Try.prog 38 1 = 3 ∧
  fTy Try.prog 38 2 = 3 ∧
  fTy Try.prog 38 3 = 3 ∧
  fTy Try.prog 38 4 = 3 ∧
  fTy Try.prog 38 5 = 36 ∧
  fTy Try.prog 38 6 = 3 ∧
  fTy Try.prog 38 7 = 3 ∧
  fTy Try.prog 38 8 = 3 ∧
  fTy Try.prog 38 9 = 3 ∧
  fTy Try.prog 38 10 = 3 ∧
  fTy Try.prog 38 11 = 3 ∧
  fTy Try.prog 38 12 = 3 ∧
  fTy Try.prog 174 0 = 3 ∧
  fTy Try.prog 174 2 = 3 ∧
  fTy Try.prog 174 5 = 36 ∧
  fTy Try.prog 174 7 = 3 ∧
  fTy Try.prog 174 8 = 3 ∧
  fTy Try.prog 174 9 = 3 ∧
  goes Try.prog 89 = true ∧
  inIs Try.prog 3 = some .i64 ∧
  inIs Try.prog 36 = some .i64 ∧
  plcs Try.prog 38 = [(0, 1), (1, 1), (2, 1), (3, 1), (4, 1), (5, 1), (6, 1), (7, 1), (8, 1), (9, 1), (10, 1), (11, 1), (12, 1)] ∧
  plcs Try.prog 174 = [(0, 1), (1, 1), (2, 1), (3, 1), (4, 1), (5, 1), (6, 1), (7, 1), (8, 1), (9, 1), (10, 1), (11, 1), (12, 1)] ∧
  slEl Try.prog 22 = 38 ∧
  slEl Try.prog 29 = 174 ∧
  slIs Try.prog 22 = true ∧
  slIs Try.prog 29 = true ∧
  slSz Try.prog 22 = 13 ∧
  slSz Try.prog 29 = 13 ∧
  zcs Try.prog 38 = [.int .i64 0, .int .i64 0, .int .i64 0, .int .i64 0, .int .i64 0, .int .i64 0, .int .i64 0, .int .i64 0, .int .i64 0, .int .i64 0, .int .i64 0, .int .i64 0, .int .i64 0] ∧
  zcs Try.prog 174 = [.int .i64 0, .int .i64 0, .int .i64 0, .int .i64 0, .int .i64 0, .int .i64 0, .int .i64 0, .int .i64 0, .int .i64 0, .int .i64 0, .int .i64 0, .int .i64 0, .int .i64 0] ∧
  zro Try.prog 3 = some (.int .i64 0) ∧
  zro Try.prog 22 = some (.slice none 0 0) ∧
  zro Try.prog 29 = some (.slice none 0 0) ∧
  zro Try.prog 36 = some (.int .i64 0) ∧
  zro Try.prog 38 = some (.agg #[.int .i64 0, .int .i64 0, .int .i64 0, .int .i64 0, .int .i64 0, .int .i64 0, .int .i64 0, .int .i64 0, .int .i64 0, .int .i64 0, .int .i64 0, .int .i64 0, .int .i64 0]) ∧
  zro Try.prog 174 = some (.agg #[.int .i64 0, .int .i64 0, .int .i64 0, .int .i64 0, .int .i64 0, .int .i64 0, .int .i64 0, .int .i64 0, .int .i64 0, .int .i64 0, .int .i64 0, .int .i64 0, .int .i64 0]) :=
  ⟨by kernel_rfl, by kernel_rfl, by kernel_rfl, by kernel_rfl, by kernel_rfl, by kernel_rfl, by kernel_rfl, by kernel_rfl, by kernel_rfl, by kernel_rfl, by kernel_rfl, by kernel_rfl, by kernel_rfl, by kernel_rfl, by kernel_rfl, by kernel_rfl, by kernel_rfl, by kernel_rfl, by kernel_rfl, by kernel_rfl, by kernel_rfl, by kernel_rfl, by kernel_rfl, by kernel_rfl, by kernel_rfl, by kernel_rfl, by kernel_rfl, by kernel_rfl, by kernel_rfl, by kernel_rfl, by kernel_rfl, by kernel_rfl, by kernel_rfl, by kernel_rfl, by kernel_rfl, by kernel_rfl, by kernel_rfl, by kernel_rfl, by kernel_rfl, by kernel_rfl, by kernel_rfl, by kernel_rfl, by kernel_rfl, by kernel_rfl, by kernel_rfl, by kernel_rfl, by kernel_rfl, by kernel_rfl, by kernel_rfl, by kernel_rfl, by kernel_rfl, by kernel_rfl, by kernel_rfl, by kernel_rfl, by kernel_rfl, by kernel_rfl, by kernel_rfl, by kernel_rfl, by kernel_rfl, by kernel_rfl, by kernel_rfl, by kernel_rfl, by kernel_rfl, by kernel_rfl, by kernel_rfl, by kernel_rfl, by kernel_rfl, by kernel_rfl, by kernel_rfl, by kernel_rfl, by kernel_rfl, by kernel_rfl, by kernel_rfl, by kernel_rfl, by kernel_rfl, by kernel_rfl, by kernel_rfl, by kernel_rfl, by kernel_rfl, by kernel_rfl, by kernel_rfl, by kernel_rfl, by kernel_rfl, by kernel_rfl, by kernel_rfl, by kernel_rfl, by kernel_rfl, by kernel_rfl, by kernel_rfl, by kernel_rfl, by kernel_rfl, by kernel_rfl, by kernel_rfl, by kernel_rfl⟩
theorem looks_ok {G : Hp} (x : Ev) (d : Int) : Con Try.prog G 139 [.agg x.l.toArray, .int .i64 d] [] (fun r B => r = .bool (x.does d) ∧ B = []) := by
  refine Con.intro Try.func139 rfl (Nat.le_of_ble_eq_true (by kernel_rfl)) (by kernel_rfl) Try.results139 ?_
  intro H hH
  ((try simp only [S, TY, reduceCtorEq, Nat.reduceEqDiff, Nat.reduceAdd, Nat.reduceLeDiff, Nat.reduceBEq, Int.reduceBEq, Bool.or_false, Nat.reduceMul, Nat.ble_eq, Int.toNat_natCast, Nat.mul_one, Nat.add_zero, decide_true, decide_false, beq_self_eq_true, bne_self_eq_false, beq_iff_eq, bne_iff_ne, beq_eq_false_iff_ne, bne_eq_false_iff_eq, ne_eq, Int.reduceEq, Int.reduceLT, Int.reduceLE, Int.reduceAdd, Int.reduceSub, bs_toList, mk_toList, bs_size, mk_size, not_true_eq_false, not_false_eq_true, List.length_nil, Int.cast_ofNat_Int, Int.natCast_zero, Int.natCast_one, Int.toNat_zero, Int.toNat_one, true_implies, Option.getD_some, List.size_toArray, Option.some.injEq, Nat.zero_mul, Bool.or_true, Bool.true_or, Bool.false_or, Bool.and_true, Bool.true_and, Bool.and_false, Bool.false_and, Ev.l]); (try (simp (disch := omega) only [wrap_id, Int.natCast_zero, Int.sub_zero, Int.toNat_natCast, Int.toNat_zero, Int.cast_ofNat_Int, Int.sub_self]; (try simp only [S, TY, reduceCtorEq, Nat.reduceEqDiff, Nat.reduceAdd, Nat.reduceLeDiff, Nat.reduceBEq, Int.reduceBEq, Bool.or_false, Nat.reduceMul, Nat.ble_eq, Int.toNat_natCast, Nat.mul_one, Nat.add_zero, decide_true, decide_false, beq_self_eq_true, bne_self_eq_false, beq_iff_eq, bne_iff_ne, beq_eq_false_iff_ne, bne_eq_false_iff_eq, ne_eq, Int.reduceEq, Int.reduceLT, Int.reduceLE, Int.reduceAdd, Int.reduceSub, bs_toList, mk_toList, bs_size, mk_size, not_true_eq_false, not_false_eq_true, List.length_nil, Int.cast_ofNat_Int, Int.natCast_zero, Int.natCast_one, Int.toNat_zero, Int.toNat_one, true_implies, Option.getD_some, List.size_toArray, Option.some.injEq, Nat.zero_mul, Bool.or_true, Bool.true_or, Bool.false_or, Bool.and_true, Bool.true_and, Bool.and_false, Bool.false_and, Ev.l]))))
  intro b hb hg
  ((try simp only [S, TY, reduceCtorEq, Nat.reduceEqDiff, Nat.reduceAdd, Nat.reduceLeDiff, Nat.reduceBEq, Int.reduceBEq, Bool.or_false, Nat.reduceMul, Nat.ble_eq, Int.toNat_natCast, Nat.mul_one, Nat.add_zero, decide_true, decide_false, beq_self_eq_true, bne_self_eq_false, beq_iff_eq, bne_iff_ne, beq_eq_false_iff_ne, bne_eq_false_iff_eq, ne_eq, Int.reduceEq, Int.reduceLT, Int.reduceLE, Int.reduceAdd, Int.reduceSub, bs_toList, mk_toList, bs_size, mk_size, not_true_eq_false, not_false_eq_true, List.length_nil, Int.cast_ofNat_Int, Int.natCast_zero, Int.natCast_one, Int.toNat_zero, Int.toNat_one, true_implies, Option.getD_some, List.size_toArray, Option.some.injEq, Nat.zero_mul, Bool.or_true, Bool.true_or, Bool.false_or, Bool.and_true, Bool.true_and, Bool.and_false, Bool.false_and, Ev.l]); (try (simp (disch := omega) only [wrap_id, Int.natCast_zero, Int.sub_zero, Int.toNat_natCast, Int.toNat_zero, Int.cast_ofNat_Int, Int.sub_self]; (try simp only [S, TY, reduceCtorEq, Nat.reduceEqDiff, Nat.reduceAdd, Nat.reduceLeDiff, Nat.reduceBEq, Int.reduceBEq, Bool.or_false, Nat.reduceMul, Nat.ble_eq, Int.toNat_natCast, Nat.mul_one, Nat.add_zero, decide_true, decide_false, beq_self_eq_true, bne_self_eq_false, beq_iff_eq, bne_iff_ne, beq_eq_false_iff_ne, bne_eq_false_iff_eq, ne_eq, Int.reduceEq, Int.reduceLT, Int.reduceLE, Int.reduceAdd, Int.reduceSub, bs_toList, mk_toList, bs_size, mk_size, not_true_eq_false, not_false_eq_true, List.length_nil, Int.cast_ofNat_Int, Int.natCast_zero, Int.natCast_one, Int.toNat_zero, Int.toNat_one, true_implies, Option.getD_some, List.size_toArray, Option.some.injEq, Nat.zero_mul, Bool.or_true, Bool.true_or, Bool.false_or, Bool.and_true, Bool.true_and, Bool.and_false, Bool.false_and, Ev.l]))))
  generalize hq : H.set b _ = H1
  have h1 : sg G [ob b (.cells x.l.toArray 174 (0, 0))] H1 := hq ▸ hH.new hb hg _
  have c1 := h1.c0
  ((try simp only [S, TY, reduceCtorEq, Nat.reduceEqDiff, Nat.reduceAdd, Nat.reduceLeDiff, Nat.reduceBEq, Int.reduceBEq, Bool.or_false, Nat.reduceMul, Nat.ble_eq, Int.toNat_natCast, Nat.mul_one, Nat.add_zero, decide_true, decide_false, beq_self_eq_true, bne_self_eq_false, beq_iff_eq, bne_iff_ne, beq_eq_false_iff_ne, bne_eq_false_iff_eq, ne_eq, Int.reduceEq, Int.reduceLT, Int.reduceLE, Int.reduceAdd, Int.reduceSub, bs_toList, mk_toList, bs_size, mk_size, not_true_eq_false, not_false_eq_true, List.length_nil, Int.cast_ofNat_Int, Int.natCast_zero, Int.natCast_one, Int.toNat_zero, Int.toNat_one, true_implies, Option.getD_some, List.size_toArray, Option.some.injEq, Nat.zero_mul, Bool.or_true, Bool.true_or, Bool.false_or, Bool.and_true, Bool.true_and, Bool.and_false, Bool.false_and, Ev.l, c1]); (try (simp (disch := omega) only [wrap_id, Int.natCast_zero, Int.sub_zero, Int.toNat_natCast, Int.toNat_zero, Int.cast_ofNat_Int, Int.sub_self]; (try simp only [S, TY, reduceCtorEq, Nat.reduceEqDiff, Nat.reduceAdd, Nat.reduceLeDiff, Nat.reduceBEq, Int.reduceBEq, Bool.or_false, Nat.reduceMul, Nat.ble_eq, Int.toNat_natCast, Nat.mul_one, Nat.add_zero, decide_true, decide_false, beq_self_eq_true, bne_self_eq_false, beq_iff_eq, bne_iff_ne, beq_eq_false_iff_ne, bne_eq_false_iff_eq, ne_eq, Int.reduceEq, Int.reduceLT, Int.reduceLE, Int.reduceAdd, Int.reduceSub, bs_toList, mk_toList, bs_size, mk_size, not_true_eq_false, not_false_eq_true, List.length_nil, Int.cast_ofNat_Int, Int.natCast_zero, Int.natCast_one, Int.toNat_zero, Int.toNat_one, true_implies, Option.getD_some, List.size_toArray, Option.some.injEq, Nat.zero_mul, Bool.or_true, Bool.true_or, Bool.false_or, Bool.and_true, Bool.true_and, Bool.and_false, Bool.false_and, Ev.l, c1]))))
  repeat' (refine Gate.intro (fun g => ?_) (fun g => ?_) <;> ((try simp only [S, TY, reduceCtorEq, Nat.reduceEqDiff, Nat.reduceAdd, Nat.reduceLeDiff, Nat.reduceBEq, Int.reduceBEq, Bool.or_false, Nat.reduceMul, Nat.ble_eq, Int.toNat_natCast, Nat.mul_one, Nat.add_zero, decide_true, decide_false, beq_self_eq_true, bne_self_eq_false, beq_iff_eq, bne_iff_ne, beq_eq_false_iff_ne, bne_eq_false_iff_eq, ne_eq, Int.reduceEq, Int.reduceLT, Int.reduceLE, Int.reduceAdd, Int.reduceSub, bs_toList, mk_toList, bs_size, mk_size, not_true_eq_false, not_false_eq_true, List.length_nil, Int.cast_ofNat_Int, Int.natCast_zero, Int.natCast_one, Int.toNat_zero, Int.toNat_one, true_implies, Option.getD_some, List.size_toArray, Option.some.injEq, Nat.zero_mul, Bool.or_true, Bool.true_or, Bool.false_or, Bool.and_true, Bool.true_and, Bool.and_false, Bool.false_and, Ev.l, c1, g]); (try (simp (disch := omega) only [wrap_id, Int.natCast_zero, Int.sub_zero, Int.toNat_natCast, Int.toNat_zero, Int.cast_ofNat_Int, Int.sub_self]; (try simp only [S, TY, reduceCtorEq, Nat.reduceEqDiff, Nat.reduceAdd, Nat.reduceLeDiff, Nat.reduceBEq, Int.reduceBEq, Bool.or_false, Nat.reduceMul, Nat.ble_eq, Int.toNat_natCast, Nat.mul_one, Nat.add_zero, decide_true, decide_false, beq_self_eq_true, bne_self_eq_false, beq_iff_eq, bne_iff_ne, beq_eq_false_iff_ne, bne_eq_false_iff_eq, ne_eq, Int.reduceEq, Int.reduceLT, Int.reduceLE, Int.reduceAdd, Int.reduceSub, bs_toList, mk_toList, bs_size, mk_size, not_true_eq_false, not_false_eq_true, List.length_nil, Int.cast_ofNat_Int, Int.natCast_zero, Int.natCast_one, Int.toNat_zero, Int.toNat_one, true_implies, Option.getD_some, List.size_toArray, Option.some.injEq, Nat.zero_mul, Bool.or_true, Bool.true_or, Bool.false_or, Bool.and_true, Bool.true_and, Bool.and_false, Bool.false_and, Ev.l, c1, g])))))
  all_goals exact fin_take (B := []) h1 ⟨by (refine bb ?_; (try simp only [Ev.does, Ev.look, decide_eq_true_eq, decide_eq_false_iff_not, beq_iff_eq, bne_iff_ne, ne_eq, Bool.or_eq_true, Bool.and_eq_true, Bool.false_eq_true, Bool.not_eq_true', Bool.not_eq_true, Bool.not_eq_false', beq_eq_false_iff_ne, bne_eq_false_iff_eq, true_iff, false_iff, iff_true, iff_false, not_false_eq_true, not_true_eq_false, true_and, and_true, true_or, or_true, false_and, and_false, false_or, or_false]) <;> (first | omega | grind)), rfl⟩
theorem dround_ok {G : Hp} (x : Ev) : Con Try.prog G 140 [.agg x.l.toArray] [] (fun r B => r = .bool x.round ∧ B = []) := by
  have hd : ∀ c : Bool, (c = true ↔ ((x.what = 1 ∧ (¬ x.origin = x.chassis ∨ ¬ x.src = x.chassis)) ∨ (¬ x.what = 1 ∧ x.what = 2 ∧ (x.origin = x.chassis ∨ x.src = x.chassis ∨ (x.src = x.origin ∧ ¬ x.kind = 1) ∨ (¬ x.src = x.origin ∧ ¬ x.kind = 2))))) → Value.bool c = Value.bool x.round := by
    intro c hc
    refine bb (hc.trans ?_)
    unfold Ev.round
    by_cases h1 : x.what = 1
    · simp [h1]
    · by_cases h2 : x.src = x.origin <;> simp [h1, h2, or_assoc]
  refine Con.intro Try.func140 rfl (Nat.le_of_ble_eq_true (by kernel_rfl)) (by kernel_rfl) Try.results140 ?_
  intro H hH
  ((try simp only [S, TY, reduceCtorEq, Nat.reduceEqDiff, Nat.reduceAdd, Nat.reduceLeDiff, Nat.reduceBEq, Int.reduceBEq, Bool.or_false, Nat.reduceMul, Nat.ble_eq, Int.toNat_natCast, Nat.mul_one, Nat.add_zero, decide_true, decide_false, beq_self_eq_true, bne_self_eq_false, beq_iff_eq, bne_iff_ne, beq_eq_false_iff_ne, bne_eq_false_iff_eq, ne_eq, Int.reduceEq, Int.reduceLT, Int.reduceLE, Int.reduceAdd, Int.reduceSub, bs_toList, mk_toList, bs_size, mk_size, not_true_eq_false, not_false_eq_true, List.length_nil, Int.cast_ofNat_Int, Int.natCast_zero, Int.natCast_one, Int.toNat_zero, Int.toNat_one, true_implies, Option.getD_some, List.size_toArray, Option.some.injEq, Nat.zero_mul, Bool.or_true, Bool.true_or, Bool.false_or, Bool.and_true, Bool.true_and, Bool.and_false, Bool.false_and, Ev.l]); (try (simp (disch := omega) only [wrap_id, Int.natCast_zero, Int.sub_zero, Int.toNat_natCast, Int.toNat_zero, Int.cast_ofNat_Int, Int.sub_self]; (try simp only [S, TY, reduceCtorEq, Nat.reduceEqDiff, Nat.reduceAdd, Nat.reduceLeDiff, Nat.reduceBEq, Int.reduceBEq, Bool.or_false, Nat.reduceMul, Nat.ble_eq, Int.toNat_natCast, Nat.mul_one, Nat.add_zero, decide_true, decide_false, beq_self_eq_true, bne_self_eq_false, beq_iff_eq, bne_iff_ne, beq_eq_false_iff_ne, bne_eq_false_iff_eq, ne_eq, Int.reduceEq, Int.reduceLT, Int.reduceLE, Int.reduceAdd, Int.reduceSub, bs_toList, mk_toList, bs_size, mk_size, not_true_eq_false, not_false_eq_true, List.length_nil, Int.cast_ofNat_Int, Int.natCast_zero, Int.natCast_one, Int.toNat_zero, Int.toNat_one, true_implies, Option.getD_some, List.size_toArray, Option.some.injEq, Nat.zero_mul, Bool.or_true, Bool.true_or, Bool.false_or, Bool.and_true, Bool.true_and, Bool.and_false, Bool.false_and, Ev.l]))))
  intro b hb hg
  ((try simp only [S, TY, reduceCtorEq, Nat.reduceEqDiff, Nat.reduceAdd, Nat.reduceLeDiff, Nat.reduceBEq, Int.reduceBEq, Bool.or_false, Nat.reduceMul, Nat.ble_eq, Int.toNat_natCast, Nat.mul_one, Nat.add_zero, decide_true, decide_false, beq_self_eq_true, bne_self_eq_false, beq_iff_eq, bne_iff_ne, beq_eq_false_iff_ne, bne_eq_false_iff_eq, ne_eq, Int.reduceEq, Int.reduceLT, Int.reduceLE, Int.reduceAdd, Int.reduceSub, bs_toList, mk_toList, bs_size, mk_size, not_true_eq_false, not_false_eq_true, List.length_nil, Int.cast_ofNat_Int, Int.natCast_zero, Int.natCast_one, Int.toNat_zero, Int.toNat_one, true_implies, Option.getD_some, List.size_toArray, Option.some.injEq, Nat.zero_mul, Bool.or_true, Bool.true_or, Bool.false_or, Bool.and_true, Bool.true_and, Bool.and_false, Bool.false_and, Ev.l]); (try (simp (disch := omega) only [wrap_id, Int.natCast_zero, Int.sub_zero, Int.toNat_natCast, Int.toNat_zero, Int.cast_ofNat_Int, Int.sub_self]; (try simp only [S, TY, reduceCtorEq, Nat.reduceEqDiff, Nat.reduceAdd, Nat.reduceLeDiff, Nat.reduceBEq, Int.reduceBEq, Bool.or_false, Nat.reduceMul, Nat.ble_eq, Int.toNat_natCast, Nat.mul_one, Nat.add_zero, decide_true, decide_false, beq_self_eq_true, bne_self_eq_false, beq_iff_eq, bne_iff_ne, beq_eq_false_iff_ne, bne_eq_false_iff_eq, ne_eq, Int.reduceEq, Int.reduceLT, Int.reduceLE, Int.reduceAdd, Int.reduceSub, bs_toList, mk_toList, bs_size, mk_size, not_true_eq_false, not_false_eq_true, List.length_nil, Int.cast_ofNat_Int, Int.natCast_zero, Int.natCast_one, Int.toNat_zero, Int.toNat_one, true_implies, Option.getD_some, List.size_toArray, Option.some.injEq, Nat.zero_mul, Bool.or_true, Bool.true_or, Bool.false_or, Bool.and_true, Bool.true_and, Bool.and_false, Bool.false_and, Ev.l]))))
  generalize hq : H.set b _ = H1
  have h1 : sg G [ob b (.cells x.l.toArray 174 (0, 0))] H1 := hq ▸ hH.new hb hg _
  have c1 := h1.c0
  ((try simp only [S, TY, reduceCtorEq, Nat.reduceEqDiff, Nat.reduceAdd, Nat.reduceLeDiff, Nat.reduceBEq, Int.reduceBEq, Bool.or_false, Nat.reduceMul, Nat.ble_eq, Int.toNat_natCast, Nat.mul_one, Nat.add_zero, decide_true, decide_false, beq_self_eq_true, bne_self_eq_false, beq_iff_eq, bne_iff_ne, beq_eq_false_iff_ne, bne_eq_false_iff_eq, ne_eq, Int.reduceEq, Int.reduceLT, Int.reduceLE, Int.reduceAdd, Int.reduceSub, bs_toList, mk_toList, bs_size, mk_size, not_true_eq_false, not_false_eq_true, List.length_nil, Int.cast_ofNat_Int, Int.natCast_zero, Int.natCast_one, Int.toNat_zero, Int.toNat_one, true_implies, Option.getD_some, List.size_toArray, Option.some.injEq, Nat.zero_mul, Bool.or_true, Bool.true_or, Bool.false_or, Bool.and_true, Bool.true_and, Bool.and_false, Bool.false_and, Ev.l, c1]); (try (simp (disch := omega) only [wrap_id, Int.natCast_zero, Int.sub_zero, Int.toNat_natCast, Int.toNat_zero, Int.cast_ofNat_Int, Int.sub_self]; (try simp only [S, TY, reduceCtorEq, Nat.reduceEqDiff, Nat.reduceAdd, Nat.reduceLeDiff, Nat.reduceBEq, Int.reduceBEq, Bool.or_false, Nat.reduceMul, Nat.ble_eq, Int.toNat_natCast, Nat.mul_one, Nat.add_zero, decide_true, decide_false, beq_self_eq_true, bne_self_eq_false, beq_iff_eq, bne_iff_ne, beq_eq_false_iff_ne, bne_eq_false_iff_eq, ne_eq, Int.reduceEq, Int.reduceLT, Int.reduceLE, Int.reduceAdd, Int.reduceSub, bs_toList, mk_toList, bs_size, mk_size, not_true_eq_false, not_false_eq_true, List.length_nil, Int.cast_ofNat_Int, Int.natCast_zero, Int.natCast_one, Int.toNat_zero, Int.toNat_one, true_implies, Option.getD_some, List.size_toArray, Option.some.injEq, Nat.zero_mul, Bool.or_true, Bool.true_or, Bool.false_or, Bool.and_true, Bool.true_and, Bool.and_false, Bool.false_and, Ev.l, c1]))))
  repeat' (refine Gate.intro (fun g => ?_) (fun g => ?_) <;> ((try simp only [S, TY, reduceCtorEq, Nat.reduceEqDiff, Nat.reduceAdd, Nat.reduceLeDiff, Nat.reduceBEq, Int.reduceBEq, Bool.or_false, Nat.reduceMul, Nat.ble_eq, Int.toNat_natCast, Nat.mul_one, Nat.add_zero, decide_true, decide_false, beq_self_eq_true, bne_self_eq_false, beq_iff_eq, bne_iff_ne, beq_eq_false_iff_ne, bne_eq_false_iff_eq, ne_eq, Int.reduceEq, Int.reduceLT, Int.reduceLE, Int.reduceAdd, Int.reduceSub, bs_toList, mk_toList, bs_size, mk_size, not_true_eq_false, not_false_eq_true, List.length_nil, Int.cast_ofNat_Int, Int.natCast_zero, Int.natCast_one, Int.toNat_zero, Int.toNat_one, true_implies, Option.getD_some, List.size_toArray, Option.some.injEq, Nat.zero_mul, Bool.or_true, Bool.true_or, Bool.false_or, Bool.and_true, Bool.true_and, Bool.and_false, Bool.false_and, Ev.l, c1, g]); (try (simp (disch := omega) only [wrap_id, Int.natCast_zero, Int.sub_zero, Int.toNat_natCast, Int.toNat_zero, Int.cast_ofNat_Int, Int.sub_self]; (try simp only [S, TY, reduceCtorEq, Nat.reduceEqDiff, Nat.reduceAdd, Nat.reduceLeDiff, Nat.reduceBEq, Int.reduceBEq, Bool.or_false, Nat.reduceMul, Nat.ble_eq, Int.toNat_natCast, Nat.mul_one, Nat.add_zero, decide_true, decide_false, beq_self_eq_true, bne_self_eq_false, beq_iff_eq, bne_iff_ne, beq_eq_false_iff_ne, bne_eq_false_iff_eq, ne_eq, Int.reduceEq, Int.reduceLT, Int.reduceLE, Int.reduceAdd, Int.reduceSub, bs_toList, mk_toList, bs_size, mk_size, not_true_eq_false, not_false_eq_true, List.length_nil, Int.cast_ofNat_Int, Int.natCast_zero, Int.natCast_one, Int.toNat_zero, Int.toNat_one, true_implies, Option.getD_some, List.size_toArray, Option.some.injEq, Nat.zero_mul, Bool.or_true, Bool.true_or, Bool.false_or, Bool.and_true, Bool.true_and, Bool.and_false, Bool.false_and, Ev.l, c1, g])))))
  all_goals first
    | exact fin_take (B := []) h1 ⟨hd _ (by (try simp only [beq_iff_eq, bne_iff_ne, ne_eq, true_iff, Bool.false_eq_true, false_iff]); omega), rfl⟩
    | (exfalso; omega)
theorem Event_ok {G : Hp} (x : Ev) : Con Try.prog G 89 [.agg x.l.toArray] [] (fun r B => r = .agg x.l.toArray ∧ B = []) := by
  refine Con.intro Try.func89 rfl (Nat.le_of_ble_eq_true (by kernel_rfl)) (by kernel_rfl) Try.results89 ?_
  intro H hH
  ((try simp only [S, TY, reduceCtorEq, Nat.reduceEqDiff, Nat.reduceAdd, Nat.reduceLeDiff, Nat.reduceBEq, Int.reduceBEq, Bool.or_false, Nat.reduceMul, Nat.ble_eq, Int.toNat_natCast, Nat.mul_one, Nat.add_zero, decide_true, decide_false, beq_self_eq_true, bne_self_eq_false, beq_iff_eq, bne_iff_ne, beq_eq_false_iff_ne, bne_eq_false_iff_eq, ne_eq, Int.reduceEq, Int.reduceLT, Int.reduceLE, Int.reduceAdd, Int.reduceSub, bs_toList, mk_toList, bs_size, mk_size, not_true_eq_false, not_false_eq_true, List.length_nil, Int.cast_ofNat_Int, Int.natCast_zero, Int.natCast_one, Int.toNat_zero, Int.toNat_one, true_implies, Option.getD_some, List.size_toArray, Option.some.injEq, Nat.zero_mul, Bool.or_true, Bool.true_or, Bool.false_or, Bool.and_true, Bool.true_and, Bool.and_false, Bool.false_and, Ev.l]); (try (simp (disch := omega) only [wrap_id, Int.natCast_zero, Int.sub_zero, Int.toNat_natCast, Int.toNat_zero, Int.cast_ofNat_Int, Int.sub_self]; (try simp only [S, TY, reduceCtorEq, Nat.reduceEqDiff, Nat.reduceAdd, Nat.reduceLeDiff, Nat.reduceBEq, Int.reduceBEq, Bool.or_false, Nat.reduceMul, Nat.ble_eq, Int.toNat_natCast, Nat.mul_one, Nat.add_zero, decide_true, decide_false, beq_self_eq_true, bne_self_eq_false, beq_iff_eq, bne_iff_ne, beq_eq_false_iff_ne, bne_eq_false_iff_eq, ne_eq, Int.reduceEq, Int.reduceLT, Int.reduceLE, Int.reduceAdd, Int.reduceSub, bs_toList, mk_toList, bs_size, mk_size, not_true_eq_false, not_false_eq_true, List.length_nil, Int.cast_ofNat_Int, Int.natCast_zero, Int.natCast_one, Int.toNat_zero, Int.toNat_one, true_implies, Option.getD_some, List.size_toArray, Option.some.injEq, Nat.zero_mul, Bool.or_true, Bool.true_or, Bool.false_or, Bool.and_true, Bool.true_and, Bool.and_false, Bool.false_and, Ev.l]))))
  intro b hb hg
  ((try simp only [S, TY, reduceCtorEq, Nat.reduceEqDiff, Nat.reduceAdd, Nat.reduceLeDiff, Nat.reduceBEq, Int.reduceBEq, Bool.or_false, Nat.reduceMul, Nat.ble_eq, Int.toNat_natCast, Nat.mul_one, Nat.add_zero, decide_true, decide_false, beq_self_eq_true, bne_self_eq_false, beq_iff_eq, bne_iff_ne, beq_eq_false_iff_ne, bne_eq_false_iff_eq, ne_eq, Int.reduceEq, Int.reduceLT, Int.reduceLE, Int.reduceAdd, Int.reduceSub, bs_toList, mk_toList, bs_size, mk_size, not_true_eq_false, not_false_eq_true, List.length_nil, Int.cast_ofNat_Int, Int.natCast_zero, Int.natCast_one, Int.toNat_zero, Int.toNat_one, true_implies, Option.getD_some, List.size_toArray, Option.some.injEq, Nat.zero_mul, Bool.or_true, Bool.true_or, Bool.false_or, Bool.and_true, Bool.true_and, Bool.and_false, Bool.false_and, Ev.l]); (try (simp (disch := omega) only [wrap_id, Int.natCast_zero, Int.sub_zero, Int.toNat_natCast, Int.toNat_zero, Int.cast_ofNat_Int, Int.sub_self]; (try simp only [S, TY, reduceCtorEq, Nat.reduceEqDiff, Nat.reduceAdd, Nat.reduceLeDiff, Nat.reduceBEq, Int.reduceBEq, Bool.or_false, Nat.reduceMul, Nat.ble_eq, Int.toNat_natCast, Nat.mul_one, Nat.add_zero, decide_true, decide_false, beq_self_eq_true, bne_self_eq_false, beq_iff_eq, bne_iff_ne, beq_eq_false_iff_ne, bne_eq_false_iff_eq, ne_eq, Int.reduceEq, Int.reduceLT, Int.reduceLE, Int.reduceAdd, Int.reduceSub, bs_toList, mk_toList, bs_size, mk_size, not_true_eq_false, not_false_eq_true, List.length_nil, Int.cast_ofNat_Int, Int.natCast_zero, Int.natCast_one, Int.toNat_zero, Int.toNat_one, true_implies, Option.getD_some, List.size_toArray, Option.some.injEq, Nat.zero_mul, Bool.or_true, Bool.true_or, Bool.false_or, Bool.and_true, Bool.true_and, Bool.and_false, Bool.false_and, Ev.l]))))
  generalize hq : H.set b _ = H1
  have h1 : sg G [ob b (.cells x.l.toArray 38 (0, 0))] H1 := hq ▸ hH.new hb hg _
  have c1 := h1.c0
  intro b2 hb2 hg2
  ((try simp only [S, TY, reduceCtorEq, Nat.reduceEqDiff, Nat.reduceAdd, Nat.reduceLeDiff, Nat.reduceBEq, Int.reduceBEq, Bool.or_false, Nat.reduceMul, Nat.ble_eq, Int.toNat_natCast, Nat.mul_one, Nat.add_zero, decide_true, decide_false, beq_self_eq_true, bne_self_eq_false, beq_iff_eq, bne_iff_ne, beq_eq_false_iff_ne, bne_eq_false_iff_eq, ne_eq, Int.reduceEq, Int.reduceLT, Int.reduceLE, Int.reduceAdd, Int.reduceSub, bs_toList, mk_toList, bs_size, mk_size, not_true_eq_false, not_false_eq_true, List.length_nil, Int.cast_ofNat_Int, Int.natCast_zero, Int.natCast_one, Int.toNat_zero, Int.toNat_one, true_implies, Option.getD_some, List.size_toArray, Option.some.injEq, Nat.zero_mul, Bool.or_true, Bool.true_or, Bool.false_or, Bool.and_true, Bool.true_and, Bool.and_false, Bool.false_and, Ev.l]); (try (simp (disch := omega) only [wrap_id, Int.natCast_zero, Int.sub_zero, Int.toNat_natCast, Int.toNat_zero, Int.cast_ofNat_Int, Int.sub_self]; (try simp only [S, TY, reduceCtorEq, Nat.reduceEqDiff, Nat.reduceAdd, Nat.reduceLeDiff, Nat.reduceBEq, Int.reduceBEq, Bool.or_false, Nat.reduceMul, Nat.ble_eq, Int.toNat_natCast, Nat.mul_one, Nat.add_zero, decide_true, decide_false, beq_self_eq_true, bne_self_eq_false, beq_iff_eq, bne_iff_ne, beq_eq_false_iff_ne, bne_eq_false_iff_eq, ne_eq, Int.reduceEq, Int.reduceLT, Int.reduceLE, Int.reduceAdd, Int.reduceSub, bs_toList, mk_toList, bs_size, mk_size, not_true_eq_false, not_false_eq_true, List.length_nil, Int.cast_ofNat_Int, Int.natCast_zero, Int.natCast_one, Int.toNat_zero, Int.toNat_one, true_implies, Option.getD_some, List.size_toArray, Option.some.injEq, Nat.zero_mul, Bool.or_true, Bool.true_or, Bool.false_or, Bool.and_true, Bool.true_and, Bool.and_false, Bool.false_and, Ev.l]))))
  generalize hq2 : H1.set b2 _ = H2
  have h2 : sg G [ob b2 (.cells zev.toArray 174 (0, 0)), ob b (.cells x.l.toArray 38 (0, 0))] H2 := hq2 ▸ h1.new hb2 hg2 _
  have c2 := (h2.front 1).c0
  ((try simp only [S, TY, reduceCtorEq, Nat.reduceEqDiff, Nat.reduceAdd, Nat.reduceLeDiff, Nat.reduceBEq, Int.reduceBEq, Bool.or_false, Nat.reduceMul, Nat.ble_eq, Int.toNat_natCast, Nat.mul_one, Nat.add_zero, decide_true, decide_false, beq_self_eq_true, bne_self_eq_false, beq_iff_eq, bne_iff_ne, beq_eq_false_iff_ne, bne_eq_false_iff_eq, ne_eq, Int.reduceEq, Int.reduceLT, Int.reduceLE, Int.reduceAdd, Int.reduceSub, bs_toList, mk_toList, bs_size, mk_size, not_true_eq_false, not_false_eq_true, List.length_nil, Int.cast_ofNat_Int, Int.natCast_zero, Int.natCast_one, Int.toNat_zero, Int.toNat_one, true_implies, Option.getD_some, List.size_toArray, Option.some.injEq, Nat.zero_mul, Bool.or_true, Bool.true_or, Bool.false_or, Bool.and_true, Bool.true_and, Bool.and_false, Bool.false_and, Ev.l, c2]); (try (simp (disch := omega) only [wrap_id, Int.natCast_zero, Int.sub_zero, Int.toNat_natCast, Int.toNat_zero, Int.cast_ofNat_Int, Int.sub_self]; (try simp only [S, TY, reduceCtorEq, Nat.reduceEqDiff, Nat.reduceAdd, Nat.reduceLeDiff, Nat.reduceBEq, Int.reduceBEq, Bool.or_false, Nat.reduceMul, Nat.ble_eq, Int.toNat_natCast, Nat.mul_one, Nat.add_zero, decide_true, decide_false, beq_self_eq_true, bne_self_eq_false, beq_iff_eq, bne_iff_ne, beq_eq_false_iff_ne, bne_eq_false_iff_eq, ne_eq, Int.reduceEq, Int.reduceLT, Int.reduceLE, Int.reduceAdd, Int.reduceSub, bs_toList, mk_toList, bs_size, mk_size, not_true_eq_false, not_false_eq_true, List.length_nil, Int.cast_ofNat_Int, Int.natCast_zero, Int.natCast_one, Int.toNat_zero, Int.toNat_one, true_implies, Option.getD_some, List.size_toArray, Option.some.injEq, Nat.zero_mul, Bool.or_true, Bool.true_or, Bool.false_or, Bool.and_true, Bool.true_and, Bool.and_false, Bool.false_and, Ev.l, c2]))))
  refine sg.stAll (vs := x.l) h2 rfl rfl fun H3 h3 => ?_
  have w3 := h3.ld
  simp only [Ev.l_length] at w3
  ((try simp only [S, TY, reduceCtorEq, Nat.reduceEqDiff, Nat.reduceAdd, Nat.reduceLeDiff, Nat.reduceBEq, Int.reduceBEq, Bool.or_false, Nat.reduceMul, Nat.ble_eq, Int.toNat_natCast, Nat.mul_one, Nat.add_zero, decide_true, decide_false, beq_self_eq_true, bne_self_eq_false, beq_iff_eq, bne_iff_ne, beq_eq_false_iff_ne, bne_eq_false_iff_eq, ne_eq, Int.reduceEq, Int.reduceLT, Int.reduceLE, Int.reduceAdd, Int.reduceSub, bs_toList, mk_toList, bs_size, mk_size, not_true_eq_false, not_false_eq_true, List.length_nil, Int.cast_ofNat_Int, Int.natCast_zero, Int.natCast_one, Int.toNat_zero, Int.toNat_one, true_implies, Option.getD_some, List.size_toArray, Option.some.injEq, Nat.zero_mul, Bool.or_true, Bool.true_or, Bool.false_or, Bool.and_true, Bool.true_and, Bool.and_false, Bool.false_and, w3]); (try (simp (disch := omega) only [wrap_id, Int.natCast_zero, Int.sub_zero, Int.toNat_natCast, Int.toNat_zero, Int.cast_ofNat_Int, Int.sub_self]; (try simp only [S, TY, reduceCtorEq, Nat.reduceEqDiff, Nat.reduceAdd, Nat.reduceLeDiff, Nat.reduceBEq, Int.reduceBEq, Bool.or_false, Nat.reduceMul, Nat.ble_eq, Int.toNat_natCast, Nat.mul_one, Nat.add_zero, decide_true, decide_false, beq_self_eq_true, bne_self_eq_false, beq_iff_eq, bne_iff_ne, beq_eq_false_iff_ne, bne_eq_false_iff_eq, ne_eq, Int.reduceEq, Int.reduceLT, Int.reduceLE, Int.reduceAdd, Int.reduceSub, bs_toList, mk_toList, bs_size, mk_size, not_true_eq_false, not_false_eq_true, List.length_nil, Int.cast_ofNat_Int, Int.natCast_zero, Int.natCast_one, Int.toNat_zero, Int.toNat_one, true_implies, Option.getD_some, List.size_toArray, Option.some.injEq, Nat.zero_mul, Bool.or_true, Bool.true_or, Bool.false_or, Bool.and_true, Bool.true_and, Bool.and_false, Bool.false_and, w3]))))
  exact fin_take (B := []) h3 ⟨rfl, rfl⟩
theorem of_ok {G : Hp} {v : Value} {l : List Ev} (hv : rds G 13 v (evs l)) (hl : l.length ≤ 1000) : Con Try.prog G 18 [v] [] (fun r B => B = [own 174 13 r (evs l)]) := by
  refine Con.intro Try.func18 rfl (Nat.le_of_ble_eq_true (by kernel_rfl)) (by kernel_rfl) Try.results18 ?_
  intro H hH
  obtain ⟨a, n, c, rfl, e1, e2⟩ := hv.slice
  rw [flat_len Ev.l_length] at e1
  have hn : l.length = n := by omega
  ((try simp only [S, TY, reduceCtorEq, Nat.reduceEqDiff, Nat.reduceAdd, Nat.reduceLeDiff, Nat.reduceBEq, Int.reduceBEq, Bool.or_false, Nat.reduceMul, Nat.ble_eq, Int.toNat_natCast, Nat.mul_one, Nat.add_zero, decide_true, decide_false, beq_self_eq_true, bne_self_eq_false, beq_iff_eq, bne_iff_ne, beq_eq_false_iff_ne, bne_eq_false_iff_eq, ne_eq, Int.reduceEq, Int.reduceLT, Int.reduceLE, Int.reduceAdd, Int.reduceSub, bs_toList, mk_toList, bs_size, mk_size, not_true_eq_false, not_false_eq_true, List.length_nil, Int.cast_ofNat_Int, Int.natCast_zero, Int.natCast_one, Int.toNat_zero, Int.toNat_one, true_implies, Option.getD_some, List.size_toArray, Option.some.injEq, Nat.zero_mul, Bool.or_true, Bool.true_or, Bool.false_or, Bool.and_true, Bool.true_and, Bool.and_false, Bool.false_and]); (try (simp (disch := omega) only [wrap_id, Int.natCast_zero, Int.sub_zero, Int.toNat_natCast, Int.toNat_zero, Int.cast_ofNat_Int, Int.sub_self]; (try simp only [S, TY, reduceCtorEq, Nat.reduceEqDiff, Nat.reduceAdd, Nat.reduceLeDiff, Nat.reduceBEq, Int.reduceBEq, Bool.or_false, Nat.reduceMul, Nat.ble_eq, Int.toNat_natCast, Nat.mul_one, Nat.add_zero, decide_true, decide_false, beq_self_eq_true, bne_self_eq_false, beq_iff_eq, bne_iff_ne, beq_eq_false_iff_ne, bne_eq_false_iff_eq, ne_eq, Int.reduceEq, Int.reduceLT, Int.reduceLE, Int.reduceAdd, Int.reduceSub, bs_toList, mk_toList, bs_size, mk_size, not_true_eq_false, not_false_eq_true, List.length_nil, Int.cast_ofNat_Int, Int.natCast_zero, Int.natCast_one, Int.toNat_zero, Int.toNat_one, true_implies, Option.getD_some, List.size_toArray, Option.some.injEq, Nat.zero_mul, Bool.or_true, Bool.true_or, Bool.false_or, Bool.and_true, Bool.true_and, Bool.and_false, Bool.false_and]))))
  refine cl_loop (fun i e H => i ≤ n ∧ e 0 = .slice a n c ∧ e 4 = .int .i64 i ∧ ∃ u, e 3 = u ∧ sg G [own 174 13 u (evs (l.take i))] H) (fun i => n - i) 0
    ⟨by omega, rfl, rfl, _, rfl, hH.nil_ 174 13⟩ ?_
  rintro i e H ⟨q1, q2, q3, u, q4, hH⟩
  by_cases g1 : (i : Int) < n
  · have hi : i < l.length := by omega
    obtain ⟨b, off, hl', rfl, hc, hld⟩ := hv.el Ev.l_length (i := i) (by omega) (by omega)
    have ht : evs (l.take (i + 1)) = evs (l.take i) ++ l[i].l := by rw [evs, List.take_succ_eq_append_getElem hi, List.flatMap_append]; simp
    generalize l[i] = x at *
    have g0 : (0 : Int) ≤ i ∧ (i : Int) < n := ⟨by omega, g1⟩
    have w0 := hH.rold hld
    ((try simp only [S, TY, reduceCtorEq, Nat.reduceEqDiff, Nat.reduceAdd, Nat.reduceLeDiff, Nat.reduceBEq, Int.reduceBEq, Bool.or_false, Nat.reduceMul, Nat.ble_eq, Int.toNat_natCast, Nat.mul_one, Nat.add_zero, decide_true, decide_false, beq_self_eq_true, bne_self_eq_false, beq_iff_eq, bne_iff_ne, beq_eq_false_iff_ne, bne_eq_false_iff_eq, ne_eq, Int.reduceEq, Int.reduceLT, Int.reduceLE, Int.reduceAdd, Int.reduceSub, bs_toList, mk_toList, bs_size, mk_size, not_true_eq_false, not_false_eq_true, List.length_nil, Int.cast_ofNat_Int, Int.natCast_zero, Int.natCast_one, Int.toNat_zero, Int.toNat_one, true_implies, Option.getD_some, List.size_toArray, Option.some.injEq, Nat.zero_mul, Bool.or_true, Bool.true_or, Bool.false_or, Bool.and_true, Bool.true_and, Bool.and_false, Bool.false_and, q2, q3, q4, g1, g0, w0]); (try (simp (disch := omega) only [wrap_id, Int.natCast_zero, Int.sub_zero, Int.toNat_natCast, Int.toNat_zero, Int.cast_ofNat_Int, Int.sub_self]; (try simp only [S, TY, reduceCtorEq, Nat.reduceEqDiff, Nat.reduceAdd, Nat.reduceLeDiff, Nat.reduceBEq, Int.reduceBEq, Bool.or_false, Nat.reduceMul, Nat.ble_eq, Int.toNat_natCast, Nat.mul_one, Nat.add_zero, decide_true, decide_false, beq_self_eq_true, bne_self_eq_false, beq_iff_eq, bne_iff_ne, beq_eq_false_iff_ne, bne_eq_false_iff_eq, ne_eq, Int.reduceEq, Int.reduceLT, Int.reduceLE, Int.reduceAdd, Int.reduceSub, bs_toList, mk_toList, bs_size, mk_size, not_true_eq_false, not_false_eq_true, List.length_nil, Int.cast_ofNat_Int, Int.natCast_zero, Int.natCast_one, Int.toNat_zero, Int.toNat_one, true_implies, Option.getD_some, List.size_toArray, Option.some.injEq, Nat.zero_mul, Bool.or_true, Bool.true_or, Bool.false_or, Bool.and_true, Bool.true_and, Bool.and_false, Bool.false_and, q2, q3, q4, g1, g0, w0]))))
    refine (Event_ok x).at_ hH [] _ rfl fun r B H2 hr h2 => ?_
    obtain ⟨rfl, rfl⟩ := hr
    ((try simp only [S, TY, reduceCtorEq, Nat.reduceEqDiff, Nat.reduceAdd, Nat.reduceLeDiff, Nat.reduceBEq, Int.reduceBEq, Bool.or_false, Nat.reduceMul, Nat.ble_eq, Int.toNat_natCast, Nat.mul_one, Nat.add_zero, decide_true, decide_false, beq_self_eq_true, bne_self_eq_false, beq_iff_eq, bne_iff_ne, beq_eq_false_iff_ne, bne_eq_false_iff_eq, ne_eq, Int.reduceEq, Int.reduceLT, Int.reduceLE, Int.reduceAdd, Int.reduceSub, bs_toList, mk_toList, bs_size, mk_size, not_true_eq_false, not_false_eq_true, List.length_nil, Int.cast_ofNat_Int, Int.natCast_zero, Int.natCast_one, Int.toNat_zero, Int.toNat_one, true_implies, Option.getD_some, List.size_toArray, Option.some.injEq, Nat.zero_mul, Bool.or_true, Bool.true_or, Bool.false_or, Bool.and_true, Bool.true_and, Bool.and_false, Bool.false_and, q2, q3, q4, Ev.l]); (try (simp (disch := omega) only [wrap_id, Int.natCast_zero, Int.sub_zero, Int.toNat_natCast, Int.toNat_zero, Int.cast_ofNat_Int, Int.sub_self]; (try simp only [S, TY, reduceCtorEq, Nat.reduceEqDiff, Nat.reduceAdd, Nat.reduceLeDiff, Nat.reduceBEq, Int.reduceBEq, Bool.or_false, Nat.reduceMul, Nat.ble_eq, Int.toNat_natCast, Nat.mul_one, Nat.add_zero, decide_true, decide_false, beq_self_eq_true, bne_self_eq_false, beq_iff_eq, bne_iff_ne, beq_eq_false_iff_ne, bne_eq_false_iff_eq, ne_eq, Int.reduceEq, Int.reduceLT, Int.reduceLE, Int.reduceAdd, Int.reduceSub, bs_toList, mk_toList, bs_size, mk_size, not_true_eq_false, not_false_eq_true, List.length_nil, Int.cast_ofNat_Int, Int.natCast_zero, Int.natCast_one, Int.toNat_zero, Int.toNat_one, true_implies, Option.getD_some, List.size_toArray, Option.some.injEq, Nat.zero_mul, Bool.or_true, Bool.true_or, Bool.false_or, Bool.and_true, Bool.true_and, Bool.and_false, Bool.false_and, q2, q3, q4, Ev.l]))))
    intro b3 hb3 hg3
    have h3 := h2.newsl (e := 174) (sz := 13) (n := 1) (xs := x.l) hb3 hg3 rfl
    ((try simp only [S, TY, reduceCtorEq, Nat.reduceEqDiff, Nat.reduceAdd, Nat.reduceLeDiff, Nat.reduceBEq, Int.reduceBEq, Bool.or_false, Nat.reduceMul, Nat.ble_eq, Int.toNat_natCast, Nat.mul_one, Nat.add_zero, decide_true, decide_false, beq_self_eq_true, bne_self_eq_false, beq_iff_eq, bne_iff_ne, beq_eq_false_iff_ne, bne_eq_false_iff_eq, ne_eq, Int.reduceEq, Int.reduceLT, Int.reduceLE, Int.reduceAdd, Int.reduceSub, bs_toList, mk_toList, bs_size, mk_size, not_true_eq_false, not_false_eq_true, List.length_nil, Int.cast_ofNat_Int, Int.natCast_zero, Int.natCast_one, Int.toNat_zero, Int.toNat_one, true_implies, Option.getD_some, List.size_toArray, Option.some.injEq, Nat.zero_mul, Bool.or_true, Bool.true_or, Bool.false_or, Bool.and_true, Bool.true_and, Bool.and_false, Bool.false_and, q2, q3, q4]); (try (simp (disch := omega) only [wrap_id, Int.natCast_zero, Int.sub_zero, Int.toNat_natCast, Int.toNat_zero, Int.cast_ofNat_Int, Int.sub_self]; (try simp only [S, TY, reduceCtorEq, Nat.reduceEqDiff, Nat.reduceAdd, Nat.reduceLeDiff, Nat.reduceBEq, Int.reduceBEq, Bool.or_false, Nat.reduceMul, Nat.ble_eq, Int.toNat_natCast, Nat.mul_one, Nat.add_zero, decide_true, decide_false, beq_self_eq_true, bne_self_eq_false, beq_iff_eq, bne_iff_ne, beq_eq_false_iff_ne, bne_eq_false_iff_eq, ne_eq, Int.reduceEq, Int.reduceLT, Int.reduceLE, Int.reduceAdd, Int.reduceSub, bs_toList, mk_toList, bs_size, mk_size, not_true_eq_false, not_false_eq_true, List.length_nil, Int.cast_ofNat_Int, Int.natCast_zero, Int.natCast_one, Int.toNat_zero, Int.toNat_one, true_implies, Option.getD_some, List.size_toArray, Option.some.injEq, Nat.zero_mul, Bool.or_true, Bool.true_or, Bool.false_or, Bool.and_true, Bool.true_and, Bool.and_false, Bool.false_and, q2, q3, q4]))))
    refine append_sl (show apI Try.prog 29 = some (174, 13, 104) from by kernel_rfl) (show slIs Try.prog 29 = true from by kernel_rfl) (h3.front 1) ((h3.front 1).rdsi 1 rfl Rd_own) (by intro v hv; simp only [Ev.l, List.mem_cons, List.not_mem_nil, or_false] at hv; rcases hv with rfl | rfl | rfl | rfl | rfl | rfl | rfl | rfl | rfl | rfl | rfl | rfl | rfl <;> rfl) (by rw [evs, flat_len Ev.l_length, Ev.l_length, List.length_take]; omega) fun v H4 h4 => ?_
    ((try simp only [S, TY, reduceCtorEq, Nat.reduceEqDiff, Nat.reduceAdd, Nat.reduceLeDiff, Nat.reduceBEq, Int.reduceBEq, Bool.or_false, Nat.reduceMul, Nat.ble_eq, Int.toNat_natCast, Nat.mul_one, Nat.add_zero, decide_true, decide_false, beq_self_eq_true, bne_self_eq_false, beq_iff_eq, bne_iff_ne, beq_eq_false_iff_ne, bne_eq_false_iff_eq, ne_eq, Int.reduceEq, Int.reduceLT, Int.reduceLE, Int.reduceAdd, Int.reduceSub, bs_toList, mk_toList, bs_size, mk_size, not_true_eq_false, not_false_eq_true, List.length_nil, Int.cast_ofNat_Int, Int.natCast_zero, Int.natCast_one, Int.toNat_zero, Int.toNat_one, true_implies, Option.getD_some, List.size_toArray, Option.some.injEq, Nat.zero_mul, Bool.or_true, Bool.true_or, Bool.false_or, Bool.and_true, Bool.true_and, Bool.and_false, Bool.false_and, q2, q3, q4]); (try (simp (disch := omega) only [wrap_id, Int.natCast_zero, Int.sub_zero, Int.toNat_natCast, Int.toNat_zero, Int.cast_ofNat_Int, Int.sub_self]; (try simp only [S, TY, reduceCtorEq, Nat.reduceEqDiff, Nat.reduceAdd, Nat.reduceLeDiff, Nat.reduceBEq, Int.reduceBEq, Bool.or_false, Nat.reduceMul, Nat.ble_eq, Int.toNat_natCast, Nat.mul_one, Nat.add_zero, decide_true, decide_false, beq_self_eq_true, bne_self_eq_false, beq_iff_eq, bne_iff_ne, beq_eq_false_iff_ne, bne_eq_false_iff_eq, ne_eq, Int.reduceEq, Int.reduceLT, Int.reduceLE, Int.reduceAdd, Int.reduceSub, bs_toList, mk_toList, bs_size, mk_size, not_true_eq_false, not_false_eq_true, List.length_nil, Int.cast_ofNat_Int, Int.natCast_zero, Int.natCast_one, Int.toNat_zero, Int.toNat_one, true_implies, Option.getD_some, List.size_toArray, Option.some.injEq, Nat.zero_mul, Bool.or_true, Bool.true_or, Bool.false_or, Bool.and_true, Bool.true_and, Bool.and_false, Bool.false_and, q2, q3, q4]))))
    refine .go (i + 1) (by omega) ⟨by omega, q2, rfl, v, rfl, ?_⟩
    rw [ht]
    exact h4.take1
  · ((try simp only [S, TY, reduceCtorEq, Nat.reduceEqDiff, Nat.reduceAdd, Nat.reduceLeDiff, Nat.reduceBEq, Int.reduceBEq, Bool.or_false, Nat.reduceMul, Nat.ble_eq, Int.toNat_natCast, Nat.mul_one, Nat.add_zero, decide_true, decide_false, beq_self_eq_true, bne_self_eq_false, beq_iff_eq, bne_iff_ne, beq_eq_false_iff_ne, bne_eq_false_iff_eq, ne_eq, Int.reduceEq, Int.reduceLT, Int.reduceLE, Int.reduceAdd, Int.reduceSub, bs_toList, mk_toList, bs_size, mk_size, not_true_eq_false, not_false_eq_true, List.length_nil, Int.cast_ofNat_Int, Int.natCast_zero, Int.natCast_one, Int.toNat_zero, Int.toNat_one, true_implies, Option.getD_some, List.size_toArray, Option.some.injEq, Nat.zero_mul, Bool.or_true, Bool.true_or, Bool.false_or, Bool.and_true, Bool.true_and, Bool.and_false, Bool.false_and, q2, q3, q4, g1]); (try (simp (disch := omega) only [wrap_id, Int.natCast_zero, Int.sub_zero, Int.toNat_natCast, Int.toNat_zero, Int.cast_ofNat_Int, Int.sub_self]; (try simp only [S, TY, reduceCtorEq, Nat.reduceEqDiff, Nat.reduceAdd, Nat.reduceLeDiff, Nat.reduceBEq, Int.reduceBEq, Bool.or_false, Nat.reduceMul, Nat.ble_eq, Int.toNat_natCast, Nat.mul_one, Nat.add_zero, decide_true, decide_false, beq_self_eq_true, bne_self_eq_false, beq_iff_eq, bne_iff_ne, beq_eq_false_iff_ne, bne_eq_false_iff_eq, ne_eq, Int.reduceEq, Int.reduceLT, Int.reduceLE, Int.reduceAdd, Int.reduceSub, bs_toList, mk_toList, bs_size, mk_size, not_true_eq_false, not_false_eq_true, List.length_nil, Int.cast_ofNat_Int, Int.natCast_zero, Int.natCast_one, Int.toNat_zero, Int.toNat_one, true_implies, Option.getD_some, List.size_toArray, Option.some.injEq, Nat.zero_mul, Bool.or_true, Bool.true_or, Bool.false_or, Bool.and_true, Bool.true_and, Bool.and_false, Bool.false_and, q2, q3, q4, g1]))))
    rw [List.take_of_length_le (by omega)] at hH
    exact fin_take hH rfl
def owns (p : List Ev) (x : Ev) : Bool := p.any fun y => y.does 1 && y.port == x.port && y.gen == x.gen && y.chassis != x.chassis
def faultD (p : List Ev) (x : Ev) : Int :=
  if x.does 1 = true ∧ owns p x = true then 1
  else if x.does 1 = true ∧ 0 < -cnt x.id p then 2
  else if x.does 1 = true ∧ x.gen < x.stamp then 3
  else if x.round = true then 4
  else if x.again = true then 5
  else 0
/-- The document's fault is the program's. -/
theorem fault_eq {p : List Ev} {q : List ((Int × Int) × Int) × List (Int × Int)} (g : AuP.Good p q) (x : Ev) : faultS q.1 q.2 x = faultD p x := by
  have h1 : ((mget q.1 (x.port, x.gen)).isSome = true ∧ mget q.1 (x.port, x.gen) ≠ some x.chassis) ↔ owns p x = true := by
    unfold owns
    rw [List.any_eq_true]
    constructor
    · rintro ⟨hs, hne⟩
      obtain ⟨c, hc⟩ := Option.isSome_iff_exists.1 hs
      obtain ⟨y, hy, hd, hk, hch⟩ := g.of_ _ _ hc
      have hk1 : y.port = x.port ∧ y.gen = x.gen := by simpa [Prod.ext_iff] using hk
      refine ⟨y, hy, ?_⟩
      have : ¬ y.chassis = x.chassis := fun e => hne (by rw [hc, ← hch, e])
      simp [hd, hk1.1, hk1.2, this]
    · rintro ⟨y, hy, hb⟩
      simp only [Bool.and_eq_true, beq_iff_eq, bne_iff_ne, ne_eq] at hb
      obtain ⟨⟨⟨hd, hp⟩, hg⟩, hch⟩ := hb
      have := g.at_ y hy hd
      rw [hp, hg] at this
      rw [this]
      exact ⟨rfl, fun e => hch (Option.some.inj e)⟩
  have h2 : sp q.2 x.id < 0 ↔ 0 < -cnt x.id p := by rw [g.sp_]; omega
  unfold faultS faultD
  simp only [h1, h2]
theorem cnt_bound' (id : Int) : ∀ l : List Ev, -(l.length : Int) ≤ cnt id l ∧ cnt id l ≤ l.length
  | [] => by simp [cnt_nil]
  | x :: l => by
    have := cnt_bound' id l
    have h : cnt id (x :: l) = one id x + cnt id l := by simp [cnt]
    rw [h, List.length_cons]
    unfold one
    split <;> split <;> omega
theorem owns_snoc (p : List Ev) (x y : Ev) : owns (p ++ [y]) x = (owns p x || (y.does 1 && y.port == x.port && y.gen == x.gen && y.chassis != x.chassis)) := by
  unfold owns; simp [List.any_append]
end Go.Proofs.Ytkdcapgjmcjdjaa.AuD
