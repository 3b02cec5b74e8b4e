/- BufWrites: its walk. -/
import Derived.Test.YtkdcapgjmcjdjaaBufD
set_option linter.unusedVariables false
set_option linter.unusedSimpArgs false
set_option maxRecDepth 10000
namespace Go.Proofs.Ytkdcapgjmcjdjaa.BufW
open Go Go.Sl Go.Proofs Go.Proofs.Ytkdcapgjmcjdjaa.Buf Go.Proofs.Ytkdcapgjmcjdjaa.BufRd Go.Proofs.Ytkdcapgjmcjdjaa.BufRe Go.Proofs.Ytkdcapgjmcjdjaa.BufD
theorem TY : aggN Try.prog 3 = some none ∧
  aggN Try.prog 4 = some none ∧
  aggN Try.prog 5 = some none ∧
  aggN Try.prog 9 = some none ∧
  aggN Try.prog 32 = some none ∧
  aggN Try.prog 43 = some none ∧
  aggN Try.prog 47 = some none ∧
  aggN Try.prog 95 = some none ∧
  aggN Try.prog 97 = some (some 2) ∧
  aggN Try.prog 98 = some none ∧
  aggN Try.prog 100 = some (some 2) ∧
  aggN Try.prog 110 = some none ∧
  apI Try.prog 32 = some (3, 1, 8) ∧
  apI Try.prog 47 = some (5, 1, 1) ∧
  bIs Try.prog 97 = true ∧
  bIs Try.prog 100 = true ∧
  boIs Try.prog 4 = true ∧
  bySl Try.prog 47 = true ∧
  csz Try.prog 3 = some 1 ∧
  csz Try.prog 4 = some 1 ∧
  csz Try.prog 5 = some 1 ∧
  csz Try.prog 9 = some 1 ∧
  csz Try.prog 32 = some 1 ∧
  csz Try.prog 43 = some 1 ∧
  csz Try.prog 47 = some 1 ∧
  csz Try.prog 95 = some 1 ∧
  csz Try.prog 97 = some 2 ∧
  csz Try.prog 98 = some 1 ∧
  csz Try.prog 100 = some 2 ∧
  csz Try.prog 110 = some 1 ∧
  fIs Try.prog 100 0 = true ∧
  fIs Try.prog 100 1 = true ∧
  fOff Try.prog 100 0 = 0 ∧
  fOff Try.prog 100 1 = 1 ∧
  fTy Try.prog 100 0 = 47 ∧
  fTy Try.prog 100 1 = 4 ∧
  goes Try.prog 47 = true ∧
  goes Try.prog 49 = true ∧
  goes Try.prog 51 = true ∧
  goes Try.prog 53 = true ∧
  goes Try.prog 54 = true ∧
  goes Try.prog 56 = true ∧
  goes Try.prog 58 = true ∧
  goes Try.prog 60 = true ∧
  goes Try.prog 107 = true ∧
  inIs Try.prog 3 = some .i64 ∧
  inIs Try.prog 5 = some .u8 ∧
  inIs Try.prog 43 = some .i64 ∧
  plcs Try.prog 97 = [(0, 1), (1, 1)] ∧
  plcs Try.prog 100 = [(0, 1), (1, 1)] ∧
  ptIs Try.prog 95 = true ∧
  ptIs Try.prog 98 = true ∧
  ptIs Try.prog 110 = true ∧
  slEl Try.prog 32 = 3 ∧
  slEl Try.prog 47 = 5 ∧
  slIs Try.prog 32 = true ∧
  slIs Try.prog 47 = true ∧
  slSz Try.prog 32 = 1 ∧
  slSz Try.prog 47 = 1 ∧
  stIs Try.prog 9 = true ∧
  zcs Try.prog 97 = [.slice none 0 0, .bool false] ∧
  zcs Try.prog 100 = [.slice none 0 0, .bool false] ∧
  zro Try.prog 3 = some (.int .i64 0) ∧
  zro Try.prog 4 = some (.bool false) ∧
  zro Try.prog 5 = some (.int .u8 0) ∧
  zro Try.prog 9 = some (.string ByteArray.empty) ∧
  zro Try.prog 32 = some (.slice none 0 0) ∧
  zro Try.prog 43 = some (.int .i64 0) ∧
  zro Try.prog 47 = some (.slice none 0 0) ∧
  zro Try.prog 95 = some (.pointer none) ∧
  zro Try.prog 97 = some (.agg #[.slice none 0 0, .bool false]) ∧
  zro Try.prog 98 = some (.pointer none) ∧
  zro Try.prog 100 = some (.agg #[.slice none 0 0, .bool false]) ∧
  zro Try.prog 110 = some (.pointer none) :=
  ⟨by kernel_rfl, by kernel_rfl, by kernel_rfl, by kernel_rfl, by kernel_rfl, by kernel_rfl, by kernel_rfl, by kernel_rfl, by kernel_rfl, by kernel_rfl, by kernel_rfl, by kernel_rfl, by kernel_rfl, by kernel_rfl, by kernel_rfl, by kernel_rfl, by kernel_rfl, by kernel_rfl, by kernel_rfl, by kernel_rfl, by kernel_rfl, by kernel_rfl, by kernel_rfl, by kernel_rfl, by kernel_rfl, by kernel_rfl, by kernel_rfl, by kernel_rfl, by kernel_rfl, by kernel_rfl, by kernel_rfl, by kernel_rfl, by kernel_rfl, by kernel_rfl, by kernel_rfl, by kernel_rfl, by kernel_rfl, by kernel_rfl, by kernel_rfl, by kernel_rfl, by kernel_rfl, by kernel_rfl, by kernel_rfl, by kernel_rfl, by kernel_rfl, by kernel_rfl, by kernel_rfl, by kernel_rfl, by kernel_rfl, by kernel_rfl, by kernel_rfl, by kernel_rfl, by kernel_rfl, by kernel_rfl, by kernel_rfl, by kernel_rfl, by kernel_rfl, by kernel_rfl, by kernel_rfl, by kernel_rfl, by kernel_rfl, by kernel_rfl, by kernel_rfl, by kernel_rfl, by kernel_rfl, by kernel_rfl, by kernel_rfl, by kernel_rfl, by kernel_rfl, by kernel_rfl, by kernel_rfl, by kernel_rfl, by kernel_rfl, by kernel_rfl⟩
theorem vput1_eq (w : W) (x : Int) (n : Int) (h1 : 1 ≤ n) (h2 : n ≤ 8) : W.vput n w x = w.put n [x] := by
  rw [← vputs_eq]; unfold vputs; rw [if_neg (by omega)]; rfl
theorem vbytes_ok {G : Hp} {p : Nat} {w : W} {v : Value} {l : List UInt8} (hv : rds G 1 v (bv l)) (hb : w.b.length + 8 + l.length ≤ 70368744177664) :
    Con Try.prog G 48 [.pointer (some ⟨p, 0, none⟩), v] [isV p w] (fun r B => B = [isV p (w.bytes l)]) := by
  refine Con.intro Try.func48 rfl (Nat.le_of_ble_eq_true (by kernel_rfl)) (by kernel_rfl) Try.results48 ?_
  intro H hH
  obtain ⟨a, n, c, rfl, e1, e2⟩ := hv.slice
  rw [bv_length] at e1
  have hpl := put_len (w := w) 2 [(n : Int)]
  simp only [List.length_cons, List.length_nil] at hpl
  ((try simp only [S, TY, reduceCtorEq, Nat.reduceEqDiff, Nat.reduceAdd, Nat.reduceLeDiff, Nat.reduceMul, Nat.ble_eq, Int.toNat_natCast, Nat.mul_one, Nat.add_zero, decide_true, decide_false, beq_self_eq_true, bne_self_eq_false, beq_iff_eq, bne_iff_ne, ne_eq, Int.reduceEq, Int.reduceLT, Int.reduceLE, Int.reduceAdd, Int.reduceSub, bs_toList, mk_toList, bs_size, mk_size, not_true_eq_false, not_false_eq_true, List.length_nil, Int.cast_ofNat_Int, Int.natCast_zero, Int.natCast_one, Int.toNat_zero, Int.toNat_one, true_implies, Option.getD_some, Nat.zero_mul, Bool.or_true, Bool.true_or, Bool.false_or, Bool.and_true, Bool.true_and, Bool.and_false, Bool.false_and]); (try simp (disch := omega) only [wrap_id, Int.natCast_zero, Int.sub_zero, Int.toNat_natCast, Int.toNat_zero, Int.cast_ofNat_Int, Int.sub_self]))
  refine (vput_ok (n := 2) (x := n) (by omega) (by omega)).at_ hH [0] _ rfl fun r B H2 hr h2 => ?_
  subst hr
  rw [vput1_eq w n 2 (by omega) (by omega)] at h2
  obtain ⟨sa, sn, sc, f1, f2, h⟩ := isV_open h2
  have c := h.c0
  ((try simp only [S, TY, reduceCtorEq, Nat.reduceEqDiff, Nat.reduceAdd, Nat.reduceLeDiff, Nat.reduceMul, Nat.ble_eq, Int.toNat_natCast, Nat.mul_one, Nat.add_zero, decide_true, decide_false, beq_self_eq_true, bne_self_eq_false, beq_iff_eq, bne_iff_ne, ne_eq, Int.reduceEq, Int.reduceLT, Int.reduceLE, Int.reduceAdd, Int.reduceSub, bs_toList, mk_toList, bs_size, mk_size, not_true_eq_false, not_false_eq_true, List.length_nil, Int.cast_ofNat_Int, Int.natCast_zero, Int.natCast_one, Int.toNat_zero, Int.toNat_one, true_implies, Option.getD_some, Nat.zero_mul, Bool.or_true, Bool.true_or, Bool.false_or, Bool.and_true, Bool.true_and, Bool.and_false, Bool.false_and, c]); (try simp (disch := omega) only [wrap_id, Int.natCast_zero, Int.sub_zero, Int.toNat_natCast, Int.toNat_zero, Int.cast_ofNat_Int, Int.sub_self]))
  refine append_sl (show apI Try.prog 47 = some (5, 1, 1) from by kernel_rfl) (show slIs Try.prog 47 = true from by kernel_rfl) (h.front 1) (h.ro hv) (bv_one _) (by simp only [bv_length]; omega) fun v H3 h3 => ?_
  obtain ⟨va, vn, vc, rfl, e7, e8⟩ := h3.sl 0 rfl Rd_own
  rw [← bv_append] at h3
  ((try simp only [S, TY, reduceCtorEq, Nat.reduceEqDiff, Nat.reduceAdd, Nat.reduceLeDiff, Nat.reduceMul, Nat.ble_eq, Int.toNat_natCast, Nat.mul_one, Nat.add_zero, decide_true, decide_false, beq_self_eq_true, bne_self_eq_false, beq_iff_eq, bne_iff_ne, ne_eq, Int.reduceEq, Int.reduceLT, Int.reduceLE, Int.reduceAdd, Int.reduceSub, bs_toList, mk_toList, bs_size, mk_size, not_true_eq_false, not_false_eq_true, List.length_nil, Int.cast_ofNat_Int, Int.natCast_zero, Int.natCast_one, Int.toNat_zero, Int.toNat_one, true_implies, Option.getD_some, Nat.zero_mul, Bool.or_true, Bool.true_or, Bool.false_or, Bool.and_true, Bool.true_and, Bool.and_false, Bool.false_and]); (try simp (disch := omega) only [wrap_id, Int.natCast_zero, Int.sub_zero, Int.toNat_natCast, Int.toNat_zero, Int.cast_ofNat_Int, Int.sub_self]))
  refine sg.st (h3.front 1) rfl rfl fun H4 h4 => ?_
  simp only [front_eq, fronts_nil, fronts_cons, List.getElem?_cons_zero, List.getElem?_cons_succ, List.eraseIdx_cons_zero, List.eraseIdx_cons_succ, List.cons_append, List.nil_append, putL_cons, putL_nil, List.set_cons_zero, List.set_cons_succ, Nat.reduceAdd] at h4
  ((try simp only [S, TY, reduceCtorEq, Nat.reduceEqDiff, Nat.reduceAdd, Nat.reduceLeDiff, Nat.reduceMul, Nat.ble_eq, Int.toNat_natCast, Nat.mul_one, Nat.add_zero, decide_true, decide_false, beq_self_eq_true, bne_self_eq_false, beq_iff_eq, bne_iff_ne, ne_eq, Int.reduceEq, Int.reduceLT, Int.reduceLE, Int.reduceAdd, Int.reduceSub, bs_toList, mk_toList, bs_size, mk_size, not_true_eq_false, not_false_eq_true, List.length_nil, Int.cast_ofNat_Int, Int.natCast_zero, Int.natCast_one, Int.toNat_zero, Int.toNat_one, true_implies, Option.getD_some, Nat.zero_mul, Bool.or_true, Bool.true_or, Bool.false_or, Bool.and_true, Bool.true_and, Bool.and_false, Bool.false_and]); (try simp (disch := omega) only [wrap_id, Int.natCast_zero, Int.sub_zero, Int.toNat_natCast, Int.toNat_zero, Int.cast_ofNat_Int, Int.sub_self]))
  exact fin_take (B := [isV p (w.bytes l)]) (isV_shut (w := w.bytes l) (by unfold W.bytes; rw [show l.length = n by omega]; exact h4)) rfl
theorem vdone_ok {G : Hp} {p : Nat} {w : W} :
    Con Try.prog G 52 [.pointer (some ⟨p, 0, none⟩)] [isV p w]
      (fun r B => if w.wrong then r = .tuple #[.slice none 0 0, .int .i64 1] ∧ B = [isV p w] else ∃ v, r = .tuple #[v, .int .i64 0] ∧ B = [own 5 1 v (bv w.b)]) := by
  refine Con.intro Try.func52 rfl (Nat.le_of_ble_eq_true (by kernel_rfl)) (by kernel_rfl) Try.results52 ?_
  intro H hH
  obtain ⟨sa, sn, sc, f1, f2, h⟩ := isV_open hH
  have c := h.c0
  obtain ⟨b, wrong⟩ := w
  cases wrong with
  | true =>
    ((try simp only [S, TY, reduceCtorEq, Nat.reduceEqDiff, Nat.reduceAdd, Nat.reduceLeDiff, Nat.reduceMul, Nat.ble_eq, Int.toNat_natCast, Nat.mul_one, Nat.add_zero, decide_true, decide_false, beq_self_eq_true, bne_self_eq_false, beq_iff_eq, bne_iff_ne, ne_eq, Int.reduceEq, Int.reduceLT, Int.reduceLE, Int.reduceAdd, Int.reduceSub, bs_toList, mk_toList, bs_size, mk_size, not_true_eq_false, not_false_eq_true, List.length_nil, Int.cast_ofNat_Int, Int.natCast_zero, Int.natCast_one, Int.toNat_zero, Int.toNat_one, true_implies, Option.getD_some, Nat.zero_mul, Bool.or_true, Bool.true_or, Bool.false_or, Bool.and_true, Bool.true_and, Bool.and_false, Bool.false_and, c]); (try simp (disch := omega) only [wrap_id, Int.natCast_zero, Int.sub_zero, Int.toNat_natCast, Int.toNat_zero, Int.cast_ofNat_Int, Int.sub_self]))
    exact fin_ret (isV_shut h) ⟨rfl, rfl⟩
  | false =>
    ((try simp only [S, TY, reduceCtorEq, Nat.reduceEqDiff, Nat.reduceAdd, Nat.reduceLeDiff, Nat.reduceMul, Nat.ble_eq, Int.toNat_natCast, Nat.mul_one, Nat.add_zero, decide_true, decide_false, beq_self_eq_true, bne_self_eq_false, beq_iff_eq, bne_iff_ne, ne_eq, Int.reduceEq, Int.reduceLT, Int.reduceLE, Int.reduceAdd, Int.reduceSub, bs_toList, mk_toList, bs_size, mk_size, not_true_eq_false, not_false_eq_true, List.length_nil, Int.cast_ofNat_Int, Int.natCast_zero, Int.natCast_one, Int.toNat_zero, Int.toNat_one, true_implies, Option.getD_some, Nat.zero_mul, Bool.or_true, Bool.true_or, Bool.false_or, Bool.and_true, Bool.true_and, Bool.and_false, Bool.false_and, c]); (try simp (disch := omega) only [wrap_id, Int.natCast_zero, Int.sub_zero, Int.toNat_natCast, Int.toNat_zero, Int.cast_ofNat_Int, Int.sub_self]))
    exact fin_take (B := [own 5 1 _ (bv b)]) (h.front 1) ⟨_, rfl, rfl⟩
theorem alive {G : Hp} : Con Try.prog G 46 [] [] (fun v B => v = .bool true ∧ B = []) := by
  refine Con.intro Try.func46 rfl (Nat.le_of_ble_eq_true (by kernel_rfl)) (by kernel_rfl) Try.results46 ?_
  intro H hH
  ((try simp only [S, TY, reduceCtorEq, Nat.reduceEqDiff, Nat.reduceAdd, Nat.reduceLeDiff, Nat.reduceMul, Nat.ble_eq, Int.toNat_natCast, Nat.mul_one, Nat.add_zero, decide_true, decide_false, beq_self_eq_true, bne_self_eq_false, beq_iff_eq, bne_iff_ne, ne_eq, Int.reduceEq, Int.reduceLT, Int.reduceLE, Int.reduceAdd, Int.reduceSub, bs_toList, mk_toList, bs_size, mk_size, not_true_eq_false, not_false_eq_true, List.length_nil, Int.cast_ofNat_Int, Int.natCast_zero, Int.natCast_one, Int.toNat_zero, Int.toNat_one, true_implies, Option.getD_some, Nat.zero_mul, Bool.or_true, Bool.true_or, Bool.false_or, Bool.and_true, Bool.true_and, Bool.and_false, Bool.false_and]); (try simp (disch := omega) only [wrap_id, Int.natCast_zero, Int.sub_zero, Int.toNat_natCast, Int.toNat_zero, Int.cast_ofNat_Int, Int.sub_self]))
  intro p hp hg
  have h1 := isW_shut (w := ⟨[], false⟩) ((hH.nil_ 5 1).new hp hg _)
  ((try simp only [S, TY, reduceCtorEq, Nat.reduceEqDiff, Nat.reduceAdd, Nat.reduceLeDiff, Nat.reduceMul, Nat.ble_eq, Int.toNat_natCast, Nat.mul_one, Nat.add_zero, decide_true, decide_false, beq_self_eq_true, bne_self_eq_false, beq_iff_eq, bne_iff_ne, ne_eq, Int.reduceEq, Int.reduceLT, Int.reduceLE, Int.reduceAdd, Int.reduceSub, bs_toList, mk_toList, bs_size, mk_size, not_true_eq_false, not_false_eq_true, List.length_nil, Int.cast_ofNat_Int, Int.natCast_zero, Int.natCast_one, Int.toNat_zero, Int.toNat_one, true_implies, Option.getD_some, Nat.zero_mul, Bool.or_true, Bool.true_or, Bool.false_or, Bool.and_true, Bool.true_and, Bool.and_false, Bool.false_and]); (try simp (disch := omega) only [wrap_id, Int.natCast_zero, Int.sub_zero, Int.toNat_natCast, Int.toNat_zero, Int.cast_ofNat_Int, Int.sub_self]))
  intro b hb hg
  have h2 := h1.newsl (e := 3) (sz := 1) (n := 1) (xs := iv [258]) hb hg rfl
  ((try simp only [S, TY, reduceCtorEq, Nat.reduceEqDiff, Nat.reduceAdd, Nat.reduceLeDiff, Nat.reduceMul, Nat.ble_eq, Int.toNat_natCast, Nat.mul_one, Nat.add_zero, decide_true, decide_false, beq_self_eq_true, bne_self_eq_false, beq_iff_eq, bne_iff_ne, ne_eq, Int.reduceEq, Int.reduceLT, Int.reduceLE, Int.reduceAdd, Int.reduceSub, bs_toList, mk_toList, bs_size, mk_size, not_true_eq_false, not_false_eq_true, List.length_nil, Int.cast_ofNat_Int, Int.natCast_zero, Int.natCast_one, Int.toNat_zero, Int.toNat_one, true_implies, Option.getD_some, Nat.zero_mul, Bool.or_true, Bool.true_or, Bool.false_or, Bool.and_true, Bool.true_and, Bool.and_false, Bool.false_and]); (try simp (disch := omega) only [wrap_id, Int.natCast_zero, Int.sub_zero, Int.toNat_natCast, Int.toNat_zero, Int.cast_ofNat_Int, Int.sub_self]))
  refine Con.lend_at [isW p _] [own 3 1 _ _] h2 [1, 0] rfl (fun F hF hs => put_ok (w := ⟨[], false⟩) (n := 3) (l := [258]) (seps_own hs 0 rfl).left (by decide)) fun v B H3 hv h3 => ?_
  obtain ⟨rfl, rfl⟩ := hv
  rw [show W.put ⟨[], false⟩ 3 [258] = ⟨[0, 1, 2], false⟩ by kernel_rfl] at h3
  replace h3 := sg.take1 h3
  ((try simp only [S, TY, reduceCtorEq, Nat.reduceEqDiff, Nat.reduceAdd, Nat.reduceLeDiff, Nat.reduceMul, Nat.ble_eq, Int.toNat_natCast, Nat.mul_one, Nat.add_zero, decide_true, decide_false, beq_self_eq_true, bne_self_eq_false, beq_iff_eq, bne_iff_ne, ne_eq, Int.reduceEq, Int.reduceLT, Int.reduceLE, Int.reduceAdd, Int.reduceSub, bs_toList, mk_toList, bs_size, mk_size, not_true_eq_false, not_false_eq_true, List.length_nil, Int.cast_ofNat_Int, Int.natCast_zero, Int.natCast_one, Int.toNat_zero, Int.toNat_one, true_implies, Option.getD_some, Nat.zero_mul, Bool.or_true, Bool.true_or, Bool.false_or, Bool.and_true, Bool.true_and, Bool.and_false, Bool.false_and]); (try simp (disch := omega) only [wrap_id, Int.natCast_zero, Int.sub_zero, Int.toNat_natCast, Int.toNat_zero, Int.cast_ofNat_Int, Int.sub_self]))
  intro b hb hg
  have h4 := h3.newsl (e := 5) (sz := 1) (n := 2) (xs := bv [97, 98]) hb hg rfl
  ((try simp only [S, TY, reduceCtorEq, Nat.reduceEqDiff, Nat.reduceAdd, Nat.reduceLeDiff, Nat.reduceMul, Nat.ble_eq, Int.toNat_natCast, Nat.mul_one, Nat.add_zero, decide_true, decide_false, beq_self_eq_true, bne_self_eq_false, beq_iff_eq, bne_iff_ne, ne_eq, Int.reduceEq, Int.reduceLT, Int.reduceLE, Int.reduceAdd, Int.reduceSub, bs_toList, mk_toList, bs_size, mk_size, not_true_eq_false, not_false_eq_true, List.length_nil, Int.cast_ofNat_Int, Int.natCast_zero, Int.natCast_one, Int.toNat_zero, Int.toNat_one, true_implies, Option.getD_some, Nat.zero_mul, Bool.or_true, Bool.true_or, Bool.false_or, Bool.and_true, Bool.true_and, Bool.and_false, Bool.false_and]); (try simp (disch := omega) only [wrap_id, Int.natCast_zero, Int.sub_zero, Int.toNat_natCast, Int.toNat_zero, Int.cast_ofNat_Int, Int.sub_self]))
  refine opConv_mark (show bySl Try.prog 47 = true from by kernel_rfl) (by decide) h4 fun H5 h5 => ?_
  ((try simp only [S, TY, reduceCtorEq, Nat.reduceEqDiff, Nat.reduceAdd, Nat.reduceLeDiff, Nat.reduceMul, Nat.ble_eq, Int.toNat_natCast, Nat.mul_one, Nat.add_zero, decide_true, decide_false, beq_self_eq_true, bne_self_eq_false, beq_iff_eq, bne_iff_ne, ne_eq, Int.reduceEq, Int.reduceLT, Int.reduceLE, Int.reduceAdd, Int.reduceSub, bs_toList, mk_toList, bs_size, mk_size, not_true_eq_false, not_false_eq_true, List.length_nil, Int.cast_ofNat_Int, Int.natCast_zero, Int.natCast_one, Int.toNat_zero, Int.toNat_one, true_implies, Option.getD_some, Nat.zero_mul, Bool.or_true, Bool.true_or, Bool.false_or, Bool.and_true, Bool.true_and, Bool.and_false, Bool.false_and]); (try simp (disch := omega) only [wrap_id, Int.natCast_zero, Int.sub_zero, Int.toNat_natCast, Int.toNat_zero, Int.cast_ofNat_Int, Int.sub_self]))
  refine Con.lend_at [isW p _] [own 5 1 _ _] h5 [1, 0] rfl (fun F hF hs => Buf.bytes_ok (w := ⟨[0, 1, 2], false⟩) (l := [97, 98]) (seps_own hs 0 rfl).left (by decide)) fun v B H6 hv h6 => ?_
  obtain ⟨rfl, rfl⟩ := hv
  rw [show W.bytes ⟨[0, 1, 2], false⟩ [97, 98] = ⟨[0, 1, 2, 0, 2, 97, 98], false⟩ by kernel_rfl] at h6
  replace h6 := sg.take1 h6
  ((try simp only [S, TY, reduceCtorEq, Nat.reduceEqDiff, Nat.reduceAdd, Nat.reduceLeDiff, Nat.reduceMul, Nat.ble_eq, Int.toNat_natCast, Nat.mul_one, Nat.add_zero, decide_true, decide_false, beq_self_eq_true, bne_self_eq_false, beq_iff_eq, bne_iff_ne, ne_eq, Int.reduceEq, Int.reduceLT, Int.reduceLE, Int.reduceAdd, Int.reduceSub, bs_toList, mk_toList, bs_size, mk_size, not_true_eq_false, not_false_eq_true, List.length_nil, Int.cast_ofNat_Int, Int.natCast_zero, Int.natCast_one, Int.toNat_zero, Int.toNat_one, true_implies, Option.getD_some, Nat.zero_mul, Bool.or_true, Bool.true_or, Bool.false_or, Bool.and_true, Bool.true_and, Bool.and_false, Bool.false_and]); (try simp (disch := omega) only [wrap_id, Int.natCast_zero, Int.sub_zero, Int.toNat_natCast, Int.toNat_zero, Int.cast_ofNat_Int, Int.sub_self]))
  intro b hb hg
  have h7 := h6.newsl (e := 3) (sz := 1) (n := 2) (xs := iv [7, 9]) hb hg rfl
  ((try simp only [S, TY, reduceCtorEq, Nat.reduceEqDiff, Nat.reduceAdd, Nat.reduceLeDiff, Nat.reduceMul, Nat.ble_eq, Int.toNat_natCast, Nat.mul_one, Nat.add_zero, decide_true, decide_false, beq_self_eq_true, bne_self_eq_false, beq_iff_eq, bne_iff_ne, ne_eq, Int.reduceEq, Int.reduceLT, Int.reduceLE, Int.reduceAdd, Int.reduceSub, bs_toList, mk_toList, bs_size, mk_size, not_true_eq_false, not_false_eq_true, List.length_nil, Int.cast_ofNat_Int, Int.natCast_zero, Int.natCast_one, Int.toNat_zero, Int.toNat_one, true_implies, Option.getD_some, Nat.zero_mul, Bool.or_true, Bool.true_or, Bool.false_or, Bool.and_true, Bool.true_and, Bool.and_false, Bool.false_and]); (try simp (disch := omega) only [wrap_id, Int.natCast_zero, Int.sub_zero, Int.toNat_natCast, Int.toNat_zero, Int.cast_ofNat_Int, Int.sub_self]))
  refine Con.lend_at [isW p _] [own 3 1 _ _] h7 [1, 0] rfl (fun F hF hs => put_ok (w := ⟨[0, 1, 2, 0, 2, 97, 98], false⟩) (n := 1) (l := [7, 9]) (seps_own hs 0 rfl).left (by decide)) fun v B H8 hv h8 => ?_
  obtain ⟨rfl, rfl⟩ := hv
  rw [show W.put ⟨[0, 1, 2, 0, 2, 97, 98], false⟩ 1 [7, 9] = ⟨[0, 1, 2, 0, 2, 97, 98, 7, 9], false⟩ by kernel_rfl] at h8
  replace h8 := sg.take1 h8
  ((try simp only [S, TY, reduceCtorEq, Nat.reduceEqDiff, Nat.reduceAdd, Nat.reduceLeDiff, Nat.reduceMul, Nat.ble_eq, Int.toNat_natCast, Nat.mul_one, Nat.add_zero, decide_true, decide_false, beq_self_eq_true, bne_self_eq_false, beq_iff_eq, bne_iff_ne, ne_eq, Int.reduceEq, Int.reduceLT, Int.reduceLE, Int.reduceAdd, Int.reduceSub, bs_toList, mk_toList, bs_size, mk_size, not_true_eq_false, not_false_eq_true, List.length_nil, Int.cast_ofNat_Int, Int.natCast_zero, Int.natCast_one, Int.toNat_zero, Int.toNat_one, true_implies, Option.getD_some, Nat.zero_mul, Bool.or_true, Bool.true_or, Bool.false_or, Bool.and_true, Bool.true_and, Bool.and_false, Bool.false_and]); (try simp (disch := omega) only [wrap_id, Int.natCast_zero, Int.sub_zero, Int.toNat_natCast, Int.toNat_zero, Int.cast_ofNat_Int, Int.sub_self]))
  refine (Buf.done_ok (w := ⟨[0, 1, 2, 0, 2, 97, 98, 7, 9], false⟩) (by decide)).at_ h8 [0] _ rfl fun v B H9 hv h9 => ?_
  obtain ⟨v, rfl, rfl⟩ := hv
  replace h9 := sg.take1 h9
  obtain ⟨sa, sn, sc, rfl, _, _⟩ := h9.sl 0 rfl Rd_own
  ((try simp only [S, TY, reduceCtorEq, Nat.reduceEqDiff, Nat.reduceAdd, Nat.reduceLeDiff, Nat.reduceMul, Nat.ble_eq, Int.toNat_natCast, Nat.mul_one, Nat.add_zero, decide_true, decide_false, beq_self_eq_true, bne_self_eq_false, beq_iff_eq, bne_iff_ne, ne_eq, Int.reduceEq, Int.reduceLT, Int.reduceLE, Int.reduceAdd, Int.reduceSub, bs_toList, mk_toList, bs_size, mk_size, not_true_eq_false, not_false_eq_true, List.length_nil, Int.cast_ofNat_Int, Int.natCast_zero, Int.natCast_one, Int.toNat_zero, Int.toNat_one, true_implies, Option.getD_some, Nat.zero_mul, Bool.or_true, Bool.true_or, Bool.false_or, Bool.and_true, Bool.true_and, Bool.and_false, Bool.false_and]); (try simp (disch := omega) only [wrap_id, Int.natCast_zero, Int.sub_zero, Int.toNat_natCast, Int.toNat_zero, Int.cast_ofNat_Int, Int.sub_self]))
  refine Con.lend_at [] [own 5 1 _ _] h9 [0] rfl (fun F hF hs => read_ok (seps_own hs 0 rfl).left (by decide)) fun v B H10 hv h10 => ?_
  obtain ⟨q, rfl, rfl⟩ := hv
  ((try simp only [S, TY, reduceCtorEq, Nat.reduceEqDiff, Nat.reduceAdd, Nat.reduceLeDiff, Nat.reduceMul, Nat.ble_eq, Int.toNat_natCast, Nat.mul_one, Nat.add_zero, decide_true, decide_false, beq_self_eq_true, bne_self_eq_false, beq_iff_eq, bne_iff_ne, ne_eq, Int.reduceEq, Int.reduceLT, Int.reduceLE, Int.reduceAdd, Int.reduceSub, bs_toList, mk_toList, bs_size, mk_size, not_true_eq_false, not_false_eq_true, List.length_nil, Int.cast_ofNat_Int, Int.natCast_zero, Int.natCast_one, Int.toNat_zero, Int.toNat_one, true_implies, Option.getD_some, Nat.zero_mul, Bool.or_true, Bool.true_or, Bool.false_or, Bool.and_true, Bool.true_and, Bool.and_false, Bool.false_and]); (try simp (disch := omega) only [wrap_id, Int.natCast_zero, Int.sub_zero, Int.toNat_natCast, Int.toNat_zero, Int.cast_ofNat_Int, Int.sub_self]))
  refine (get_ok (r := ⟨[0, 1, 2, 0, 2, 97, 98, 7, 9], false⟩) 3 (by decide)).at_ h10 [0] _ rfl fun v B H11 hv h11 => ?_
  obtain ⟨rfl, rfl⟩ := hv
  rw [show R.get ⟨[0, 1, 2, 0, 2, 97, 98, 7, 9], false⟩ 3 = (⟨[0, 2, 97, 98, 7, 9], false⟩, 258) by kernel_rfl] at *
  ((try simp only [S, TY, reduceCtorEq, Nat.reduceEqDiff, Nat.reduceAdd, Nat.reduceLeDiff, Nat.reduceMul, Nat.ble_eq, Int.toNat_natCast, Nat.mul_one, Nat.add_zero, decide_true, decide_false, beq_self_eq_true, bne_self_eq_false, beq_iff_eq, bne_iff_ne, ne_eq, Int.reduceEq, Int.reduceLT, Int.reduceLE, Int.reduceAdd, Int.reduceSub, bs_toList, mk_toList, bs_size, mk_size, not_true_eq_false, not_false_eq_true, List.length_nil, Int.cast_ofNat_Int, Int.natCast_zero, Int.natCast_one, Int.toNat_zero, Int.toNat_one, true_implies, Option.getD_some, Nat.zero_mul, Bool.or_true, Bool.true_or, Bool.false_or, Bool.and_true, Bool.true_and, Bool.and_false, Bool.false_and]); (try simp (disch := omega) only [wrap_id, Int.natCast_zero, Int.sub_zero, Int.toNat_natCast, Int.toNat_zero, Int.cast_ofNat_Int, Int.sub_self]))
  refine (BufRe.bytes_ok (r := ⟨[0, 2, 97, 98, 7, 9], false⟩) 2 (by decide)).at_ h11 [0] _ rfl fun v B H12 hv h12 => ?_
  subst hv
  rw [show R.bytes ⟨[0, 2, 97, 98, 7, 9], false⟩ 2 = (⟨[7, 9], false⟩, [97, 98]) by kernel_rfl] at *
  obtain ⟨ta, tn, tc, rfl, _, _⟩ := h12.sl 0 rfl Rd_own
  ((try simp only [S, TY, reduceCtorEq, Nat.reduceEqDiff, Nat.reduceAdd, Nat.reduceLeDiff, Nat.reduceMul, Nat.ble_eq, Int.toNat_natCast, Nat.mul_one, Nat.add_zero, decide_true, decide_false, beq_self_eq_true, bne_self_eq_false, beq_iff_eq, bne_iff_ne, ne_eq, Int.reduceEq, Int.reduceLT, Int.reduceLE, Int.reduceAdd, Int.reduceSub, bs_toList, mk_toList, bs_size, mk_size, not_true_eq_false, not_false_eq_true, List.length_nil, Int.cast_ofNat_Int, Int.natCast_zero, Int.natCast_one, Int.toNat_zero, Int.toNat_one, true_implies, Option.getD_some, Nat.zero_mul, Bool.or_true, Bool.true_or, Bool.false_or, Bool.and_true, Bool.true_and, Bool.and_false, Bool.false_and]); (try simp (disch := omega) only [wrap_id, Int.natCast_zero, Int.sub_zero, Int.toNat_natCast, Int.toNat_zero, Int.cast_ofNat_Int, Int.sub_self]))
  refine (rest_ok (r := ⟨[7, 9], false⟩) (by decide)).at_ h12 [1] _ rfl fun v B H13 hv h13 => ?_
  subst hv
  rw [show R.rest ⟨[7, 9], false⟩ = (⟨[], false⟩, [7, 9]) by kernel_rfl] at *
  obtain ⟨ua, un, uc, rfl, _, _⟩ := h13.sl 0 rfl Rd_own
  have s1 := rStr_of (P := Try.prog) (h13.rdsi 0 rfl Rd_own)
  have s2 := rStr_of (P := Try.prog) (h13.rdsi 2 rfl Rd_own)
  have s3 := rStr_of (P := Try.prog) (h13.rdsi 3 rfl Rd_own)
  ((try simp only [S, TY, reduceCtorEq, Nat.reduceEqDiff, Nat.reduceAdd, Nat.reduceLeDiff, Nat.reduceMul, Nat.ble_eq, Int.toNat_natCast, Nat.mul_one, Nat.add_zero, decide_true, decide_false, beq_self_eq_true, bne_self_eq_false, beq_iff_eq, bne_iff_ne, ne_eq, Int.reduceEq, Int.reduceLT, Int.reduceLE, Int.reduceAdd, Int.reduceSub, bs_toList, mk_toList, bs_size, mk_size, not_true_eq_false, not_false_eq_true, List.length_nil, Int.cast_ofNat_Int, Int.natCast_zero, Int.natCast_one, Int.toNat_zero, Int.toNat_one, true_implies, Option.getD_some, Nat.zero_mul, Bool.or_true, Bool.true_or, Bool.false_or, Bool.and_true, Bool.true_and, Bool.and_false, Bool.false_and, s1, s2, s3]); (try simp (disch := omega) only [wrap_id, Int.natCast_zero, Int.sub_zero, Int.toNat_natCast, Int.toNat_zero, Int.cast_ofNat_Int, Int.sub_self]))
  refine (BufRe.done_ok (r := ⟨[], false⟩)).at_ h13 [1] _ rfl fun v B H14 hv h14 => ?_
  obtain ⟨rfl, rfl⟩ := hv
  rw [show R.done ⟨[], false⟩ = 0 by kernel_rfl]
  ((try simp only [S, TY, reduceCtorEq, Nat.reduceEqDiff, Nat.reduceAdd, Nat.reduceLeDiff, Nat.reduceMul, Nat.ble_eq, Int.toNat_natCast, Nat.mul_one, Nat.add_zero, decide_true, decide_false, beq_self_eq_true, bne_self_eq_false, beq_iff_eq, bne_iff_ne, ne_eq, Int.reduceEq, Int.reduceLT, Int.reduceLE, Int.reduceAdd, Int.reduceSub, bs_toList, mk_toList, bs_size, mk_size, not_true_eq_false, not_false_eq_true, List.length_nil, Int.cast_ofNat_Int, Int.natCast_zero, Int.natCast_one, Int.toNat_zero, Int.toNat_one, true_implies, Option.getD_some, Nat.zero_mul, Bool.or_true, Bool.true_or, Bool.false_or, Bool.and_true, Bool.true_and, Bool.and_false, Bool.false_and]); (try simp (disch := omega) only [wrap_id, Int.natCast_zero, Int.sub_zero, Int.toNat_natCast, Int.toNat_zero, Int.cast_ofNat_Int, Int.sub_self]))
  exact fin_take (B := []) h14 ⟨rfl, rfl⟩
end Go.Proofs.Ytkdcapgjmcjdjaa.BufW
