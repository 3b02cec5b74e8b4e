/- The law's step on files that may be torn, over the machine. -/
import Derived.Test.YtkdcapgjmcjdjaaDiskL
set_option linter.unusedVariables false
set_option linter.unusedSimpArgs false
set_option maxRecDepth 10000
namespace Go.Proofs.Ytkdcapgjmcjdjaa.DiskS
open Go Go.Sl Go.Proofs Go.Proofs.Ytkdcapgjmcjdjaa.Disk Go.Proofs.Ytkdcapgjmcjdjaa.DiskR Go.Proofs.Ytkdcapgjmcjdjaa.DiskL
theorem TY : aggN Try.prog 3 = some none ∧
  aggN Try.prog 5 = some none ∧
  aggN Try.prog 9 = some none ∧
  aggN Try.prog 42 = some none ∧
  aggN Try.prog 43 = some none ∧
  aggN Try.prog 46 = some none ∧
  aggN Try.prog 47 = some none ∧
  aggN Try.prog 49 = some (some 3) ∧
  aggN Try.prog 52 = some (some 3) ∧
  apI Try.prog 47 = some (5, 1, 1) ∧
  bIs Try.prog 49 = true ∧
  bIs Try.prog 52 = true ∧
  bySl Try.prog 47 = true ∧
  csz Try.prog 3 = some 1 ∧
  csz Try.prog 5 = some 1 ∧
  csz Try.prog 9 = some 1 ∧
  csz Try.prog 42 = some 1 ∧
  csz Try.prog 43 = some 1 ∧
  csz Try.prog 46 = some 1 ∧
  csz Try.prog 47 = some 1 ∧
  csz Try.prog 49 = some 3 ∧
  csz Try.prog 52 = some 3 ∧
  fIs Try.prog 49 0 = true ∧
  fIs Try.prog 49 1 = true ∧
  fIs Try.prog 52 0 = true ∧
  fIs Try.prog 52 1 = true ∧
  fIs Try.prog 52 2 = true ∧
  fOff Try.prog 49 0 = 0 ∧
  fOff Try.prog 49 1 = 1 ∧
  fOff Try.prog 52 0 = 0 ∧
  fOff Try.prog 52 1 = 1 ∧
  fOff Try.prog 52 2 = 2 ∧
  fTy Try.prog 49 0 = 47 ∧
  fTy Try.prog 49 1 = 3 ∧
  fTy Try.prog 52 0 = 5 ∧
  fTy Try.prog 52 1 = 47 ∧
  fTy Try.prog 52 2 = 3 ∧
  goes Try.prog 26 = true ∧
  goes Try.prog 27 = true ∧
  goes Try.prog 28 = true ∧
  goes Try.prog 29 = true ∧
  goes Try.prog 30 = true ∧
  goes Try.prog 31 = true ∧
  goes Try.prog 91 = true ∧
  goes Try.prog 92 = true ∧
  goes Try.prog 93 = true ∧
  goes Try.prog 94 = true ∧
  inIs Try.prog 3 = some .i64 ∧
  inIs Try.prog 5 = some .u8 ∧
  inIs Try.prog 43 = some .i64 ∧
  plcs Try.prog 49 = [(0, 1), (1, 1), (2, 1)] ∧
  plcs Try.prog 52 = [(0, 1), (1, 1), (2, 1)] ∧
  ptIs Try.prog 42 = true ∧
  ptIs Try.prog 46 = true ∧
  slEl Try.prog 47 = 5 ∧
  slIs Try.prog 47 = true ∧
  slSz Try.prog 47 = 1 ∧
  stIs Try.prog 9 = true ∧
  zcs Try.prog 49 = [.slice none 0 0, .int .i64 0, .int .i64 0] ∧
  zcs Try.prog 52 = [.int .u8 0, .slice none 0 0, .int .i64 0] ∧
  zro Try.prog 3 = some (.int .i64 0) ∧
  zro Try.prog 5 = some (.int .u8 0) ∧
  zro Try.prog 9 = some (.string ByteArray.empty) ∧
  zro Try.prog 42 = some (.pointer none) ∧
  zro Try.prog 43 = some (.int .i64 0) ∧
  zro Try.prog 46 = some (.pointer none) ∧
  zro Try.prog 47 = some (.slice none 0 0) ∧
  zro Try.prog 49 = some (.agg #[.slice none 0 0, .int .i64 0, .int .i64 0]) ∧
  zro Try.prog 52 = some (.agg #[.int .u8 0, .slice none 0 0, .int .i64 0]) :=
  ⟨by kernel_rfl, by kernel_rfl, by kernel_rfl, by kernel_rfl, by kernel_rfl, by kernel_rfl, by kernel_rfl, by kernel_rfl, by kernel_rfl, by kernel_rfl, by kernel_rfl, by kernel_rfl, by kernel_rfl, by kernel_rfl, by kernel_rfl, by kernel_rfl, by kernel_rfl, by kernel_rfl, by kernel_rfl, by kernel_rfl, by kernel_rfl, by kernel_rfl, by kernel_rfl, by kernel_rfl, by kernel_rfl, by kernel_rfl, by kernel_rfl, by kernel_rfl, by kernel_rfl, by kernel_rfl, by kernel_rfl, by kernel_rfl, by kernel_rfl, by kernel_rfl, by kernel_rfl, by kernel_rfl, by kernel_rfl, by kernel_rfl, by kernel_rfl, by kernel_rfl, by kernel_rfl, by kernel_rfl, by kernel_rfl, by kernel_rfl, by kernel_rfl, by kernel_rfl, by kernel_rfl, by kernel_rfl, by kernel_rfl, by kernel_rfl, by kernel_rfl, by kernel_rfl, by kernel_rfl, by kernel_rfl, by kernel_rfl, by kernel_rfl, by kernel_rfl, by kernel_rfl, by kernel_rfl, by kernel_rfl, by kernel_rfl, by kernel_rfl, by kernel_rfl, by kernel_rfl, by kernel_rfl, by kernel_rfl, by kernel_rfl, by kernel_rfl, by kernel_rfl⟩
structure Same (f : F) (m : D) : Prop where
  ok : f.ok
  b : m.b = f.safe ++ f.loose
  s : m.safe = f.safe.length
  r : m.room = f.room
theorem bl_le {f : F} (h : f.ok) : f.safe.length + f.loose.length ≤ 16777216 := by obtain ⟨h1, h2⟩ := h; omega
theorem tail {G : Hp} {p q : Nat} {f : F} {m : D} (h : Same f m) {L : List Asn} {e : Env} {H : Hp} (h0 : e 0 = .pointer (some ⟨p, 0, none⟩)) (h1 : e 1 = .pointer (some ⟨q, 0, none⟩)) (h7 : e 7 = .bool true)
    (hH : sg G (isF p f :: isD q m :: L) H) {Q : Post} (k : ∀ e' H', e' 6 = .bool true → sg G (isF p f :: isD q m :: L) H' → Q .normal e' H') : cl Try.prog G (Go.Code.region 14 #[{ dst := some 57, op := Go.Op.move (Go.Operand.tmp 7), type := 4, pos := "law.go:65", after := #[], guard := none }, { dst := some 58, op := Go.Op.move (Go.Operand.tmp 57), type := 4, pos := "law.go:65", after := #[{ on := 0, ground := Go.Ground.data }], guard := none }, { dst := some 59, op := Go.Op.move (Go.Operand.tmp 0), type := 42, pos := "law.go:65", after := #[{ on := 1, ground := Go.Ground.guard }], guard := some (1, true) }, { dst := some 60, op := Go.Op.call { callee := Go.Callee.value (Go.Operand.func 31), args := #[Go.Operand.tmp 59], argTypes := #[42] }, type := 47, pos := "law.go:65", after := #[{ on := 2, ground := Go.Ground.data }, { on := 1, ground := Go.Ground.chain }, { on := 1, ground := Go.Ground.guard }], guard := some (1, true) }, { dst := some 61, op := Go.Op.convert 47 9 (Go.Operand.tmp 60), type := 9, pos := "law.go:65", after := #[{ on := 3, ground := Go.Ground.data }, { on := 1, ground := Go.Ground.guard }], guard := some (1, true) }, { dst := some 62, op := Go.Op.move (Go.Operand.tmp 1), type := 46, pos := "law.go:65", after := #[{ on := 1, ground := Go.Ground.guard }], guard := some (1, true) }, { dst := some 63, op := Go.Op.nilCheck (Go.Operand.tmp 62), type := 0, pos := "law.go:65", after := #[{ on := 5, ground := Go.Ground.data }, { on := 1, ground := Go.Ground.guard }], guard := some (1, true) }, { dst := some 64, op := Go.Op.fieldAddr 49 (Go.Operand.tmp 63) 0, type := 0, pos := "law.go:65", after := #[{ on := 6, ground := Go.Ground.data }, { on := 1, ground := Go.Ground.guard }], guard := some (1, true) }, { dst := some 65, op := Go.Op.load 47 (Go.Operand.tmp 64), type := 47, pos := "law.go:65", after := #[{ on := 7, ground := Go.Ground.data }, { on := 1, ground := Go.Ground.guard }], guard := some (1, true) }, { dst := some 66, op := Go.Op.convert 47 9 (Go.Operand.tmp 65), type := 9, pos := "law.go:65", after := #[{ on := 8, ground := Go.Ground.data }, { on := 1, ground := Go.Ground.guard }], guard := some (1, true) }, { dst := some 67, op := Go.Op.binOp Go.BinOp.eql 9 (Go.Operand.tmp 61) (Go.Operand.tmp 66) 9, type := 4, pos := "law.go:65", after := #[{ on := 4, ground := Go.Ground.data }, { on := 9, ground := Go.Ground.data }, { on := 1, ground := Go.Ground.guard }], guard := some (1, true) }, { dst := some 68, op := Go.Op.pick (Go.Operand.tmp 58) (Go.Operand.tmp 67) (Go.Operand.const (Go.Value.bool false)), type := 4, pos := "law.go:65", after := #[{ on := 1, ground := Go.Ground.data }, { on := 10, ground := Go.Ground.data }], guard := none }, { dst := some 69, op := Go.Op.move (Go.Operand.tmp 68), type := 4, pos := "law.go:65", after := #[{ on := 11, ground := Go.Ground.data }, { on := 3, ground := Go.Ground.chain }], guard := none }, { dst := some 70, op := Go.Op.move (Go.Operand.tmp 0), type := 42, pos := "law.go:65", after := #[{ on := 12, ground := Go.Ground.guard }], guard := some (12, true) }, { dst := some 71, op := Go.Op.call { callee := Go.Callee.value (Go.Operand.func 30), args := #[Go.Operand.tmp 70], argTypes := #[42] }, type := 3, pos := "law.go:65", after := #[{ on := 13, ground := Go.Ground.data }, { on := 12, ground := Go.Ground.chain }, { on := 12, ground := Go.Ground.guard }], guard := some (12, true) }, { dst := some 72, op := Go.Op.move (Go.Operand.tmp 1), type := 46, pos := "law.go:65", after := #[{ on := 12, ground := Go.Ground.guard }], guard := some (12, true) }, { dst := some 73, op := Go.Op.nilCheck (Go.Operand.tmp 72), type := 0, pos := "law.go:65", after := #[{ on := 15, ground := Go.Ground.data }, { on := 12, ground := Go.Ground.guard }], guard := some (12, true) }, { dst := some 74, op := Go.Op.fieldAddr 49 (Go.Operand.tmp 73) 1, type := 0, pos := "law.go:65", after := #[{ on := 16, ground := Go.Ground.data }, { on := 12, ground := Go.Ground.guard }], guard := some (12, true) }, { dst := some 75, op := Go.Op.load 3 (Go.Operand.tmp 74), type := 3, pos := "law.go:65", after := #[{ on := 17, ground := Go.Ground.data }, { on := 12, ground := Go.Ground.guard }], guard := some (12, true) }, { dst := some 76, op := Go.Op.binOp Go.BinOp.eql 3 (Go.Operand.tmp 71) (Go.Operand.tmp 75) 3, type := 4, pos := "law.go:65", after := #[{ on := 14, ground := Go.Ground.data }, { on := 18, ground := Go.Ground.data }, { on := 12, ground := Go.Ground.guard }], guard := some (12, true) }, { dst := some 77, op := Go.Op.pick (Go.Operand.tmp 69) (Go.Operand.tmp 76) (Go.Operand.const (Go.Value.bool false)), type := 4, pos := "law.go:65", after := #[{ on := 12, ground := Go.Ground.data }, { on := 19, ground := Go.Ground.data }], guard := none }, { dst := some 6, op := Go.Op.assign (Go.Operand.tmp 77), type := 4, pos := "law.go:65", after := #[{ on := 20, ground := Go.Ground.data }, { on := 14, ground := Go.Ground.chain }, { on := 0, ground := Go.Ground.phase }, { on := 1, ground := Go.Ground.phase }, { on := 2, ground := Go.Ground.phase }, { on := 3, ground := Go.Ground.phase }, { on := 4, ground := Go.Ground.phase }, { on := 5, ground := Go.Ground.phase }, { on := 6, ground := Go.Ground.phase }, { on := 7, ground := Go.Ground.phase }, { on := 8, ground := Go.Ground.phase }, { on := 9, ground := Go.Ground.phase }, { on := 10, ground := Go.Ground.phase }, { on := 11, ground := Go.Ground.phase }, { on := 12, ground := Go.Ground.phase }, { on := 13, ground := Go.Ground.phase }, { on := 14, ground := Go.Ground.phase }, { on := 15, ground := Go.Ground.phase }, { on := 16, ground := Go.Ground.phase }, { on := 17, ground := Go.Ground.phase }, { on := 18, ground := Go.Ground.phase }, { on := 19, ground := Go.Ground.phase }, { on := 20, ground := Go.Ground.phase }], guard := none }] true) Q e H := by
  have hle := bl_le h.ok
  obtain ⟨ma, mn, mc, e1, e2, g0⟩ := isD_open (hH.front 1)
  have c0 := g0.c0
  have s0 := rStr_of (P := Try.prog) (g0.rdsi 1 rfl Rd_own)
  rw [h.b] at s0
  ((try simp only [S, TY, reduceCtorEq, Nat.reduceEqDiff, Nat.reduceAdd, Nat.reduceLeDiff, Nat.reduceMul, Nat.ble_eq, Int.toNat_natCast, Nat.mul_one, Nat.add_zero, decide_true, decide_false, beq_self_eq_true, bne_self_eq_false, beq_iff_eq, bne_iff_ne, ne_eq, Int.reduceEq, Int.reduceLT, Int.reduceLE, Int.reduceAdd, Int.reduceSub, bs_toList, mk_toList, bs_size, mk_size, not_true_eq_false, not_false_eq_true, List.length_nil, Int.cast_ofNat_Int, Int.natCast_zero, Int.natCast_one, h0, h1, h7]); (try simp (disch := omega) only [wrap_id, Int.natCast_zero, Int.sub_zero, Int.toNat_natCast, Int.toNat_zero, Int.cast_ofNat_Int, Int.sub_self]); repeat (first | (refine cl_draw (i := 14) (nn [0, 0, 0, 3] ++ ([(1, [3])] ++ (nn [0, 0, 0, 1, 1, 0, 0, 0, 0, 3, 0, 0, 0] ++ ([(1, [3])] ++ (nn [0, 0, 0]))))) (List.range 22) (by kernel_rfl) ?_; simp only [S, TY, reduceCtorEq, Nat.reduceEqDiff, Nat.reduceAdd, Nat.reduceLeDiff, Nat.reduceMul, Nat.ble_eq, Int.toNat_natCast, Nat.mul_one, Nat.add_zero, decide_true, decide_false, beq_self_eq_true, bne_self_eq_false, beq_iff_eq, bne_iff_ne, ne_eq, Int.reduceEq, Int.reduceLT, Int.reduceLE, Int.reduceAdd, Int.reduceSub, bs_toList, mk_toList, bs_size, mk_size, not_true_eq_false, not_false_eq_true, List.length_nil, Int.cast_ofNat_Int, Int.natCast_zero, Int.natCast_one, h0, h1, h7]; (try simp (disch := omega) only [wrap_id, Int.natCast_zero, Int.sub_zero, Int.toNat_natCast, Int.toNat_zero, Int.cast_ofNat_Int, Int.sub_self]))))
  refine (bytes_ok h.ok).at_ g0 [2] _ rfl fun v B H1 hv g1 => ?_
  subst hv
  have s := rStr_of (P := Try.prog) (g1.rdsi 0 rfl Rd_own)
  obtain ⟨sa, sn, sc, rfl, _, _⟩ := g1.sl 0 rfl Rd_own
  have c := ucell_of (G := G) (g1.at_ 2 rfl)
  have s2 := rStr_of (P := Try.prog) (g1.rdsi 3 rfl Rd_own)
  rw [h.b] at s2
  ((try simp only [S, TY, reduceCtorEq, Nat.reduceEqDiff, Nat.reduceAdd, Nat.reduceLeDiff, Nat.reduceMul, Nat.ble_eq, Int.toNat_natCast, Nat.mul_one, Nat.add_zero, decide_true, decide_false, beq_self_eq_true, bne_self_eq_false, beq_iff_eq, bne_iff_ne, ne_eq, Int.reduceEq, Int.reduceLT, Int.reduceLE, Int.reduceAdd, Int.reduceSub, bs_toList, mk_toList, bs_size, mk_size, not_true_eq_false, not_false_eq_true, List.length_nil, Int.cast_ofNat_Int, Int.natCast_zero, Int.natCast_one, h0, h1, h7, s, c, s2, c0, s0]); (try simp (disch := omega) only [wrap_id, Int.natCast_zero, Int.sub_zero, Int.toNat_natCast, Int.toNat_zero, Int.cast_ofNat_Int, Int.sub_self]); repeat (first | (refine cl_draw (i := 14) (nn [0, 0, 0, 3] ++ ([(1, [3])] ++ (nn [0, 0, 0, 1, 1, 0, 0, 0, 0, 3, 0, 0, 0] ++ ([(1, [3])] ++ (nn [0, 0, 0]))))) (List.range 22) (by kernel_rfl) ?_; simp only [S, TY, reduceCtorEq, Nat.reduceEqDiff, Nat.reduceAdd, Nat.reduceLeDiff, Nat.reduceMul, Nat.ble_eq, Int.toNat_natCast, Nat.mul_one, Nat.add_zero, decide_true, decide_false, beq_self_eq_true, bne_self_eq_false, beq_iff_eq, bne_iff_ne, ne_eq, Int.reduceEq, Int.reduceLT, Int.reduceLE, Int.reduceAdd, Int.reduceSub, bs_toList, mk_toList, bs_size, mk_size, not_true_eq_false, not_false_eq_true, List.length_nil, Int.cast_ofNat_Int, Int.natCast_zero, Int.natCast_one, h0, h1, h7, s, c, s2, c0, s0]; (try simp (disch := omega) only [wrap_id, Int.natCast_zero, Int.sub_zero, Int.toNat_natCast, Int.toNat_zero, Int.cast_ofNat_Int, Int.sub_self]))))
  refine safe_ok.at_ g1 [1] _ rfl fun v B H2 hv g2 => ?_
  obtain ⟨rfl, rfl⟩ := hv
  have c2 := ucell_of (G := G) (g2.at_ 2 rfl)
  have hsl := h.s
  ((try simp only [S, TY, reduceCtorEq, Nat.reduceEqDiff, Nat.reduceAdd, Nat.reduceLeDiff, Nat.reduceMul, Nat.ble_eq, Int.toNat_natCast, Nat.mul_one, Nat.add_zero, decide_true, decide_false, beq_self_eq_true, bne_self_eq_false, beq_iff_eq, bne_iff_ne, ne_eq, Int.reduceEq, Int.reduceLT, Int.reduceLE, Int.reduceAdd, Int.reduceSub, bs_toList, mk_toList, bs_size, mk_size, not_true_eq_false, not_false_eq_true, List.length_nil, Int.cast_ofNat_Int, Int.natCast_zero, Int.natCast_one, h0, h1, h7, s, c, s2, c0, s0, c2, hsl]); (try simp (disch := omega) only [wrap_id, Int.natCast_zero, Int.sub_zero, Int.toNat_natCast, Int.toNat_zero, Int.cast_ofNat_Int, Int.sub_self]); repeat (first | (refine cl_draw (i := 14) (nn [0, 0, 0, 3] ++ ([(1, [3])] ++ (nn [0, 0, 0, 1, 1, 0, 0, 0, 0, 3, 0, 0, 0] ++ ([(1, [3])] ++ (nn [0, 0, 0]))))) (List.range 22) (by kernel_rfl) ?_; simp only [S, TY, reduceCtorEq, Nat.reduceEqDiff, Nat.reduceAdd, Nat.reduceLeDiff, Nat.reduceMul, Nat.ble_eq, Int.toNat_natCast, Nat.mul_one, Nat.add_zero, decide_true, decide_false, beq_self_eq_true, bne_self_eq_false, beq_iff_eq, bne_iff_ne, ne_eq, Int.reduceEq, Int.reduceLT, Int.reduceLE, Int.reduceAdd, Int.reduceSub, bs_toList, mk_toList, bs_size, mk_size, not_true_eq_false, not_false_eq_true, List.length_nil, Int.cast_ofNat_Int, Int.natCast_zero, Int.natCast_one, h0, h1, h7, s, c, s2, c0, s0, c2, hsl]; (try simp (disch := omega) only [wrap_id, Int.natCast_zero, Int.sub_zero, Int.toNat_natCast, Int.toNat_zero, Int.cast_ofNat_Int, Int.sub_self]))))
  exact k _ _ rfl ((((isD_shut (g2.fronts [2, 2])).front 2).tail).front 1)
theorem step_ok {G : Hp} {p q : Nat} {f : F} {m : D} (h : Same f m) {k n : Int} {w : Value} {l : List UInt8} (hw : rds G 1 w (bv l)) (hl : l.length ≤ 70368744177664) (hk : (Lit.int .u8 k).wf = true) :
    Con Try.prog G 25 [.pointer (some ⟨p, 0, none⟩), .pointer (some ⟨q, 0, none⟩), .agg #[.int .u8 k, w, .int .i64 n]] [isF p f, isD q m]
      (fun v B => v = .bool true ∧ ∃ f' m', Same f' m' ∧ f'.room = f.room ∧ B = [isF p f', isD q m']) := by
  obtain ⟨h1, h2, h3, h4⟩ := id h
  obtain ⟨f1, f2⟩ := id h1
  have hle := bl_le h.ok
  have hml : m.b.length = f.safe.length + f.loose.length := by rw [h2, List.length_append]
  refine Con.intro Try.func25 rfl (Nat.le_of_ble_eq_true (by kernel_rfl)) (by kernel_rfl) Try.results25 ?_
  intro H hH
  ((try simp only [S, TY, reduceCtorEq, Nat.reduceEqDiff, Nat.reduceAdd, Nat.reduceLeDiff, Nat.reduceMul, Nat.ble_eq, Int.toNat_natCast, Nat.mul_one, Nat.add_zero, decide_true, decide_false, beq_self_eq_true, bne_self_eq_false, beq_iff_eq, bne_iff_ne, ne_eq, Int.reduceEq, Int.reduceLT, Int.reduceLE, Int.reduceAdd, Int.reduceSub, bs_toList, mk_toList, bs_size, mk_size, not_true_eq_false, not_false_eq_true, List.length_nil, Int.cast_ofNat_Int, Int.natCast_zero, Int.natCast_one]); (try simp (disch := omega) only [wrap_id, Int.natCast_zero, Int.sub_zero, Int.toNat_natCast, Int.toNat_zero, Int.cast_ofNat_Int, Int.sub_self]); repeat (first | (refine cl_draw (i := 14) (nn [0, 0, 0, 3] ++ ([(1, [3])] ++ (nn [0, 0, 0, 1, 1, 0, 0, 0, 0, 3, 0, 0, 0] ++ ([(1, [3])] ++ (nn [0, 0, 0]))))) (List.range 22) (by kernel_rfl) ?_; simp only [S, TY, reduceCtorEq, Nat.reduceEqDiff, Nat.reduceAdd, Nat.reduceLeDiff, Nat.reduceMul, Nat.ble_eq, Int.toNat_natCast, Nat.mul_one, Nat.add_zero, decide_true, decide_false, beq_self_eq_true, bne_self_eq_false, beq_iff_eq, bne_iff_ne, ne_eq, Int.reduceEq, Int.reduceLT, Int.reduceLE, Int.reduceAdd, Int.reduceSub, bs_toList, mk_toList, bs_size, mk_size, not_true_eq_false, not_false_eq_true, List.length_nil, Int.cast_ofNat_Int, Int.natCast_zero, Int.natCast_one]; (try simp (disch := omega) only [wrap_id, Int.natCast_zero, Int.sub_zero, Int.toNat_natCast, Int.toNat_zero, Int.cast_ofNat_Int, Int.sub_self]))))
  intro b hb hg
  have h5 := hH.new hb hg (.cells #[.int .u8 k, w, .int .i64 n] 52 (0, 0))
  have c := h5.c0
  ((try simp only [S, TY, reduceCtorEq, Nat.reduceEqDiff, Nat.reduceAdd, Nat.reduceLeDiff, Nat.reduceMul, Nat.ble_eq, Int.toNat_natCast, Nat.mul_one, Nat.add_zero, decide_true, decide_false, beq_self_eq_true, bne_self_eq_false, beq_iff_eq, bne_iff_ne, ne_eq, Int.reduceEq, Int.reduceLT, Int.reduceLE, Int.reduceAdd, Int.reduceSub, bs_toList, mk_toList, bs_size, mk_size, not_true_eq_false, not_false_eq_true, List.length_nil, Int.cast_ofNat_Int, Int.natCast_zero, Int.natCast_one, c]); (try simp (disch := omega) only [wrap_id, Int.natCast_zero, Int.sub_zero, Int.toNat_natCast, Int.toNat_zero, Int.cast_ofNat_Int, Int.sub_self]); repeat (first | (refine cl_draw (i := 14) (nn [0, 0, 0, 3] ++ ([(1, [3])] ++ (nn [0, 0, 0, 1, 1, 0, 0, 0, 0, 3, 0, 0, 0] ++ ([(1, [3])] ++ (nn [0, 0, 0]))))) (List.range 22) (by kernel_rfl) ?_; simp only [S, TY, reduceCtorEq, Nat.reduceEqDiff, Nat.reduceAdd, Nat.reduceLeDiff, Nat.reduceMul, Nat.ble_eq, Int.toNat_natCast, Nat.mul_one, Nat.add_zero, decide_true, decide_false, beq_self_eq_true, bne_self_eq_false, beq_iff_eq, bne_iff_ne, ne_eq, Int.reduceEq, Int.reduceLT, Int.reduceLE, Int.reduceAdd, Int.reduceSub, bs_toList, mk_toList, bs_size, mk_size, not_true_eq_false, not_false_eq_true, List.length_nil, Int.cast_ofNat_Int, Int.natCast_zero, Int.natCast_one, c]; (try simp (disch := omega) only [wrap_id, Int.natCast_zero, Int.sub_zero, Int.toNat_natCast, Int.toNat_zero, Int.cast_ofNat_Int, Int.sub_self]))))
  refine Gate.intro (fun g => ?_) (fun g => ?_)
  · ((try simp only [S, TY, reduceCtorEq, Nat.reduceEqDiff, Nat.reduceAdd, Nat.reduceLeDiff, Nat.reduceMul, Nat.ble_eq, Int.toNat_natCast, Nat.mul_one, Nat.add_zero, decide_true, decide_false, beq_self_eq_true, bne_self_eq_false, beq_iff_eq, bne_iff_ne, ne_eq, Int.reduceEq, Int.reduceLT, Int.reduceLE, Int.reduceAdd, Int.reduceSub, bs_toList, mk_toList, bs_size, mk_size, not_true_eq_false, not_false_eq_true, List.length_nil, Int.cast_ofNat_Int, Int.natCast_zero, Int.natCast_one, c]); (try simp (disch := omega) only [wrap_id, Int.natCast_zero, Int.sub_zero, Int.toNat_natCast, Int.toNat_zero, Int.cast_ofNat_Int, Int.sub_self]); repeat (first | (refine cl_draw (i := 14) (nn [0, 0, 0, 3] ++ ([(1, [3])] ++ (nn [0, 0, 0, 1, 1, 0, 0, 0, 0, 3, 0, 0, 0] ++ ([(1, [3])] ++ (nn [0, 0, 0]))))) (List.range 22) (by kernel_rfl) ?_; simp only [S, TY, reduceCtorEq, Nat.reduceEqDiff, Nat.reduceAdd, Nat.reduceLeDiff, Nat.reduceMul, Nat.ble_eq, Int.toNat_natCast, Nat.mul_one, Nat.add_zero, decide_true, decide_false, beq_self_eq_true, bne_self_eq_false, beq_iff_eq, bne_iff_ne, ne_eq, Int.reduceEq, Int.reduceLT, Int.reduceLE, Int.reduceAdd, Int.reduceSub, bs_toList, mk_toList, bs_size, mk_size, not_true_eq_false, not_false_eq_true, List.length_nil, Int.cast_ofNat_Int, Int.natCast_zero, Int.natCast_one, c]; (try simp (disch := omega) only [wrap_id, Int.natCast_zero, Int.sub_zero, Int.toNat_natCast, Int.toNat_zero, Int.cast_ofNat_Int, Int.sub_self]))))
    refine (sync_ok h1).at_ h5 [1] _ rfl fun v B H1 hv g1 => ?_
    obtain ⟨rfl, rfl⟩ := hv
    ((try simp only [S, TY, reduceCtorEq, Nat.reduceEqDiff, Nat.reduceAdd, Nat.reduceLeDiff, Nat.reduceMul, Nat.ble_eq, Int.toNat_natCast, Nat.mul_one, Nat.add_zero, decide_true, decide_false, beq_self_eq_true, bne_self_eq_false, beq_iff_eq, bne_iff_ne, ne_eq, Int.reduceEq, Int.reduceLT, Int.reduceLE, Int.reduceAdd, Int.reduceSub, bs_toList, mk_toList, bs_size, mk_size, not_true_eq_false, not_false_eq_true, List.length_nil, Int.cast_ofNat_Int, Int.natCast_zero, Int.natCast_one]); (try simp (disch := omega) only [wrap_id, Int.natCast_zero, Int.sub_zero, Int.toNat_natCast, Int.toNat_zero, Int.cast_ofNat_Int, Int.sub_self]); repeat (first | (refine cl_draw (i := 14) (nn [0, 0, 0, 3] ++ ([(1, [3])] ++ (nn [0, 0, 0, 1, 1, 0, 0, 0, 0, 3, 0, 0, 0] ++ ([(1, [3])] ++ (nn [0, 0, 0]))))) (List.range 22) (by kernel_rfl) ?_; simp only [S, TY, reduceCtorEq, Nat.reduceEqDiff, Nat.reduceAdd, Nat.reduceLeDiff, Nat.reduceMul, Nat.ble_eq, Int.toNat_natCast, Nat.mul_one, Nat.add_zero, decide_true, decide_false, beq_self_eq_true, bne_self_eq_false, beq_iff_eq, bne_iff_ne, ne_eq, Int.reduceEq, Int.reduceLT, Int.reduceLE, Int.reduceAdd, Int.reduceSub, bs_toList, mk_toList, bs_size, mk_size, not_true_eq_false, not_false_eq_true, List.length_nil, Int.cast_ofNat_Int, Int.natCast_zero, Int.natCast_one]; (try simp (disch := omega) only [wrap_id, Int.natCast_zero, Int.sub_zero, Int.toNat_natCast, Int.toNat_zero, Int.cast_ofNat_Int, Int.sub_self]))))
    refine rsync.at_ g1 [2] _ rfl fun v B H2 hv g2 => ?_
    obtain ⟨rfl, rfl⟩ := hv
    have e1 : f.sync.safe.length = m.b.length := by rw [hml]; simp [F.sync]
    have hS : Same f.sync { m with safe := m.b.length } := ⟨⟨f1, by rw [show f.sync.loose = [] from rfl, show f.sync.room = f.room from rfl, e1, hml]; simp; omega⟩, by rw [show f.sync.safe = f.safe ++ f.loose from rfl, show f.sync.loose = [] from rfl, List.append_nil]; exact h2, by rw [e1], h4⟩
    ((try simp only [S, TY, reduceCtorEq, Nat.reduceEqDiff, Nat.reduceAdd, Nat.reduceLeDiff, Nat.reduceMul, Nat.ble_eq, Int.toNat_natCast, Nat.mul_one, Nat.add_zero, decide_true, decide_false, beq_self_eq_true, bne_self_eq_false, beq_iff_eq, bne_iff_ne, ne_eq, Int.reduceEq, Int.reduceLT, Int.reduceLE, Int.reduceAdd, Int.reduceSub, bs_toList, mk_toList, bs_size, mk_size, not_true_eq_false, not_false_eq_true, List.length_nil, Int.cast_ofNat_Int, Int.natCast_zero, Int.natCast_one, e1]); (try simp (disch := omega) only [wrap_id, Int.natCast_zero, Int.sub_zero, Int.toNat_natCast, Int.toNat_zero, Int.cast_ofNat_Int, Int.sub_self]))
    refine tail hS rfl rfl rfl (g2.front 1) fun e' H' q6 g3 => ?_
    ((try simp only [S, TY, reduceCtorEq, Nat.reduceEqDiff, Nat.reduceAdd, Nat.reduceLeDiff, Nat.reduceMul, Nat.ble_eq, Int.toNat_natCast, Nat.mul_one, Nat.add_zero, decide_true, decide_false, beq_self_eq_true, bne_self_eq_false, beq_iff_eq, bne_iff_ne, ne_eq, Int.reduceEq, Int.reduceLT, Int.reduceLE, Int.reduceAdd, Int.reduceSub, bs_toList, mk_toList, bs_size, mk_size, not_true_eq_false, not_false_eq_true, List.length_nil, Int.cast_ofNat_Int, Int.natCast_zero, Int.natCast_one, q6]); (try simp (disch := omega) only [wrap_id, Int.natCast_zero, Int.sub_zero, Int.toNat_natCast, Int.toNat_zero, Int.cast_ofNat_Int, Int.sub_self]))
    exact fin_take (B := [isF p _, isD q _]) g3 ⟨rfl, _, _, hS, rfl, rfl⟩
  · by_cases g' : k.tmod 5 = 3
    · ((try simp only [S, TY, reduceCtorEq, Nat.reduceEqDiff, Nat.reduceAdd, Nat.reduceLeDiff, Nat.reduceMul, Nat.ble_eq, Int.toNat_natCast, Nat.mul_one, Nat.add_zero, decide_true, decide_false, beq_self_eq_true, bne_self_eq_false, beq_iff_eq, bne_iff_ne, ne_eq, Int.reduceEq, Int.reduceLT, Int.reduceLE, Int.reduceAdd, Int.reduceSub, bs_toList, mk_toList, bs_size, mk_size, not_true_eq_false, not_false_eq_true, List.length_nil, Int.cast_ofNat_Int, Int.natCast_zero, Int.natCast_one, c, g']); (try simp (disch := omega) only [wrap_id, Int.natCast_zero, Int.sub_zero, Int.toNat_natCast, Int.toNat_zero, Int.cast_ofNat_Int, Int.sub_self]); repeat (first | (refine cl_draw (i := 14) (nn [0, 0, 0, 3] ++ ([(1, [3])] ++ (nn [0, 0, 0, 1, 1, 0, 0, 0, 0, 3, 0, 0, 0] ++ ([(1, [3])] ++ (nn [0, 0, 0]))))) (List.range 22) (by kernel_rfl) ?_; simp only [S, TY, reduceCtorEq, Nat.reduceEqDiff, Nat.reduceAdd, Nat.reduceLeDiff, Nat.reduceMul, Nat.ble_eq, Int.toNat_natCast, Nat.mul_one, Nat.add_zero, decide_true, decide_false, beq_self_eq_true, bne_self_eq_false, beq_iff_eq, bne_iff_ne, ne_eq, Int.reduceEq, Int.reduceLT, Int.reduceLE, Int.reduceAdd, Int.reduceSub, bs_toList, mk_toList, bs_size, mk_size, not_true_eq_false, not_false_eq_true, List.length_nil, Int.cast_ofNat_Int, Int.natCast_zero, Int.natCast_one, c, g']; (try simp (disch := omega) only [wrap_id, Int.natCast_zero, Int.sub_zero, Int.toNat_natCast, Int.toNat_zero, Int.cast_ofNat_Int, Int.sub_self]))))
      refine (cut_ok h1 n).at_ h5 [1] _ rfl fun v B H1 hv g1 => ?_
      obtain ⟨rfl, rfl⟩ := hv
      have c1 := ucell_of (G := G) (g1.at_ 1 rfl)
      ((try simp only [S, TY, reduceCtorEq, Nat.reduceEqDiff, Nat.reduceAdd, Nat.reduceLeDiff, Nat.reduceMul, Nat.ble_eq, Int.toNat_natCast, Nat.mul_one, Nat.add_zero, decide_true, decide_false, beq_self_eq_true, bne_self_eq_false, beq_iff_eq, bne_iff_ne, ne_eq, Int.reduceEq, Int.reduceLT, Int.reduceLE, Int.reduceAdd, Int.reduceSub, bs_toList, mk_toList, bs_size, mk_size, not_true_eq_false, not_false_eq_true, List.length_nil, Int.cast_ofNat_Int, Int.natCast_zero, Int.natCast_one, c1]); (try simp (disch := omega) only [wrap_id, Int.natCast_zero, Int.sub_zero, Int.toNat_natCast, Int.toNat_zero, Int.cast_ofNat_Int, Int.sub_self]); repeat (first | (refine cl_draw (i := 14) (nn [0, 0, 0, 3] ++ ([(1, [3])] ++ (nn [0, 0, 0, 1, 1, 0, 0, 0, 0, 3, 0, 0, 0] ++ ([(1, [3])] ++ (nn [0, 0, 0]))))) (List.range 22) (by kernel_rfl) ?_; simp only [S, TY, reduceCtorEq, Nat.reduceEqDiff, Nat.reduceAdd, Nat.reduceLeDiff, Nat.reduceMul, Nat.ble_eq, Int.toNat_natCast, Nat.mul_one, Nat.add_zero, decide_true, decide_false, beq_self_eq_true, bne_self_eq_false, beq_iff_eq, bne_iff_ne, ne_eq, Int.reduceEq, Int.reduceLT, Int.reduceLE, Int.reduceAdd, Int.reduceSub, bs_toList, mk_toList, bs_size, mk_size, not_true_eq_false, not_false_eq_true, List.length_nil, Int.cast_ofNat_Int, Int.natCast_zero, Int.natCast_one, c1]; (try simp (disch := omega) only [wrap_id, Int.natCast_zero, Int.sub_zero, Int.toNat_natCast, Int.toNat_zero, Int.cast_ofNat_Int, Int.sub_self]))))
      refine (rcut n).at_ g1 [2] _ rfl fun v B H2 hv g2 => ?_
      obtain ⟨rfl, rfl⟩ := hv
      have e1 : (f.cut n).2 = (m.cut n).2 := by
        unfold F.cut D.cut
        rw [hml]
        simp only [Int.natCast_add]
        split <;> rfl
      have hS : Same (f.cut n).1 (m.cut n).1 := by
        unfold F.cut D.cut
        rw [hml]
        simp only [Int.natCast_add]
        split
        · exact h
        · refine ⟨⟨f1, ?_⟩, ?_, ?_, h4⟩
          · simp only [List.length_take, List.length_append, List.length_nil]; omega
          · simp only [h2, List.append_nil]
          · simp only [List.length_take, List.length_append]; omega
      have hr : (f.cut n).1.room = f.room := by unfold F.cut; split <;> rfl
      ((try simp only [S, TY, reduceCtorEq, Nat.reduceEqDiff, Nat.reduceAdd, Nat.reduceLeDiff, Nat.reduceMul, Nat.ble_eq, Int.toNat_natCast, Nat.mul_one, Nat.add_zero, decide_true, decide_false, beq_self_eq_true, bne_self_eq_false, beq_iff_eq, bne_iff_ne, ne_eq, Int.reduceEq, Int.reduceLT, Int.reduceLE, Int.reduceAdd, Int.reduceSub, bs_toList, mk_toList, bs_size, mk_size, not_true_eq_false, not_false_eq_true, List.length_nil, Int.cast_ofNat_Int, Int.natCast_zero, Int.natCast_one, e1]); (try simp (disch := omega) only [wrap_id, Int.natCast_zero, Int.sub_zero, Int.toNat_natCast, Int.toNat_zero, Int.cast_ofNat_Int, Int.sub_self]))
      refine tail hS rfl rfl rfl (g2.front 1) fun e' H' q6 g3 => ?_
      ((try simp only [S, TY, reduceCtorEq, Nat.reduceEqDiff, Nat.reduceAdd, Nat.reduceLeDiff, Nat.reduceMul, Nat.ble_eq, Int.toNat_natCast, Nat.mul_one, Nat.add_zero, decide_true, decide_false, beq_self_eq_true, bne_self_eq_false, beq_iff_eq, bne_iff_ne, ne_eq, Int.reduceEq, Int.reduceLT, Int.reduceLE, Int.reduceAdd, Int.reduceSub, bs_toList, mk_toList, bs_size, mk_size, not_true_eq_false, not_false_eq_true, List.length_nil, Int.cast_ofNat_Int, Int.natCast_zero, Int.natCast_one, q6]); (try simp (disch := omega) only [wrap_id, Int.natCast_zero, Int.sub_zero, Int.toNat_natCast, Int.toNat_zero, Int.cast_ofNat_Int, Int.sub_self]))
      exact fin_take (B := [isF p _, isD q _]) g3 ⟨rfl, _, _, hS, hr, rfl⟩
    · by_cases g'' : k.tmod 5 = 4
      · ((try simp only [S, TY, reduceCtorEq, Nat.reduceEqDiff, Nat.reduceAdd, Nat.reduceLeDiff, Nat.reduceMul, Nat.ble_eq, Int.toNat_natCast, Nat.mul_one, Nat.add_zero, decide_true, decide_false, beq_self_eq_true, bne_self_eq_false, beq_iff_eq, bne_iff_ne, ne_eq, Int.reduceEq, Int.reduceLT, Int.reduceLE, Int.reduceAdd, Int.reduceSub, bs_toList, mk_toList, bs_size, mk_size, not_true_eq_false, not_false_eq_true, List.length_nil, Int.cast_ofNat_Int, Int.natCast_zero, Int.natCast_one, c, g', g'']); (try simp (disch := omega) only [wrap_id, Int.natCast_zero, Int.sub_zero, Int.toNat_natCast, Int.toNat_zero, Int.cast_ofNat_Int, Int.sub_self]); repeat (first | (refine cl_draw (i := 14) (nn [0, 0, 0, 3] ++ ([(1, [3])] ++ (nn [0, 0, 0, 1, 1, 0, 0, 0, 0, 3, 0, 0, 0] ++ ([(1, [3])] ++ (nn [0, 0, 0]))))) (List.range 22) (by kernel_rfl) ?_; simp only [S, TY, reduceCtorEq, Nat.reduceEqDiff, Nat.reduceAdd, Nat.reduceLeDiff, Nat.reduceMul, Nat.ble_eq, Int.toNat_natCast, Nat.mul_one, Nat.add_zero, decide_true, decide_false, beq_self_eq_true, bne_self_eq_false, beq_iff_eq, bne_iff_ne, ne_eq, Int.reduceEq, Int.reduceLT, Int.reduceLE, Int.reduceAdd, Int.reduceSub, bs_toList, mk_toList, bs_size, mk_size, not_true_eq_false, not_false_eq_true, List.length_nil, Int.cast_ofNat_Int, Int.natCast_zero, Int.natCast_one, c, g', g'']; (try simp (disch := omega) only [wrap_id, Int.natCast_zero, Int.sub_zero, Int.toNat_natCast, Int.toNat_zero, Int.cast_ofNat_Int, Int.sub_self]))))
        refine (crash_ok h1 n).at_ h5 [1] _ rfl fun v B H1 hv g1 => ?_
        obtain ⟨rfl, rfl⟩ := hv
        have c1 := ucell_of (G := G) (g1.at_ 1 rfl)
        ((try simp only [S, TY, reduceCtorEq, Nat.reduceEqDiff, Nat.reduceAdd, Nat.reduceLeDiff, Nat.reduceMul, Nat.ble_eq, Int.toNat_natCast, Nat.mul_one, Nat.add_zero, decide_true, decide_false, beq_self_eq_true, bne_self_eq_false, beq_iff_eq, bne_iff_ne, ne_eq, Int.reduceEq, Int.reduceLT, Int.reduceLE, Int.reduceAdd, Int.reduceSub, bs_toList, mk_toList, bs_size, mk_size, not_true_eq_false, not_false_eq_true, List.length_nil, Int.cast_ofNat_Int, Int.natCast_zero, Int.natCast_one, c1]); (try simp (disch := omega) only [wrap_id, Int.natCast_zero, Int.sub_zero, Int.toNat_natCast, Int.toNat_zero, Int.cast_ofNat_Int, Int.sub_self]); repeat (first | (refine cl_draw (i := 14) (nn [0, 0, 0, 3] ++ ([(1, [3])] ++ (nn [0, 0, 0, 1, 1, 0, 0, 0, 0, 3, 0, 0, 0] ++ ([(1, [3])] ++ (nn [0, 0, 0]))))) (List.range 22) (by kernel_rfl) ?_; simp only [S, TY, reduceCtorEq, Nat.reduceEqDiff, Nat.reduceAdd, Nat.reduceLeDiff, Nat.reduceMul, Nat.ble_eq, Int.toNat_natCast, Nat.mul_one, Nat.add_zero, decide_true, decide_false, beq_self_eq_true, bne_self_eq_false, beq_iff_eq, bne_iff_ne, ne_eq, Int.reduceEq, Int.reduceLT, Int.reduceLE, Int.reduceAdd, Int.reduceSub, bs_toList, mk_toList, bs_size, mk_size, not_true_eq_false, not_false_eq_true, List.length_nil, Int.cast_ofNat_Int, Int.natCast_zero, Int.natCast_one, c1]; (try simp (disch := omega) only [wrap_id, Int.natCast_zero, Int.sub_zero, Int.toNat_natCast, Int.toNat_zero, Int.cast_ofNat_Int, Int.sub_self]))))
        refine (rcrash n (by rw [h3, hml]; omega) (by omega)).at_ g1 [2] _ rfl fun v B H2 hv g2 => ?_
        obtain ⟨s, hs, rfl, rfl⟩ := hv
        have hs' : s = f.safe.length + (min (max n 0) f.loose.length).toNat := by rw [hs, h3, hml]; omega
        have e1 : (f.crash n).2 = (m.b.length : Int) - s := by unfold F.crash; rw [hs', hml]; simp only [Int.natCast_add]; omega
        have hS : Same (f.crash n).1 ⟨m.b.take s, s, m.room⟩ := by
          unfold F.crash
          refine ⟨⟨f1, ?_⟩, ?_, ?_, h4⟩
          · simp only [List.length_append, List.length_take, List.length_nil]; omega
          · simp only [h2, List.append_nil, hs', List.take_append]
            rw [List.take_of_length_le (by omega), Nat.add_sub_cancel_left]
          · simp only [List.length_append, List.length_take]; omega
        ((try simp only [S, TY, reduceCtorEq, Nat.reduceEqDiff, Nat.reduceAdd, Nat.reduceLeDiff, Nat.reduceMul, Nat.ble_eq, Int.toNat_natCast, Nat.mul_one, Nat.add_zero, decide_true, decide_false, beq_self_eq_true, bne_self_eq_false, beq_iff_eq, bne_iff_ne, ne_eq, Int.reduceEq, Int.reduceLT, Int.reduceLE, Int.reduceAdd, Int.reduceSub, bs_toList, mk_toList, bs_size, mk_size, not_true_eq_false, not_false_eq_true, List.length_nil, Int.cast_ofNat_Int, Int.natCast_zero, Int.natCast_one, e1]); (try simp (disch := omega) only [wrap_id, Int.natCast_zero, Int.sub_zero, Int.toNat_natCast, Int.toNat_zero, Int.cast_ofNat_Int, Int.sub_self]))
        refine tail hS rfl rfl rfl (g2.front 1) fun e' H' q6 g3 => ?_
        ((try simp only [S, TY, reduceCtorEq, Nat.reduceEqDiff, Nat.reduceAdd, Nat.reduceLeDiff, Nat.reduceMul, Nat.ble_eq, Int.toNat_natCast, Nat.mul_one, Nat.add_zero, decide_true, decide_false, beq_self_eq_true, bne_self_eq_false, beq_iff_eq, bne_iff_ne, ne_eq, Int.reduceEq, Int.reduceLT, Int.reduceLE, Int.reduceAdd, Int.reduceSub, bs_toList, mk_toList, bs_size, mk_size, not_true_eq_false, not_false_eq_true, List.length_nil, Int.cast_ofNat_Int, Int.natCast_zero, Int.natCast_one, q6]); (try simp (disch := omega) only [wrap_id, Int.natCast_zero, Int.sub_zero, Int.toNat_natCast, Int.toNat_zero, Int.cast_ofNat_Int, Int.sub_self]))
        exact fin_take (B := [isF p _, isD q _]) g3 ⟨rfl, _, _, hS, rfl, rfl⟩
      · ((try simp only [S, TY, reduceCtorEq, Nat.reduceEqDiff, Nat.reduceAdd, Nat.reduceLeDiff, Nat.reduceMul, Nat.ble_eq, Int.toNat_natCast, Nat.mul_one, Nat.add_zero, decide_true, decide_false, beq_self_eq_true, bne_self_eq_false, beq_iff_eq, bne_iff_ne, ne_eq, Int.reduceEq, Int.reduceLT, Int.reduceLE, Int.reduceAdd, Int.reduceSub, bs_toList, mk_toList, bs_size, mk_size, not_true_eq_false, not_false_eq_true, List.length_nil, Int.cast_ofNat_Int, Int.natCast_zero, Int.natCast_one, c, g', g'']); (try simp (disch := omega) only [wrap_id, Int.natCast_zero, Int.sub_zero, Int.toNat_natCast, Int.toNat_zero, Int.cast_ofNat_Int, Int.sub_self]); repeat (first | (refine cl_draw (i := 14) (nn [0, 0, 0, 3] ++ ([(1, [3])] ++ (nn [0, 0, 0, 1, 1, 0, 0, 0, 0, 3, 0, 0, 0] ++ ([(1, [3])] ++ (nn [0, 0, 0]))))) (List.range 22) (by kernel_rfl) ?_; simp only [S, TY, reduceCtorEq, Nat.reduceEqDiff, Nat.reduceAdd, Nat.reduceLeDiff, Nat.reduceMul, Nat.ble_eq, Int.toNat_natCast, Nat.mul_one, Nat.add_zero, decide_true, decide_false, beq_self_eq_true, bne_self_eq_false, beq_iff_eq, bne_iff_ne, ne_eq, Int.reduceEq, Int.reduceLT, Int.reduceLE, Int.reduceAdd, Int.reduceSub, bs_toList, mk_toList, bs_size, mk_size, not_true_eq_false, not_false_eq_true, List.length_nil, Int.cast_ofNat_Int, Int.natCast_zero, Int.natCast_one, c, g', g'']; (try simp (disch := omega) only [wrap_id, Int.natCast_zero, Int.sub_zero, Int.toNat_natCast, Int.toNat_zero, Int.cast_ofNat_Int, Int.sub_self]))))
        refine (add_ok h1 hw hl).at_ h5 [1] _ rfl fun v B H1 hv g1 => ?_
        obtain ⟨rfl, rfl⟩ := hv
        have c1 := ucell_of (G := G) (g1.at_ 1 rfl)
        ((try simp only [S, TY, reduceCtorEq, Nat.reduceEqDiff, Nat.reduceAdd, Nat.reduceLeDiff, Nat.reduceMul, Nat.ble_eq, Int.toNat_natCast, Nat.mul_one, Nat.add_zero, decide_true, decide_false, beq_self_eq_true, bne_self_eq_false, beq_iff_eq, bne_iff_ne, ne_eq, Int.reduceEq, Int.reduceLT, Int.reduceLE, Int.reduceAdd, Int.reduceSub, bs_toList, mk_toList, bs_size, mk_size, not_true_eq_false, not_false_eq_true, List.length_nil, Int.cast_ofNat_Int, Int.natCast_zero, Int.natCast_one, c1]); (try simp (disch := omega) only [wrap_id, Int.natCast_zero, Int.sub_zero, Int.toNat_natCast, Int.toNat_zero, Int.cast_ofNat_Int, Int.sub_self]); repeat (first | (refine cl_draw (i := 14) (nn [0, 0, 0, 3] ++ ([(1, [3])] ++ (nn [0, 0, 0, 1, 1, 0, 0, 0, 0, 3, 0, 0, 0] ++ ([(1, [3])] ++ (nn [0, 0, 0]))))) (List.range 22) (by kernel_rfl) ?_; simp only [S, TY, reduceCtorEq, Nat.reduceEqDiff, Nat.reduceAdd, Nat.reduceLeDiff, Nat.reduceMul, Nat.ble_eq, Int.toNat_natCast, Nat.mul_one, Nat.add_zero, decide_true, decide_false, beq_self_eq_true, bne_self_eq_false, beq_iff_eq, bne_iff_ne, ne_eq, Int.reduceEq, Int.reduceLT, Int.reduceLE, Int.reduceAdd, Int.reduceSub, bs_toList, mk_toList, bs_size, mk_size, not_true_eq_false, not_false_eq_true, List.length_nil, Int.cast_ofNat_Int, Int.natCast_zero, Int.natCast_one, c1]; (try simp (disch := omega) only [wrap_id, Int.natCast_zero, Int.sub_zero, Int.toNat_natCast, Int.toNat_zero, Int.cast_ofNat_Int, Int.sub_self]))))
        refine (radd (by omega) hw hl).at_ g1 [2] _ rfl fun v B H2 hv g2 => ?_
        obtain ⟨rfl, rfl⟩ := hv
        have e1 : (f.add l).2 = (m.add l).2 := by
          unfold F.add D.add
          rw [hml, h4]
          simp only [Int.natCast_add]
          split
          · rw [if_neg (by omega)]
          · rw [if_pos (by omega)]
        have hS : Same (f.add l).1 (m.add l).1 := by
          unfold F.add D.add
          rw [hml, h4]
          simp only [Int.natCast_add]
          split
          · rw [if_neg (by omega)]
            refine ⟨⟨f1, ?_⟩, ?_, h3, rfl⟩
            · simp only [List.length_append, Int.natCast_add]; omega
            · simp only [h2, List.append_assoc]
          · rw [if_pos (by omega)]; exact h
        have hr : (f.add l).1.room = f.room := by unfold F.add; split <;> rfl
        ((try simp only [S, TY, reduceCtorEq, Nat.reduceEqDiff, Nat.reduceAdd, Nat.reduceLeDiff, Nat.reduceMul, Nat.ble_eq, Int.toNat_natCast, Nat.mul_one, Nat.add_zero, decide_true, decide_false, beq_self_eq_true, bne_self_eq_false, beq_iff_eq, bne_iff_ne, ne_eq, Int.reduceEq, Int.reduceLT, Int.reduceLE, Int.reduceAdd, Int.reduceSub, bs_toList, mk_toList, bs_size, mk_size, not_true_eq_false, not_false_eq_true, List.length_nil, Int.cast_ofNat_Int, Int.natCast_zero, Int.natCast_one, e1]); (try simp (disch := omega) only [wrap_id, Int.natCast_zero, Int.sub_zero, Int.toNat_natCast, Int.toNat_zero, Int.cast_ofNat_Int, Int.sub_self]))
        refine tail hS rfl rfl rfl (g2.front 1) fun e' H' q6 g3 => ?_
        ((try simp only [S, TY, reduceCtorEq, Nat.reduceEqDiff, Nat.reduceAdd, Nat.reduceLeDiff, Nat.reduceMul, Nat.ble_eq, Int.toNat_natCast, Nat.mul_one, Nat.add_zero, decide_true, decide_false, beq_self_eq_true, bne_self_eq_false, beq_iff_eq, bne_iff_ne, ne_eq, Int.reduceEq, Int.reduceLT, Int.reduceLE, Int.reduceAdd, Int.reduceSub, bs_toList, mk_toList, bs_size, mk_size, not_true_eq_false, not_false_eq_true, List.length_nil, Int.cast_ofNat_Int, Int.natCast_zero, Int.natCast_one, q6]); (try simp (disch := omega) only [wrap_id, Int.natCast_zero, Int.sub_zero, Int.toNat_natCast, Int.toNat_zero, Int.cast_ofNat_Int, Int.sub_self]))
        exact fin_take (B := [isF p _, isD q _]) g3 ⟨rfl, _, _, hS, hr, rfl⟩
end Go.Proofs.Ytkdcapgjmcjdjaa.DiskS
