/- The law on journals' acts. -/
import Derived.Test.YtfjmejideoklpaaJnW
set_option linter.unusedVariables false
set_option linter.unusedSimpArgs false
set_option maxRecDepth 10000
set_option maxHeartbeats 2000000
namespace Go.Proofs.Ytfjmejideoklpaa.JnX
open Nat renaming reduceEqDiff → nq0, reduceAdd → nq1, reduceLeDiff → nq2, reduceBEq → nq3, reduceMul → nq4
open Int renaming reduceBEq → iq0, reduceEq → iq1, reduceLT → iq2, reduceLE → iq3, reduceAdd → iq4, reduceSub → iq5, reduceMul → iq6, reduceToNat → iq7, cast_ofNat_Int → iq8
open Go Go.Sl Go.Proofs Go.Proofs.Ytfjmejideoklpaa.Disk Go.Proofs.Ytfjmejideoklpaa.DiskR Go.Proofs.Ytfjmejideoklpaa.Jn Go.Proofs.Ytfjmejideoklpaa.JnP Go.Proofs.Ytfjmejideoklpaa.JnS Go.Proofs.Ytfjmejideoklpaa.JnE Go.Proofs.Ytfjmejideoklpaa.JnT Go.Proofs.Ytfjmejideoklpaa.JnM Go.Proofs.Ytfjmejideoklpaa.JnO Go.Proofs.Ytfjmejideoklpaa.JnL Go.Proofs.Ytfjmejideoklpaa.JnA Go.Proofs.Ytfjmejideoklpaa.JnW
theorem TY : aggN Try.prog 3 = some none ∧
  aggN Try.prog 5 = some none ∧
  aggN Try.prog 9 = some none ∧
  aggN Try.prog 33 = some none ∧
  aggN Try.prog 34 = some none ∧
  aggN Try.prog 83 = some none ∧
  aggN Try.prog 84 = some none ∧
  aggN Try.prog 86 = some none ∧
  aggN Try.prog 89 = some none ∧
  aggN Try.prog 90 = some none ∧
  aggN Try.prog 93 = some none ∧
  aggN Try.prog 95 = some (some 3) ∧
  aggN Try.prog 96 = some none ∧
  aggN Try.prog 100 = some (some 3) ∧
  aggN Try.prog 106 = some (some 2) ∧
  apI Try.prog 33 = some (5, 1, 1) ∧
  apI Try.prog 84 = some (100, 3, 40) ∧
  apI Try.prog 90 = some (33, 1, 24) ∧
  bIs Try.prog 95 = true ∧
  bIs Try.prog 100 = true ∧
  bIs Try.prog 106 = true ∧
  bySl Try.prog 33 = true ∧
  csz Try.prog 3 = some 1 ∧
  csz Try.prog 5 = some 1 ∧
  csz Try.prog 9 = some 1 ∧
  csz Try.prog 33 = some 1 ∧
  csz Try.prog 34 = some 1 ∧
  csz Try.prog 83 = some 1 ∧
  csz Try.prog 84 = some 1 ∧
  csz Try.prog 86 = some 1 ∧
  csz Try.prog 89 = some 1 ∧
  csz Try.prog 90 = some 1 ∧
  csz Try.prog 93 = some 1 ∧
  csz Try.prog 95 = some 3 ∧
  csz Try.prog 96 = some 1 ∧
  csz Try.prog 100 = some 3 ∧
  csz Try.prog 106 = some 2 ∧
  fIs Try.prog 95 0 = true ∧
  fIs Try.prog 95 1 = true ∧
  fIs Try.prog 100 0 = true ∧
  fIs Try.prog 100 1 = true ∧
  fIs Try.prog 100 2 = true ∧
  fIs Try.prog 106 1 = true ∧
  fOff Try.prog 95 0 = 0 ∧
  fOff Try.prog 95 1 = 1 ∧
  fOff Try.prog 100 0 = 0 ∧
  fOff Try.prog 100 1 = 1 ∧
  fOff Try.prog 100 2 = 2 ∧
  fOff Try.prog 106 1 = 1 ∧
  fTy Try.prog 95 0 = 33 ∧
  fTy Try.prog 95 1 = 3 ∧
  fTy Try.prog 100 0 = 5 ∧
  fTy Try.prog 100 1 = 33 ∧
  fTy Try.prog 100 2 = 3 ∧
  fTy Try.prog 106 1 = 3 ∧
  goes Try.prog 46 = true ∧
  goes Try.prog 47 = true ∧
  goes Try.prog 48 = true ∧
  goes Try.prog 49 = true ∧
  goes Try.prog 50 = true ∧
  goes Try.prog 51 = true ∧
  goes Try.prog 52 = true ∧
  goes Try.prog 53 = true ∧
  goes Try.prog 54 = true ∧
  goes Try.prog 55 = true ∧
  goes Try.prog 56 = true ∧
  goes Try.prog 57 = true ∧
  goes Try.prog 58 = true ∧
  goes Try.prog 59 = true ∧
  goes Try.prog 60 = true ∧
  inIs Try.prog 3 = some .i64 ∧
  inIs Try.prog 5 = some .u8 ∧
  inIs Try.prog 34 = some .i64 ∧
  inIs Try.prog 83 = some .u16 ∧
  plcs Try.prog 95 = [(0, 1), (1, 1), (2, 1)] ∧
  plcs Try.prog 100 = [(0, 1), (1, 1), (2, 1)] ∧
  plcs Try.prog 106 = [(0, 1), (1, 1)] ∧
  ptIs Try.prog 86 = true ∧
  ptIs Try.prog 89 = true ∧
  ptIs Try.prog 93 = true ∧
  ptIs Try.prog 96 = true ∧
  slEl Try.prog 33 = 5 ∧
  slEl Try.prog 84 = 100 ∧
  slEl Try.prog 90 = 33 ∧
  slIs Try.prog 33 = true ∧
  slIs Try.prog 84 = true ∧
  slIs Try.prog 90 = true ∧
  slSz Try.prog 33 = 1 ∧
  slSz Try.prog 84 = 3 ∧
  slSz Try.prog 90 = 1 ∧
  stIs Try.prog 9 = true ∧
  zcs Try.prog 95 = [.slice none 0 0, .int .i64 0, .int .i64 0] ∧
  zcs Try.prog 100 = [.int .u8 0, .slice none 0 0, .int .i64 0] ∧
  zcs Try.prog 106 = [.pointer none, .int .i64 0] ∧
  zro Try.prog 3 = some (.int .i64 0) ∧
  zro Try.prog 5 = some (.int .u8 0) ∧
  zro Try.prog 9 = some (.string ByteArray.empty) ∧
  zro Try.prog 33 = some (.slice none 0 0) ∧
  zro Try.prog 34 = some (.int .i64 0) ∧
  zro Try.prog 83 = some (.int .u16 0) ∧
  zro Try.prog 84 = some (.slice none 0 0) ∧
  zro Try.prog 86 = some (.pointer none) ∧
  zro Try.prog 89 = some (.pointer none) ∧
  zro Try.prog 90 = some (.slice none 0 0) ∧
  zro Try.prog 93 = some (.pointer none) ∧
  zro Try.prog 95 = some (.agg #[.slice none 0 0, .int .i64 0, .int .i64 0]) ∧
  zro Try.prog 96 = some (.pointer none) ∧
  zro Try.prog 100 = some (.agg #[.int .u8 0, .slice none 0 0, .int .i64 0]) ∧
  zro Try.prog 106 = some (.agg #[.pointer none, .int .i64 0]) :=
  ⟨by kernel_rfl, by kernel_rfl, by kernel_rfl, by kernel_rfl, by kernel_rfl, by kernel_rfl, by kernel_rfl, by kernel_rfl, by kernel_rfl, by kernel_rfl, by kernel_rfl, by kernel_rfl, by kernel_rfl, by kernel_rfl, by kernel_rfl, by kernel_rfl, by kernel_rfl, by kernel_rfl, by kernel_rfl, by kernel_rfl, by kernel_rfl, by kernel_rfl, by kernel_rfl, by kernel_rfl, by kernel_rfl, by kernel_rfl, by kernel_rfl, by kernel_rfl, by kernel_rfl, by kernel_rfl, by kernel_rfl, by kernel_rfl, by kernel_rfl, by kernel_rfl, by kernel_rfl, by kernel_rfl, by kernel_rfl, by kernel_rfl, by kernel_rfl, by kernel_rfl, by kernel_rfl, by kernel_rfl, by kernel_rfl, by kernel_rfl, by kernel_rfl, by kernel_rfl, by kernel_rfl, by kernel_rfl, by kernel_rfl, by kernel_rfl, by kernel_rfl, by kernel_rfl, by kernel_rfl, by kernel_rfl, by kernel_rfl, by kernel_rfl, by kernel_rfl, by kernel_rfl, by kernel_rfl, by kernel_rfl, by kernel_rfl, by kernel_rfl, by kernel_rfl, by kernel_rfl, by kernel_rfl, by kernel_rfl, by kernel_rfl, by kernel_rfl, by kernel_rfl, by kernel_rfl, by kernel_rfl, by kernel_rfl, by kernel_rfl, by kernel_rfl, by kernel_rfl, by kernel_rfl, by kernel_rfl, by kernel_rfl, by kernel_rfl, by kernel_rfl, by kernel_rfl, by kernel_rfl, by kernel_rfl, by kernel_rfl, by kernel_rfl, by kernel_rfl, by kernel_rfl, by kernel_rfl, by kernel_rfl, by kernel_rfl, by kernel_rfl, by kernel_rfl, by kernel_rfl, by kernel_rfl, by kernel_rfl, by kernel_rfl, by kernel_rfl, by kernel_rfl, by kernel_rfl, by kernel_rfl, by kernel_rfl, by kernel_rfl, by kernel_rfl, by kernel_rfl, by kernel_rfl, by kernel_rfl, by kernel_rfl, by kernel_rfl, by kernel_rfl⟩
def D8_29 : List Note := Go.Sl.nn [0, 0, 0, 0, 3, 0, 0, 0, 1, 0, 0, 0, 0, 3] ++ ([(1, [4, 13])] ++ (Go.Sl.nn [0, 0, 0] ++ ([(1, [4])] ++ ([(1, [4])] ++ (Go.Sl.nn [0, 0, 0, 0, 3, 0, 0, 0] ++ ([(1, [4, 13])] ++ (Go.Sl.nn [0, 0])))))))
theorem tail {G : Hp} {q jp mq kp n : Nat} {f : F} (hf : f.ok) {L : List Asn} {e : Env} {H : Hp} (h6 : e 6 = .pointer (some ⟨q, 0, none⟩)) (h8 : e 8 = .pointer (some ⟨jp, 0, none⟩))
    (h11 : e 11 = .pointer (some ⟨mq, 0, none⟩)) (h12 : e 12 = .pointer (some ⟨kp, 0, none⟩)) (h15 : e 15 = .bool true)
    (hH : sg G (jP jp q n :: isF q f :: kP kp mq n :: isD mq (D.of f) :: L) H) {Q : Post}
    (k : ∀ e' H', e' 173 = .bool false → e' 1 = e 1 → e' 6 = e 6 → e' 8 = e 8 → e' 11 = e 11 → e' 12 = e 12 → e' 14 = e 14 → sg G (jP jp q n :: isF q f :: kP kp mq n :: isD mq (D.of f) :: L) H' → Q .normal e' H') :
    cl Try.prog G (Go.Code.region 29 #[{ dst := some 143, op := Go.Op.move (Go.Operand.tmp 15), type := 4, pos := "law.go:79", after := #[], guard := none }, { dst := some 144, op := Go.Op.unOp Go.UnOp.not 4 (Go.Operand.tmp 143), type := 4, pos := "law.go:79", after := #[{ on := 0, ground := Go.Ground.data }], guard := none }, { dst := some 145, op := Go.Op.move (Go.Operand.tmp 144), type := 4, pos := "law.go:79", after := #[{ on := 1, ground := Go.Ground.data }], guard := none }, { dst := some 146, op := Go.Op.move (Go.Operand.tmp 8), type := 89, pos := "law.go:79", after := #[{ on := 2, ground := Go.Ground.guard }], guard := some (2, false) }, { dst := some 147, op := Go.Op.call { callee := Go.Callee.value (Go.Operand.func 58), args := #[Go.Operand.tmp 146], argTypes := #[89] }, type := 3, pos := "law.go:79", after := #[{ on := 3, ground := Go.Ground.data }, { on := 2, ground := Go.Ground.chain }, { on := 2, ground := Go.Ground.guard }], guard := some (2, false) }, { dst := some 148, op := Go.Op.move (Go.Operand.tmp 12), type := 96, pos := "law.go:79", after := #[{ on := 2, ground := Go.Ground.guard }], guard := some (2, false) }, { dst := some 149, op := Go.Op.nilCheck (Go.Operand.tmp 148), type := 0, pos := "law.go:79", after := #[{ on := 5, ground := Go.Ground.data }, { on := 2, ground := Go.Ground.guard }], guard := some (2, false) }, { dst := some 150, op := Go.Op.fieldAddr 106 (Go.Operand.tmp 149) 1, type := 0, pos := "law.go:79", after := #[{ on := 6, ground := Go.Ground.data }, { on := 2, ground := Go.Ground.guard }], guard := some (2, false) }, { dst := some 151, op := Go.Op.load 3 (Go.Operand.tmp 150), type := 3, pos := "law.go:79", after := #[{ on := 7, ground := Go.Ground.data }, { on := 2, ground := Go.Ground.guard }], guard := some (2, false) }, { dst := some 152, op := Go.Op.binOp Go.BinOp.neq 3 (Go.Operand.tmp 147) (Go.Operand.tmp 151) 3, type := 4, pos := "law.go:79", after := #[{ on := 4, ground := Go.Ground.data }, { on := 8, ground := Go.Ground.data }, { on := 2, ground := Go.Ground.guard }], guard := some (2, false) }, { dst := some 153, op := Go.Op.pick (Go.Operand.tmp 145) (Go.Operand.const (Go.Value.bool true)) (Go.Operand.tmp 152), type := 4, pos := "law.go:79", after := #[{ on := 2, ground := Go.Ground.data }, { on := 9, ground := Go.Ground.data }], guard := none }, { dst := some 154, op := Go.Op.move (Go.Operand.tmp 153), type := 4, pos := "law.go:79", after := #[{ on := 10, ground := Go.Ground.data }, { on := 4, ground := Go.Ground.chain }], guard := none }, { dst := some 155, op := Go.Op.move (Go.Operand.tmp 6), type := 86, pos := "law.go:79", after := #[{ on := 11, ground := Go.Ground.guard }], guard := some (11, false) }, { dst := some 156, op := Go.Op.call { callee := Go.Callee.value (Go.Operand.func 59), args := #[Go.Operand.tmp 155], argTypes := #[86] }, type := 33, pos := "law.go:79", after := #[{ on := 12, ground := Go.Ground.data }, { on := 11, ground := Go.Ground.chain }, { on := 11, ground := Go.Ground.guard }], guard := some (11, false) }, { dst := some 157, op := Go.Op.convert 33 9 (Go.Operand.tmp 156), type := 9, pos := "law.go:79", after := #[{ on := 13, ground := Go.Ground.data }, { on := 11, ground := Go.Ground.guard }], guard := some (11, false) }, { dst := some 158, op := Go.Op.move (Go.Operand.tmp 11), type := 93, pos := "law.go:79", after := #[{ on := 11, ground := Go.Ground.guard }], guard := some (11, false) }, { dst := some 159, op := Go.Op.nilCheck (Go.Operand.tmp 158), type := 0, pos := "law.go:79", after := #[{ on := 15, ground := Go.Ground.data }, { on := 11, ground := Go.Ground.guard }], guard := some (11, false) }, { dst := some 160, op := Go.Op.fieldAddr 95 (Go.Operand.tmp 159) 0, type := 0, pos := "law.go:79", after := #[{ on := 16, ground := Go.Ground.data }, { on := 11, ground := Go.Ground.guard }], guard := some (11, false) }, { dst := some 161, op := Go.Op.load 33 (Go.Operand.tmp 160), type := 33, pos := "law.go:79", after := #[{ on := 17, ground := Go.Ground.data }, { on := 11, ground := Go.Ground.guard }], guard := some (11, false) }, { dst := some 162, op := Go.Op.convert 33 9 (Go.Operand.tmp 161), type := 9, pos := "law.go:79", after := #[{ on := 18, ground := Go.Ground.data }, { on := 11, ground := Go.Ground.guard }], guard := some (11, false) }, { dst := some 163, op := Go.Op.binOp Go.BinOp.neq 9 (Go.Operand.tmp 157) (Go.Operand.tmp 162) 9, type := 4, pos := "law.go:79", after := #[{ on := 14, ground := Go.Ground.data }, { on := 19, ground := Go.Ground.data }, { on := 11, ground := Go.Ground.guard }], guard := some (11, false) }, { dst := some 164, op := Go.Op.pick (Go.Operand.tmp 154) (Go.Operand.const (Go.Value.bool true)) (Go.Operand.tmp 163), type := 4, pos := "law.go:79", after := #[{ on := 11, ground := Go.Ground.data }, { on := 20, ground := Go.Ground.data }], guard := none }, { dst := some 165, op := Go.Op.move (Go.Operand.tmp 164), type := 4, pos := "law.go:79", after := #[{ on := 21, ground := Go.Ground.data }, { on := 13, ground := Go.Ground.chain }], guard := none }, { dst := some 166, op := Go.Op.move (Go.Operand.tmp 6), type := 86, pos := "law.go:79", after := #[{ on := 22, ground := Go.Ground.guard }], guard := some (22, false) }, { dst := some 167, op := Go.Op.call { callee := Go.Callee.value (Go.Operand.func 60), args := #[Go.Operand.tmp 166], argTypes := #[86] }, type := 3, pos := "law.go:79", after := #[{ on := 23, ground := Go.Ground.data }, { on := 22, ground := Go.Ground.chain }, { on := 22, ground := Go.Ground.guard }], guard := some (22, false) }, { dst := some 168, op := Go.Op.move (Go.Operand.tmp 11), type := 93, pos := "law.go:79", after := #[{ on := 22, ground := Go.Ground.guard }], guard := some (22, false) }, { dst := some 169, op := Go.Op.nilCheck (Go.Operand.tmp 168), type := 0, pos := "law.go:79", after := #[{ on := 25, ground := Go.Ground.data }, { on := 22, ground := Go.Ground.guard }], guard := some (22, false) }, { dst := some 170, op := Go.Op.fieldAddr 95 (Go.Operand.tmp 169) 1, type := 0, pos := "law.go:79", after := #[{ on := 26, ground := Go.Ground.data }, { on := 22, ground := Go.Ground.guard }], guard := some (22, false) }, { dst := some 171, op := Go.Op.load 3 (Go.Operand.tmp 170), type := 3, pos := "law.go:79", after := #[{ on := 27, ground := Go.Ground.data }, { on := 22, ground := Go.Ground.guard }], guard := some (22, false) }, { dst := some 172, op := Go.Op.binOp Go.BinOp.neq 3 (Go.Operand.tmp 167) (Go.Operand.tmp 171) 3, type := 4, pos := "law.go:79", after := #[{ on := 24, ground := Go.Ground.data }, { on := 28, ground := Go.Ground.data }, { on := 22, ground := Go.Ground.guard }], guard := some (22, false) }, { dst := some 173, op := Go.Op.pick (Go.Operand.tmp 165) (Go.Operand.const (Go.Value.bool true)) (Go.Operand.tmp 172), type := 4, pos := "law.go:79", after := #[{ on := 22, ground := Go.Ground.data }, { on := 29, ground := Go.Ground.data }], guard := none }] true) Q e H := by
  have eb : (D.of f).b = f.safe ++ f.loose := rfl
  have es : (D.of f).safe = f.safe.length := rfl
  obtain ⟨ma, mn, mc, e1, e2, g0⟩ := isD_open (hH.front 3)
  have c0 := g0.c0
  have d0 := (g0.front 4).c0
  have s0 := rStr_of (P := Try.prog) (g0.rdsi 1 rfl Rd_own)
  ((try simp only [S, TY, reduceCtorEq, nq0, nq1, nq2, nq3, nq4, iq0, iq1, iq2, iq3, iq4, iq5, iq6, iq7, iq8, h6, h8, h11, h12, h15, c0, d0, s0]); (try (simp (disch := omega) only [W2, Int.cast_ofNat_Int]; (try simp only [S, TY, reduceCtorEq, nq0, nq1, nq2, nq3, nq4, iq0, iq1, iq2, iq3, iq4, iq5, iq6, iq7, iq8, h6, h8, h11, h12, h15, c0, d0, s0]))); repeat ((first | (refine cl_drawi 29 D8_29 (List.range 31) (by decide) (by kernel_rfl) ?_; unfold D8_29)); simp only [S, TY, reduceCtorEq, nq0, nq1, nq2, nq3, nq4, iq0, iq1, iq2, iq3, iq4, iq5, iq6, iq7, iq8, h6, h8, h11, h12, h15, c0, d0, s0]; (try (simp (disch := omega) only [W2, Int.cast_ofNat_Int]; (try simp only [S, TY, reduceCtorEq, nq0, nq1, nq2, nq3, nq4, iq0, iq1, iq2, iq3, iq4, iq5, iq6, iq7, iq8, h6, h8, h11, h12, h15, c0, d0, s0])))))
  refine Len_ok.at_ g0 [2] _ rfl fun v B H1 hv g1 => ?_
  obtain ⟨rfl, rfl⟩ := hv
  simp only [front_eq, fronts_nil, fronts_cons, List.getElem?_cons_zero, List.getElem?_cons_succ, List.eraseIdx_cons_zero, List.eraseIdx_cons_succ, List.cons_append, List.nil_append, putL_cons, putL_nil, List.set_cons_zero, List.set_cons_succ, Nat.reduceAdd] at g1
  have c1 := (g1.front 1).c0
  have d1 := (g1.front 4).c0
  have s1 := rStr_of (P := Try.prog) (g1.rdsi 2 rfl Rd_own)
  ((try simp only [S, TY, reduceCtorEq, nq0, nq1, nq2, nq3, nq4, iq0, iq1, iq2, iq3, iq4, iq5, iq6, iq7, iq8, h6, h8, h11, h12, h15, c1, d1, s1, c0, d0, s0]); (try (simp (disch := omega) only [W2, Int.cast_ofNat_Int]; (try simp only [S, TY, reduceCtorEq, nq0, nq1, nq2, nq3, nq4, iq0, iq1, iq2, iq3, iq4, iq5, iq6, iq7, iq8, h6, h8, h11, h12, h15, c1, d1, s1, c0, d0, s0]))); repeat ((first | (refine cl_drawi 29 D8_29 (List.range 31) (by decide) (by kernel_rfl) ?_; unfold D8_29)); simp only [S, TY, reduceCtorEq, nq0, nq1, nq2, nq3, nq4, iq0, iq1, iq2, iq3, iq4, iq5, iq6, iq7, iq8, h6, h8, h11, h12, h15, c1, d1, s1, c0, d0, s0]; (try (simp (disch := omega) only [W2, Int.cast_ofNat_Int]; (try simp only [S, TY, reduceCtorEq, nq0, nq1, nq2, nq3, nq4, iq0, iq1, iq2, iq3, iq4, iq5, iq6, iq7, iq8, h6, h8, h11, h12, h15, c1, d1, s1, c0, d0, s0])))))
  refine (bytes_ok hf).at_ g1 [3] _ rfl fun v B H2 hv g2 => ?_
  subst hv
  simp only [front_eq, fronts_nil, fronts_cons, List.getElem?_cons_zero, List.getElem?_cons_succ, List.eraseIdx_cons_zero, List.eraseIdx_cons_succ, List.cons_append, List.nil_append, putL_cons, putL_nil, List.set_cons_zero, List.set_cons_succ, Nat.reduceAdd] at g2
  obtain ⟨sa, sn, sc, rfl, _, _⟩ := g2.sl 0 rfl Rd_own
  have c2 := (g2.front 3).c0
  have d2 := (g2.front 5).c0
  have s2 := rStr_of (P := Try.prog) (g2.rdsi 4 rfl Rd_own)
  have t2 := rStr_of (P := Try.prog) (g2.rdsi 0 rfl Rd_own)
  ((try simp only [S, TY, reduceCtorEq, nq0, nq1, nq2, nq3, nq4, iq0, iq1, iq2, iq3, iq4, iq5, iq6, iq7, iq8, h6, h8, h11, h12, h15, c2, d2, s2, t2, c1, d1, s1, c0, d0, s0, eb, es]); (try (simp (disch := omega) only [W2, Int.cast_ofNat_Int]; (try simp only [S, TY, reduceCtorEq, nq0, nq1, nq2, nq3, nq4, iq0, iq1, iq2, iq3, iq4, iq5, iq6, iq7, iq8, h6, h8, h11, h12, h15, c2, d2, s2, t2, c1, d1, s1, c0, d0, s0, eb, es]))); repeat ((first | (refine cl_drawi 29 D8_29 (List.range 31) (by decide) (by kernel_rfl) ?_; unfold D8_29)); simp only [S, TY, reduceCtorEq, nq0, nq1, nq2, nq3, nq4, iq0, iq1, iq2, iq3, iq4, iq5, iq6, iq7, iq8, h6, h8, h11, h12, h15, c2, d2, s2, t2, c1, d1, s1, c0, d0, s0, eb, es]; (try (simp (disch := omega) only [W2, Int.cast_ofNat_Int]; (try simp only [S, TY, reduceCtorEq, nq0, nq1, nq2, nq3, nq4, iq0, iq1, iq2, iq3, iq4, iq5, iq6, iq7, iq8, h6, h8, h11, h12, h15, c2, d2, s2, t2, c1, d1, s1, c0, d0, s0, eb, es])))))
  refine safe_ok.at_ g2 [1] _ rfl fun v B H3 hv g3 => ?_
  obtain ⟨rfl, rfl⟩ := hv
  simp only [front_eq, fronts_nil, fronts_cons, List.getElem?_cons_zero, List.getElem?_cons_succ, List.eraseIdx_cons_zero, List.eraseIdx_cons_succ, List.cons_append, List.nil_append, putL_cons, putL_nil, List.set_cons_zero, List.set_cons_succ, Nat.reduceAdd] at g3
  have c3 := (g3.front 3).c0
  have d3 := (g3.front 5).c0
  ((try simp only [S, TY, reduceCtorEq, nq0, nq1, nq2, nq3, nq4, iq0, iq1, iq2, iq3, iq4, iq5, iq6, iq7, iq8, h6, h8, h11, h12, h15, c3, d3, c2, d2, s2, t2, c1, d1, s1, c0, d0, s0, eb, es]); (try (simp (disch := omega) only [W2, Int.cast_ofNat_Int]; (try simp only [S, TY, reduceCtorEq, nq0, nq1, nq2, nq3, nq4, iq0, iq1, iq2, iq3, iq4, iq5, iq6, iq7, iq8, h6, h8, h11, h12, h15, c3, d3, c2, d2, s2, t2, c1, d1, s1, c0, d0, s0, eb, es]))); repeat ((first | (refine cl_drawi 29 D8_29 (List.range 31) (by decide) (by kernel_rfl) ?_; unfold D8_29)); simp only [S, TY, reduceCtorEq, nq0, nq1, nq2, nq3, nq4, iq0, iq1, iq2, iq3, iq4, iq5, iq6, iq7, iq8, h6, h8, h11, h12, h15, c3, d3, c2, d2, s2, t2, c1, d1, s1, c0, d0, s0, eb, es]; (try (simp (disch := omega) only [W2, Int.cast_ofNat_Int]; (try simp only [S, TY, reduceCtorEq, nq0, nq1, nq2, nq3, nq4, iq0, iq1, iq2, iq3, iq4, iq5, iq6, iq7, iq8, h6, h8, h11, h12, h15, c3, d3, c2, d2, s2, t2, c1, d1, s1, c0, d0, s0, eb, es])))))
  refine k _ _ rfl rfl rfl rfl rfl rfl rfl ?_
  exact ((((isD_shut (m := D.of f) (g3.fronts [3, 3])).front 2).tail).fronts [2, 1, 1, 0])
theorem new_fok {room : Int} (h0 : 0 ≤ room) (h1 : room ≤ 65535) : F.ok ⟨[], [], room⟩ := ⟨by simp only; omega, by simp only [List.length_nil]; omega⟩
theorem playsLaw {G : Hp} {room : Int} (h0 : 0 ≤ room) (h1 : room ≤ 65535) {v : Value} {l : List AT.den} (hv : Acts G v l) : Con Try.prog G 8 [.int .u16 room, v] [] (fun r B => r = .bool true ∧ B = []) := by
  have hv0 := hv
  obtain ⟨a, n, c, rfl, e1, e2⟩ := hv.shape (by decide)
  have wr : IntKind.i64.wrap room = room := by rw [wrap_id] <;> omega
  refine Con.intro Try.func8 rfl (Nat.le_of_ble_eq_true (by kernel_rfl)) (by kernel_rfl) Try.results8 ?_
  intro H hH
  ((try simp only [S, TY, reduceCtorEq, nq0, nq1, nq2, nq3, nq4, iq0, iq1, iq2, iq3, iq4, iq5, iq6, iq7, iq8]); (try (simp (disch := omega) only [W2, Int.cast_ofNat_Int]; (try simp only [S, TY, reduceCtorEq, nq0, nq1, nq2, nq3, nq4, iq0, iq1, iq2, iq3, iq4, iq5, iq6, iq7, iq8]))); repeat ((first | (refine cl_drawi 29 D8_29 (List.range 31) (by decide) (by kernel_rfl) ?_; unfold D8_29)); simp only [S, TY, reduceCtorEq, nq0, nq1, nq2, nq3, nq4, iq0, iq1, iq2, iq3, iq4, iq5, iq6, iq7, iq8]; (try (simp (disch := omega) only [W2, Int.cast_ofNat_Int]; (try simp only [S, TY, reduceCtorEq, nq0, nq1, nq2, nq3, nq4, iq0, iq1, iq2, iq3, iq4, iq5, iq6, iq7, iq8])))))
  refine (fits hv0).at_ hH [] _ rfl fun r B H1 hr h1 => ?_
  obtain ⟨ok, rfl, rfl, hok⟩ := hr
  cases ok with
  | false =>
    ((try simp only [S, TY, reduceCtorEq, nq0, nq1, nq2, nq3, nq4, iq0, iq1, iq2, iq3, iq4, iq5, iq6, iq7, iq8]); (try (simp (disch := omega) only [W2, Int.cast_ofNat_Int]; (try simp only [S, TY, reduceCtorEq, nq0, nq1, nq2, nq3, nq4, iq0, iq1, iq2, iq3, iq4, iq5, iq6, iq7, iq8]))); repeat ((first | (refine cl_drawi 29 D8_29 (List.range 31) (by decide) (by kernel_rfl) ?_; unfold D8_29)); simp only [S, TY, reduceCtorEq, nq0, nq1, nq2, nq3, nq4, iq0, iq1, iq2, iq3, iq4, iq5, iq6, iq7, iq8]; (try (simp (disch := omega) only [W2, Int.cast_ofNat_Int]; (try simp only [S, TY, reduceCtorEq, nq0, nq1, nq2, nq3, nq4, iq0, iq1, iq2, iq3, iq4, iq5, iq6, iq7, iq8])))))
    refine alive.at_ h1 [] _ rfl fun r B H2 hr h2 => ?_
    obtain ⟨rfl, rfl⟩ := hr
    ((try simp only [S, TY, reduceCtorEq, nq0, nq1, nq2, nq3, nq4, iq0, iq1, iq2, iq3, iq4, iq5, iq6, iq7, iq8]); (try (simp (disch := omega) only [W2, Int.cast_ofNat_Int]; (try simp only [S, TY, reduceCtorEq, nq0, nq1, nq2, nq3, nq4, iq0, iq1, iq2, iq3, iq4, iq5, iq6, iq7, iq8]))); repeat ((first | (refine cl_drawi 29 D8_29 (List.range 31) (by decide) (by kernel_rfl) ?_; unfold D8_29)); simp only [S, TY, reduceCtorEq, nq0, nq1, nq2, nq3, nq4, iq0, iq1, iq2, iq3, iq4, iq5, iq6, iq7, iq8]; (try (simp (disch := omega) only [W2, Int.cast_ofNat_Int]; (try simp only [S, TY, reduceCtorEq, nq0, nq1, nq2, nq3, nq4, iq0, iq1, iq2, iq3, iq4, iq5, iq6, iq7, iq8])))))
    exact fin_take (B := []) h2 ⟨rfl, rfl⟩
  | true =>
    have hn := (hok rfl).1
    ((try simp only [S, TY, reduceCtorEq, nq0, nq1, nq2, nq3, nq4, iq0, iq1, iq2, iq3, iq4, iq5, iq6, iq7, iq8, wr]); (try (simp (disch := omega) only [W2, Int.cast_ofNat_Int]; (try simp only [S, TY, reduceCtorEq, nq0, nq1, nq2, nq3, nq4, iq0, iq1, iq2, iq3, iq4, iq5, iq6, iq7, iq8, wr]))); repeat ((first | (refine cl_drawi 29 D8_29 (List.range 31) (by decide) (by kernel_rfl) ?_; unfold D8_29)); simp only [S, TY, reduceCtorEq, nq0, nq1, nq2, nq3, nq4, iq0, iq1, iq2, iq3, iq4, iq5, iq6, iq7, iq8, wr]; (try (simp (disch := omega) only [W2, Int.cast_ofNat_Int]; (try simp only [S, TY, reduceCtorEq, nq0, nq1, nq2, nq3, nq4, iq0, iq1, iq2, iq3, iq4, iq5, iq6, iq7, iq8, wr])))))
    refine (new_ok room (by omega) (by omega)).at_ h1 [] _ rfl fun r B H2 hr h2 => ?_
    obtain ⟨q, rfl, rfl⟩ := hr
    have f0 := new_fok h0 (by omega)
    ((try simp only [S, TY, reduceCtorEq, nq0, nq1, nq2, nq3, nq4, iq0, iq1, iq2, iq3, iq4, iq5, iq6, iq7, iq8, wr]); (try (simp (disch := omega) only [W2, Int.cast_ofNat_Int]; (try simp only [S, TY, reduceCtorEq, nq0, nq1, nq2, nq3, nq4, iq0, iq1, iq2, iq3, iq4, iq5, iq6, iq7, iq8, wr]))); repeat ((first | (refine cl_drawi 29 D8_29 (List.range 31) (by decide) (by kernel_rfl) ?_; unfold D8_29)); simp only [S, TY, reduceCtorEq, nq0, nq1, nq2, nq3, nq4, iq0, iq1, iq2, iq3, iq4, iq5, iq6, iq7, iq8, wr]; (try (simp (disch := omega) only [W2, Int.cast_ofNat_Int]; (try simp only [S, TY, reduceCtorEq, nq0, nq1, nq2, nq3, nq4, iq0, iq1, iq2, iq3, iq4, iq5, iq6, iq7, iq8, wr])))))
    refine (Open_ok f0 (by simp only; omega)).at_ h2 [0] _ rfl fun r B H3 hr h3 => ?_
    obtain ⟨jp, bs, rest, vs, u, hsc, rfl, rfl⟩ := hr
    obtain ⟨rfl, rfl⟩ := Scans.uniq Scans.nil hsc
    obtain ⟨ua, un, uc, rfl, y1, y2⟩ := h3.sl 1 rfl Rd_own
    have vl := (h3.front 2).blobs.len
    rw [Nat.mul_one, vl] at y1
    subst y1
    rw [show fopen ⟨[], [], room⟩ ((([] : List (List UInt8)).flatMap rcd).length) = ⟨[], [], room⟩ from rfl, show ([] : List (List UInt8)).length = 0 from rfl] at h3
    ((try simp only [S, TY, reduceCtorEq, nq0, nq1, nq2, nq3, nq4, iq0, iq1, iq2, iq3, iq4, iq5, iq6, iq7, iq8, wr]); (try (simp (disch := omega) only [W2, Int.cast_ofNat_Int]; (try simp only [S, TY, reduceCtorEq, nq0, nq1, nq2, nq3, nq4, iq0, iq1, iq2, iq3, iq4, iq5, iq6, iq7, iq8, wr]))); repeat ((first | (refine cl_drawi 29 D8_29 (List.range 31) (by decide) (by kernel_rfl) ?_; unfold D8_29)); simp only [S, TY, reduceCtorEq, nq0, nq1, nq2, nq3, nq4, iq0, iq1, iq2, iq3, iq4, iq5, iq6, iq7, iq8, wr]; (try (simp (disch := omega) only [W2, Int.cast_ofNat_Int]; (try simp only [S, TY, reduceCtorEq, nq0, nq1, nq2, nq3, nq4, iq0, iq1, iq2, iq3, iq4, iq5, iq6, iq7, iq8, wr])))))
    intro mq hq hg
    have h4 := isD_shut (m := ⟨[], 0, room⟩) (((h3.nil_ 5 1)).new hq hg _)
    ((try simp only [S, TY, reduceCtorEq, nq0, nq1, nq2, nq3, nq4, iq0, iq1, iq2, iq3, iq4, iq5, iq6, iq7, iq8]); (try (simp (disch := omega) only [W2, Int.cast_ofNat_Int]; (try simp only [S, TY, reduceCtorEq, nq0, nq1, nq2, nq3, nq4, iq0, iq1, iq2, iq3, iq4, iq5, iq6, iq7, iq8]))); repeat ((first | (refine cl_drawi 29 D8_29 (List.range 31) (by decide) (by kernel_rfl) ?_; unfold D8_29)); simp only [S, TY, reduceCtorEq, nq0, nq1, nq2, nq3, nq4, iq0, iq1, iq2, iq3, iq4, iq5, iq6, iq7, iq8]; (try (simp (disch := omega) only [W2, Int.cast_ofNat_Int]; (try simp only [S, TY, reduceCtorEq, nq0, nq1, nq2, nq3, nq4, iq0, iq1, iq2, iq3, iq4, iq5, iq6, iq7, iq8])))))
    refine (dOpen_ok (m := ⟨[], 0, room⟩) (by simp)).at_ h4 [0] _ rfl fun r B H5 hr h5 => ?_
    obtain ⟨kp, bs, rest, vs', u', hsc', rfl, rfl⟩ := hr
    obtain ⟨rfl, rfl⟩ := Scans.uniq Scans.nil hsc'
    rw [show dopen ⟨[], 0, room⟩ ((([] : List (List UInt8)).flatMap rcd).length) = D.of ⟨[], [], room⟩ from rfl, show ([] : List (List UInt8)).length = 0 from rfl] at h5
    have l0 : ([] : List (List UInt8)).length = 0 := rfl
    have n0 : ((0 : Nat) : Int) = 0 := rfl
    simp only [front_eq, fronts_nil, fronts_cons, List.getElem?_cons_zero, List.getElem?_cons_succ, List.eraseIdx_cons_zero, List.eraseIdx_cons_succ, List.cons_append, List.nil_append, putL_cons, putL_nil, List.set_cons_zero, List.set_cons_succ, Nat.reduceAdd] at h5
    ((try simp only [S, TY, reduceCtorEq, nq0, nq1, nq2, nq3, nq4, iq0, iq1, iq2, iq3, iq4, iq5, iq6, iq7, iq8, l0, n0]); (try (simp (disch := omega) only [W2, Int.cast_ofNat_Int]; (try simp only [S, TY, reduceCtorEq, nq0, nq1, nq2, nq3, nq4, iq0, iq1, iq2, iq3, iq4, iq5, iq6, iq7, iq8, l0, n0]))); repeat ((first | (refine cl_drawi 29 D8_29 (List.range 31) (by decide) (by kernel_rfl) ?_; unfold D8_29)); simp only [S, TY, reduceCtorEq, nq0, nq1, nq2, nq3, nq4, iq0, iq1, iq2, iq3, iq4, iq5, iq6, iq7, iq8, l0, n0]; (try (simp (disch := omega) only [W2, Int.cast_ofNat_Int]; (try simp only [S, TY, reduceCtorEq, nq0, nq1, nq2, nq3, nq4, iq0, iq1, iq2, iq3, iq4, iq5, iq6, iq7, iq8, l0, n0])))))
    refine cl_loop (fun i e H => i ≤ n ∧ e 1 = .slice a n c ∧ e 6 = .pointer (some ⟨q, 0, none⟩) ∧ e 14 = .int .i64 i ∧ e 11 = .pointer (some ⟨mq, 0, none⟩) ∧
        ∃ f k jp kp, f.ok ∧ f.room = room ∧ k ≤ 70000 + i ∧ e 8 = .pointer (some ⟨jp, 0, none⟩) ∧ e 12 = .pointer (some ⟨kp, 0, none⟩) ∧ sg G [jP jp q k, isF q f, kP kp mq k, isD mq (D.of f)] H) (fun i => n - i) 0
      ⟨by omega, rfl, rfl, rfl, rfl, ⟨[], [], room⟩, 0, jp, kp, f0, rfl, by omega, rfl, rfl, ?_⟩ ?_
    · exact ⟨h5.1, seps_take (B := [_, _, _, _]) (h5.fronts [4, 6, 0, 2]).2⟩
    clear h1 h2 h3 h4 h5
    rintro i e H ⟨q1, q2, q6, q14, q11, f, k, jp, kp, hf, hfr, hk, q8, q12, hH⟩
    by_cases g1 : (i : Int) < n
    · obtain ⟨b, off, cs, hl, rfl, hQ, _, hc, hld⟩ := hv0.at (by decide) (i := i) (by omega)
      obtain ⟨c1, c2, rfl, _, ⟨rfl, hk1⟩, c3, c4, rfl, _, ⟨w, rfl, hb⟩, c5, c6, rfl, _, ⟨rfl, hn1⟩, rfl⟩ := hQ
      have g0 : (0 : Int) ≤ i ∧ (i : Int) < n := ⟨by omega, g1⟩
      have hlen := (hok rfl).2 _ (List.getElem_mem hl)
      have d0 := hc 0 (by decide)
      have d1 := hc 1 (by decide)
      have d2 := hc 2 (by decide)
      simp only [List.cons_append, List.nil_append, List.getElem?_cons_zero, List.getElem?_cons_succ, Nat.add_zero] at d0 d1 d2
      obtain ⟨kd, hkd⟩ : ∃ k, l[i].1 = k := ⟨_, rfl⟩
      obtain ⟨nb, hnb⟩ : ∃ k, l[i].2.2.1 = k := ⟨_, rfl⟩
      obtain ⟨bd, hbd⟩ : ∃ k, l[i].2.1 = k := ⟨_, rfl⟩
      rw [hkd] at d0
      rw [hnb] at d2
      rw [hbd] at hb hlen
      obtain ⟨wa, wn, wc, rfl, _, _⟩ := hb.slice
      clear hkd hnb hbd hk1 hn1 hc hld
      have n5 : ¬ (5 : Int) = 0 := by decide
      have hrm : f.room ≤ 65536 := by omega
      have hi60 : i < 60 := by omega
      have x0 := hH.roc d0
      by_cases g3 : kd.tmod 5 = 3
      · ((try simp only [S, TY, reduceCtorEq, nq0, nq1, nq2, nq3, nq4, iq0, iq1, iq2, iq3, iq4, iq5, iq6, iq7, iq8, q2, q6, q8, q11, q12, q14, g1, g0, x0, n5, g3]); (try simp (disch := omega) only [wrap_id, Int.natCast_zero, Int.sub_zero, Int.toNat_natCast, Int.toNat_zero, Int.cast_ofNat_Int, Int.sub_self]))
        refine (Sync_ok hf).at_ hH [0, 0] _ rfl fun r B H5 hr h5 => ?_
        subst hr
        ((try simp only [S, TY, reduceCtorEq, nq0, nq1, nq2, nq3, nq4, iq0, iq1, iq2, iq3, iq4, iq5, iq6, iq7, iq8, q2, q6, q8, q11, q12, q14]); (try simp (disch := omega) only [wrap_id, Int.natCast_zero, Int.sub_zero, Int.toNat_natCast, Int.toNat_zero, Int.cast_ofNat_Int, Int.sub_self]))
        refine (rsync (m := D.of f)).at_ h5 [3] _ rfl fun r B H6 hr h6 => ?_
        obtain ⟨rfl, rfl⟩ := hr
        rw [sync_of] at h6
        ((try simp only [S, TY, reduceCtorEq, nq0, nq1, nq2, nq3, nq4, iq0, iq1, iq2, iq3, iq4, iq5, iq6, iq7, iq8]); (try simp (disch := omega) only [wrap_id, Int.natCast_zero, Int.sub_zero, Int.toNat_natCast, Int.toNat_zero, Int.cast_ofNat_Int, Int.sub_self]))
        refine tail (L := []) (sync_fok hf) (by exact q6) (by exact q8) (by exact q11) (by exact q12) (by rfl) (h6.fronts [1, 1, 1, 0]) fun e' H' r173 r1 r6 r8 r11 r12 r14 h' => ?_
        replace r1 := r1.trans q2
        replace r6 := r6.trans q6
        replace r8 := r8.trans q8
        replace r11 := r11.trans q11
        replace r12 := r12.trans q12
        replace r14 := r14.trans q14
        ((try simp only [S, TY, reduceCtorEq, nq0, nq1, nq2, nq3, nq4, iq0, iq1, iq2, iq3, iq4, iq5, iq6, iq7, iq8, r173, r14]); (try simp (disch := omega) only [wrap_id, Int.natCast_zero, Int.sub_zero, Int.toNat_natCast, Int.toNat_zero, Int.cast_ofNat_Int, Int.sub_self]))
        exact .go (i + 1) (by omega) ⟨by omega, r1, r6, rfl, r11, f.sync, k, jp, kp, sync_fok hf, hfr, by omega, r8, r12, h'⟩
      · by_cases g4 : kd.tmod 5 = 4
        · ((try simp only [S, TY, reduceCtorEq, nq0, nq1, nq2, nq3, nq4, iq0, iq1, iq2, iq3, iq4, iq5, iq6, iq7, iq8, q2, q6, q8, q11, q12, q14, g1, g0, x0, n5, g3, g4]); (try simp (disch := omega) only [wrap_id, Int.natCast_zero, Int.sub_zero, Int.toNat_natCast, Int.toNat_zero, Int.cast_ofNat_Int, Int.sub_self]))
          have x2 := hH.roc d2
          ((try simp only [S, TY, reduceCtorEq, nq0, nq1, nq2, nq3, nq4, iq0, iq1, iq2, iq3, iq4, iq5, iq6, iq7, iq8, q2, q6, q8, q11, q12, q14, g0, x2]); (try simp (disch := omega) only [wrap_id, Int.natCast_zero, Int.sub_zero, Int.toNat_natCast, Int.toNat_zero, Int.cast_ofNat_Int, Int.sub_self]))
          refine (crash_ok hf nb).at_ hH [1] _ rfl fun r B H5 hr h5 => ?_
          obtain ⟨rfl, rfl⟩ := hr
          have x3 := h5.roc d2
          ((try simp only [S, TY, reduceCtorEq, nq0, nq1, nq2, nq3, nq4, iq0, iq1, iq2, iq3, iq4, iq5, iq6, iq7, iq8, q2, q6, q8, q11, q12, q14, g0, x3]); (try simp (disch := omega) only [wrap_id, Int.natCast_zero, Int.sub_zero, Int.toNat_natCast, Int.toNat_zero, Int.cast_ofNat_Int, Int.sub_self]))
          have hml : (D.of f).safe ≤ (D.of f).b.length := by unfold D.of; simp
          have hml2 := of_len hf hrm
          refine (rcrash (m := D.of f) nb hml (by omega)).at_ h5 [3] _ rfl fun r B H6 hr h6 => ?_
          obtain ⟨s, hs, rfl, rfl⟩ := hr
          subst hs
          rw [crash_of] at h6
          have hcf := crash_fok hf nb
          have hcr : (f.crash nb).1.room = f.room := rfl
          obtain ⟨f1, hf1⟩ : ∃ f1, (f.crash nb).1 = f1 := ⟨_, rfl⟩
          rw [hf1] at h6 hcf hcr
          have hml3 := of_len hcf (by omega)
          ((try simp only [S, TY, reduceCtorEq, nq0, nq1, nq2, nq3, nq4, iq0, iq1, iq2, iq3, iq4, iq5, iq6, iq7, iq8, q2, q6, q8, q11, q12, q14]); (try simp (disch := omega) only [wrap_id, Int.natCast_zero, Int.sub_zero, Int.toNat_natCast, Int.toNat_zero, Int.cast_ofNat_Int, Int.sub_self]))
          refine (Open_ok hcf (by omega)).at_ h6 [1] _ rfl fun r B H7 hr h7 => ?_
          obtain ⟨jp2, bs, rest, vs, u, hsc, rfl, rfl⟩ := hr
          ((try simp only [S, TY, reduceCtorEq, nq0, nq1, nq2, nq3, nq4, iq0, iq1, iq2, iq3, iq4, iq5, iq6, iq7, iq8, q2, q6, q8, q11, q12, q14]); (try simp (disch := omega) only [wrap_id, Int.natCast_zero, Int.sub_zero, Int.toNat_natCast, Int.toNat_zero, Int.cast_ofNat_Int, Int.sub_self]))
          refine (dOpen_ok (m := D.of f1) hml3).at_ h7 [4] _ rfl fun r B H8 hr h8 => ?_
          obtain ⟨kp2, bs', rest', vs', u', hsc', rfl, rfl⟩ := hr
          obtain ⟨rfl, rfl⟩ := Scans.uniq hsc hsc'
          have hbl := hsc.len
          have hfl : (f1.safe ++ f1.loose).length ≤ 65536 := hml3
          rw [open_of] at h8
          have hfo := fopen_ok hcf (bs.flatMap rcd).length
          have hfor := fopen_room f1 (bs.flatMap rcd).length
          obtain ⟨f2, hf2⟩ : ∃ f2, fopen f1 (bs.flatMap rcd).length = f2 := ⟨_, rfl⟩
          rw [hf2] at h8 hfo hfor
          ((try simp only [S, TY, reduceCtorEq, nq0, nq1, nq2, nq3, nq4, iq0, iq1, iq2, iq3, iq4, iq5, iq6, iq7, iq8, q2, q6, q8, q11, q12, q14]); (try simp (disch := omega) only [wrap_id, Int.natCast_zero, Int.sub_zero, Int.toNat_natCast, Int.toNat_zero, Int.cast_ofNat_Int, Int.sub_self]))
          refine Con.lend_at [] [own 33 1 u vs, blobs vs bs, own 33 1 u' vs', blobs vs' bs] h8 [5, 5, 1, 1] rfl
            (fun F hF hs => same_ok (seps_own hs 0 rfl).left (seps_own hs 2 rfl).left ((seps_blob hs 1 rfl).mono un_le_l) ((seps_blob hs 3 rfl).mono un_le_l) (by rw [(seps_blob hs 1 rfl).len]; omega)) fun r B H9 hr h9 => ?_
          obtain ⟨rfl, rfl⟩ := hr
          rw [decide_eq_true rfl]
          simp only [front_eq, fronts_nil, fronts_cons, List.getElem?_cons_zero, List.getElem?_cons_succ, List.eraseIdx_cons_zero, List.eraseIdx_cons_succ, List.cons_append, List.nil_append, putL_cons, putL_nil, List.set_cons_zero, List.set_cons_succ, Nat.reduceAdd] at h9
          ((try simp only [S, TY, reduceCtorEq, nq0, nq1, nq2, nq3, nq4, iq0, iq1, iq2, iq3, iq4, iq5, iq6, iq7, iq8, q2, q6, q8, q11, q12, q14]); (try simp (disch := omega) only [wrap_id, Int.natCast_zero, Int.sub_zero, Int.toNat_natCast, Int.toNat_zero, Int.cast_ofNat_Int, Int.sub_self]))
          refine tail (L := _) hfo (by exact q6) (by rfl) (by exact q11) (by rfl) (by rfl) (h9.fronts [6, 6, 4, 4]) fun e' H' r173 r1 r6 r8 r11 r12 r14 h' => ?_
          replace r1 := r1.trans q2
          replace r6 := r6.trans q6
          replace r11 := r11.trans q11
          replace r14 := r14.trans q14
          ((try simp only [S, TY, reduceCtorEq, nq0, nq1, nq2, nq3, nq4, iq0, iq1, iq2, iq3, iq4, iq5, iq6, iq7, iq8, r173, r14]); (try simp (disch := omega) only [wrap_id, Int.natCast_zero, Int.sub_zero, Int.toNat_natCast, Int.toNat_zero, Int.cast_ofNat_Int, Int.sub_self]))
          exact .go (i + 1) (by omega) ⟨by omega, r1, r6, rfl, r11, f2, bs.length, jp2, kp2, hfo, by omega, by omega, r8, r12, ⟨h'.1, seps_take (B := [_, _, _, _]) h'.2⟩⟩
        · ((try simp only [S, TY, reduceCtorEq, nq0, nq1, nq2, nq3, nq4, iq0, iq1, iq2, iq3, iq4, iq5, iq6, iq7, iq8, q2, q6, q8, q11, q12, q14, g1, g0, x0, n5, g3, g4]); (try simp (disch := omega) only [wrap_id, Int.natCast_zero, Int.sub_zero, Int.toNat_natCast, Int.toNat_zero, Int.cast_ofNat_Int, Int.sub_self]))
          have x1 := hH.roc d1
          ((try simp only [S, TY, reduceCtorEq, nq0, nq1, nq2, nq3, nq4, iq0, iq1, iq2, iq3, iq4, iq5, iq6, iq7, iq8, q2, q6, q8, q11, q12, q14, g0, x1]); (try simp (disch := omega) only [wrap_id, Int.natCast_zero, Int.sub_zero, Int.toNat_natCast, Int.toNat_zero, Int.cast_ofNat_Int, Int.sub_self]))
          refine (Put_ok hf (by omega) hb (by omega)).at_ hH [0, 0] _ rfl fun r B H5 hr h5 => ?_
          obtain ⟨rfl, rfl⟩ := hr
          have x2 := h5.roc d1
          obtain ⟨hpo, hpr, hpk⟩ := put_fok hf k bd
          have hml2 := of_len hf hrm
          ((try simp only [S, TY, reduceCtorEq, nq0, nq1, nq2, nq3, nq4, iq0, iq1, iq2, iq3, iq4, iq5, iq6, iq7, iq8, q2, q6, q8, q11, q12, q14, g0, x2]); (try simp (disch := omega) only [wrap_id, Int.natCast_zero, Int.sub_zero, Int.toNat_natCast, Int.toNat_zero, Int.cast_ofNat_Int, Int.sub_self]))
          refine (dPut_ok (m := D.of f) (by omega) (by omega) hb (by omega)).at_ h5 [2, 2] _ rfl fun r B H6 hr h6 => ?_
          obtain ⟨rfl, rfl⟩ := hr
          rw [put_of] at h6 ⊢
          simp only at h6 ⊢
          obtain ⟨⟨f1, k1, e1⟩, hp1⟩ : ∃ r, putM f k bd = r := ⟨_, rfl⟩
          rw [hp1] at h6 hpo hpr hpk ⊢
          simp only at h6 hpo hpr hpk ⊢
          ((try simp only [S, TY, reduceCtorEq, nq0, nq1, nq2, nq3, nq4, iq0, iq1, iq2, iq3, iq4, iq5, iq6, iq7, iq8, q2, q6, q8, q11, q12, q14]); (try simp (disch := omega) only [wrap_id, Int.natCast_zero, Int.sub_zero, Int.toNat_natCast, Int.toNat_zero, Int.cast_ofNat_Int, Int.sub_self]))
          refine tail (L := []) hpo (by exact q6) (by exact q8) (by exact q11) (by exact q12) (by first | rfl | exact congrArg Value.bool (beq_self_eq_true _)) (h6.fronts [2, 2, 0, 0]) fun e' H' r173 r1 r6 r8 r11 r12 r14 h' => ?_
          replace r1 := r1.trans q2
          replace r6 := r6.trans q6
          replace r8 := r8.trans q8
          replace r11 := r11.trans q11
          replace r12 := r12.trans q12
          replace r14 := r14.trans q14
          ((try simp only [S, TY, reduceCtorEq, nq0, nq1, nq2, nq3, nq4, iq0, iq1, iq2, iq3, iq4, iq5, iq6, iq7, iq8, r173, r14]); (try simp (disch := omega) only [wrap_id, Int.natCast_zero, Int.sub_zero, Int.toNat_natCast, Int.toNat_zero, Int.cast_ofNat_Int, Int.sub_self]))
          exact .go (i + 1) (by omega) ⟨by omega, r1, r6, rfl, r11, f1, k1, jp, kp, hpo, by omega, by omega, r8, r12, h'⟩
    · ((try simp only [S, TY, reduceCtorEq, nq0, nq1, nq2, nq3, nq4, iq0, iq1, iq2, iq3, iq4, iq5, iq6, iq7, iq8, q2, q14, g1]); (try (simp (disch := omega) only [W2, Int.cast_ofNat_Int]; (try simp only [S, TY, reduceCtorEq, nq0, nq1, nq2, nq3, nq4, iq0, iq1, iq2, iq3, iq4, iq5, iq6, iq7, iq8, q2, q14, g1]))); repeat ((first | (refine cl_drawi 29 D8_29 (List.range 31) (by decide) (by kernel_rfl) ?_; unfold D8_29)); simp only [S, TY, reduceCtorEq, nq0, nq1, nq2, nq3, nq4, iq0, iq1, iq2, iq3, iq4, iq5, iq6, iq7, iq8, q2, q14, g1]; (try (simp (disch := omega) only [W2, Int.cast_ofNat_Int]; (try simp only [S, TY, reduceCtorEq, nq0, nq1, nq2, nq3, nq4, iq0, iq1, iq2, iq3, iq4, iq5, iq6, iq7, iq8, q2, q14, g1])))))
      refine Sync_nil.at_ hH [] _ rfl fun r B H5 hr h5 => ?_
      subst hr
      ((try simp only [S, TY, reduceCtorEq, nq0, nq1, nq2, nq3, nq4, iq0, iq1, iq2, iq3, iq4, iq5, iq6, iq7, iq8]); (try (simp (disch := omega) only [W2, Int.cast_ofNat_Int]; (try simp only [S, TY, reduceCtorEq, nq0, nq1, nq2, nq3, nq4, iq0, iq1, iq2, iq3, iq4, iq5, iq6, iq7, iq8]))); repeat ((first | (refine cl_drawi 29 D8_29 (List.range 31) (by decide) (by kernel_rfl) ?_; unfold D8_29)); simp only [S, TY, reduceCtorEq, nq0, nq1, nq2, nq3, nq4, iq0, iq1, iq2, iq3, iq4, iq5, iq6, iq7, iq8]; (try (simp (disch := omega) only [W2, Int.cast_ofNat_Int]; (try simp only [S, TY, reduceCtorEq, nq0, nq1, nq2, nq3, nq4, iq0, iq1, iq2, iq3, iq4, iq5, iq6, iq7, iq8])))))
      refine Open_nil.at_ h5 [] _ rfl fun r B H6 hr h6 => ?_
      obtain ⟨rfl, rfl⟩ := hr
      ((try simp only [S, TY, reduceCtorEq, nq0, nq1, nq2, nq3, nq4, iq0, iq1, iq2, iq3, iq4, iq5, iq6, iq7, iq8]); (try (simp (disch := omega) only [W2, Int.cast_ofNat_Int]; (try simp only [S, TY, reduceCtorEq, nq0, nq1, nq2, nq3, nq4, iq0, iq1, iq2, iq3, iq4, iq5, iq6, iq7, iq8]))); repeat ((first | (refine cl_drawi 29 D8_29 (List.range 31) (by decide) (by kernel_rfl) ?_; unfold D8_29)); simp only [S, TY, reduceCtorEq, nq0, nq1, nq2, nq3, nq4, iq0, iq1, iq2, iq3, iq4, iq5, iq6, iq7, iq8]; (try (simp (disch := omega) only [W2, Int.cast_ofNat_Int]; (try simp only [S, TY, reduceCtorEq, nq0, nq1, nq2, nq3, nq4, iq0, iq1, iq2, iq3, iq4, iq5, iq6, iq7, iq8])))))
      refine alive.at_ h6 [] _ rfl fun r B H7 hr h7 => ?_
      obtain ⟨rfl, rfl⟩ := hr
      ((try simp only [S, TY, reduceCtorEq, nq0, nq1, nq2, nq3, nq4, iq0, iq1, iq2, iq3, iq4, iq5, iq6, iq7, iq8]); (try (simp (disch := omega) only [W2, Int.cast_ofNat_Int]; (try simp only [S, TY, reduceCtorEq, nq0, nq1, nq2, nq3, nq4, iq0, iq1, iq2, iq3, iq4, iq5, iq6, iq7, iq8]))); repeat ((first | (refine cl_drawi 29 D8_29 (List.range 31) (by decide) (by kernel_rfl) ?_; unfold D8_29)); simp only [S, TY, reduceCtorEq, nq0, nq1, nq2, nq3, nq4, iq0, iq1, iq2, iq3, iq4, iq5, iq6, iq7, iq8]; (try (simp (disch := omega) only [W2, Int.cast_ofNat_Int]; (try simp only [S, TY, reduceCtorEq, nq0, nq1, nq2, nq3, nq4, iq0, iq1, iq2, iq3, iq4, iq5, iq6, iq7, iq8])))))
      intro nb hnb hng
      have h8 := h7.newsl (e := 5) (sz := 1) (n := 1) (xs := bv [1]) hnb hng rfl
      ((try simp only [S, TY, reduceCtorEq, nq0, nq1, nq2, nq3, nq4, iq0, iq1, iq2, iq3, iq4, iq5, iq6, iq7, iq8]); (try (simp (disch := omega) only [W2, Int.cast_ofNat_Int]; (try simp only [S, TY, reduceCtorEq, nq0, nq1, nq2, nq3, nq4, iq0, iq1, iq2, iq3, iq4, iq5, iq6, iq7, iq8]))); repeat ((first | (refine cl_drawi 29 D8_29 (List.range 31) (by decide) (by kernel_rfl) ?_; unfold D8_29)); simp only [S, TY, reduceCtorEq, nq0, nq1, nq2, nq3, nq4, iq0, iq1, iq2, iq3, iq4, iq5, iq6, iq7, iq8]; (try (simp (disch := omega) only [W2, Int.cast_ofNat_Int]; (try simp only [S, TY, reduceCtorEq, nq0, nq1, nq2, nq3, nq4, iq0, iq1, iq2, iq3, iq4, iq5, iq6, iq7, iq8])))))
      refine Put_nil.at_ h8 [] _ rfl fun r B H9 hr h9 => ?_
      obtain ⟨rfl, rfl⟩ := hr
      ((try simp only [S, TY, reduceCtorEq, nq0, nq1, nq2, nq3, nq4, iq0, iq1, iq2, iq3, iq4, iq5, iq6, iq7, iq8]); (try (simp (disch := omega) only [W2, Int.cast_ofNat_Int]; (try simp only [S, TY, reduceCtorEq, nq0, nq1, nq2, nq3, nq4, iq0, iq1, iq2, iq3, iq4, iq5, iq6, iq7, iq8]))); repeat ((first | (refine cl_drawi 29 D8_29 (List.range 31) (by decide) (by kernel_rfl) ?_; unfold D8_29)); simp only [S, TY, reduceCtorEq, nq0, nq1, nq2, nq3, nq4, iq0, iq1, iq2, iq3, iq4, iq5, iq6, iq7, iq8]; (try (simp (disch := omega) only [W2, Int.cast_ofNat_Int]; (try simp only [S, TY, reduceCtorEq, nq0, nq1, nq2, nq3, nq4, iq0, iq1, iq2, iq3, iq4, iq5, iq6, iq7, iq8])))))
      refine Len_nil.at_ h9 [] _ rfl fun r B H10 hr h10 => ?_
      obtain ⟨rfl, rfl⟩ := hr
      ((try simp only [S, TY, reduceCtorEq, nq0, nq1, nq2, nq3, nq4, iq0, iq1, iq2, iq3, iq4, iq5, iq6, iq7, iq8]); (try (simp (disch := omega) only [W2, Int.cast_ofNat_Int]; (try simp only [S, TY, reduceCtorEq, nq0, nq1, nq2, nq3, nq4, iq0, iq1, iq2, iq3, iq4, iq5, iq6, iq7, iq8]))); repeat ((first | (refine cl_drawi 29 D8_29 (List.range 31) (by decide) (by kernel_rfl) ?_; unfold D8_29)); simp only [S, TY, reduceCtorEq, nq0, nq1, nq2, nq3, nq4, iq0, iq1, iq2, iq3, iq4, iq5, iq6, iq7, iq8]; (try (simp (disch := omega) only [W2, Int.cast_ofNat_Int]; (try simp only [S, TY, reduceCtorEq, nq0, nq1, nq2, nq3, nq4, iq0, iq1, iq2, iq3, iq4, iq5, iq6, iq7, iq8])))))
      exact fin_take (B := []) h10 ⟨rfl, rfl⟩
theorem playsV {G : Hp} {v0 v1 : Value} {y0 : (Ty.int .u16).den} {y1 : (Ty.sl AT).den} (h0 : Ty.V G (.int .u16) v0 y0) (h1 : Ty.V G (.sl AT) v1 y1) :
    Con Try.prog G 8 [v0, v1] [] (fun r B => r = .bool true ∧ B = []) := by
  rcases h0 with ⟨h, _⟩ | ⟨_, h0, hk⟩
  · cases h
  rcases h1 with ⟨h, _⟩ | ⟨_, w, h1, hv⟩
  · cases h
  cases h0; cases h1
  simp only [Lit.wf, IntKind.min, IntKind.max, IntKind.signed, IntKind.bits, Bool.and_eq_true, decide_eq_true_eq] at hk
  exact playsLaw (by have := hk.1; simpa using this) (by have := hk.2; simp at this; omega) hv
end Go.Proofs.Ytfjmejideoklpaa.JnX
