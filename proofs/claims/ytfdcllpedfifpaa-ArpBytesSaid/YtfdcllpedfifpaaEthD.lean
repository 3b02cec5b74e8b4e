/- ether.Decode, over the machine. -/
import Derived.Test.YtfdcllpedfifpaaEth
set_option linter.unusedVariables false
set_option linter.unusedSimpArgs false
set_option maxRecDepth 10000
namespace Go.Proofs.Ytfdcllpedfifpaa.EthD
open Go Go.Sl Go.Proofs Go.Proofs.Ytfdcllpedfifpaa.Buf Go.Proofs.Ytfdcllpedfifpaa.BufRd Go.Proofs.Ytfdcllpedfifpaa.BufRe Go.Proofs.Ytfdcllpedfifpaa.BufP Go.Proofs.Ytfdcllpedfifpaa.Eth
theorem TY : aggN Try.prog 3 = some none ∧
  aggN Try.prog 5 = some none ∧
  aggN Try.prog 29 = some none ∧
  aggN Try.prog 33 = some none ∧
  aggN Try.prog 47 = some none ∧
  aggN Try.prog 49 = some (some 4) ∧
  aggN Try.prog 131 = some none ∧
  apI Try.prog 33 = some (5, 1, 1) ∧
  bIs Try.prog 49 = true ∧
  bySl Try.prog 33 = true ∧
  csz Try.prog 3 = some 1 ∧
  csz Try.prog 5 = some 1 ∧
  csz Try.prog 29 = some 1 ∧
  csz Try.prog 33 = some 1 ∧
  csz Try.prog 47 = some 1 ∧
  csz Try.prog 49 = some 4 ∧
  csz Try.prog 131 = some 1 ∧
  goes Try.prog 29 = true ∧
  goes Try.prog 89 = true ∧
  goes Try.prog 90 = true ∧
  goes Try.prog 91 = true ∧
  goes Try.prog 92 = true ∧
  inIs Try.prog 3 = some .i64 ∧
  inIs Try.prog 5 = some .u8 ∧
  inIs Try.prog 29 = some .i64 ∧
  inIs Try.prog 47 = some .u64 ∧
  plcs Try.prog 49 = [(0, 1), (1, 1), (2, 1), (3, 1)] ∧
  ptIs Try.prog 131 = true ∧
  slEl Try.prog 33 = 5 ∧
  slIs Try.prog 33 = true ∧
  slSz Try.prog 33 = 1 ∧
  zcs Try.prog 49 = [.int .u64 0, .int .u64 0, .int .i64 0, .slice none 0 0] ∧
  zro Try.prog 3 = some (.int .i64 0) ∧
  zro Try.prog 5 = some (.int .u8 0) ∧
  zro Try.prog 29 = some (.int .i64 0) ∧
  zro Try.prog 33 = some (.slice none 0 0) ∧
  zro Try.prog 47 = some (.int .u64 0) ∧
  zro Try.prog 49 = some (.agg #[.int .u64 0, .int .u64 0, .int .i64 0, .slice none 0 0]) ∧
  zro Try.prog 131 = some (.pointer none) :=
  ⟨by kernel_rfl, by kernel_rfl, by kernel_rfl, by kernel_rfl, by kernel_rfl, by kernel_rfl, by kernel_rfl, by kernel_rfl, by kernel_rfl, by kernel_rfl, by kernel_rfl, by kernel_rfl, by kernel_rfl, by kernel_rfl, by kernel_rfl, by kernel_rfl, by kernel_rfl, by kernel_rfl, by kernel_rfl, by kernel_rfl, by kernel_rfl, by kernel_rfl, by kernel_rfl, by kernel_rfl, by kernel_rfl, by kernel_rfl, by kernel_rfl, by kernel_rfl, by kernel_rfl, by kernel_rfl, by kernel_rfl, by kernel_rfl, by kernel_rfl, by kernel_rfl, by kernel_rfl, by kernel_rfl, by kernel_rfl, by kernel_rfl, by kernel_rfl⟩
def hdr (b : List UInt8) : Nat × Nat × Nat := (val (b.take 6), val ((b.drop 6).take 6), val ((b.drop 12).take 2))
theorem hdr_lt (b : List UInt8) : (hdr b).1 < 281474976710656 ∧ (hdr b).2.1 < 281474976710656 ∧ (hdr b).2.2 < 65536 := by
  have h : ∀ (l : List UInt8) (k : Nat), val (l.take k) < 256 ^ k := fun l k => Nat.lt_of_lt_of_le (val_lt _) (Nat.pow_le_pow_right (by decide) (by rw [List.length_take]; omega))
  refine ⟨?_, ?_, ?_⟩
  · exact h b 6
  · exact h (b.drop 6) 6
  · exact h (b.drop 12) 2
def DecR (b : List UInt8) (r : Value) (B : List Asn) : Prop := if 14 ≤ b.length ∧ b.length ≤ 1514 then
  ∃ u, r = .tuple #[frv (hdr b).1 (hdr b).2.1 (hdr b).2.2 u, .int .i64 0] ∧ B = [own 5 1 u (bv (b.drop 14))] else r = .tuple #[frv 0 0 0 (.slice none 0 0), .int .i64 2] ∧ B = []
abbrev frl (d s t : Int) (v : Value) : List Value := [.int .u64 d, .int .u64 s, .int .i64 t, v]
theorem Decode_ok {G : Hp} {v : Value} {l : List UInt8} (hv : rds G 1 v (bv l)) (hl : l.length ≤ 100000) : Con Try.prog G 35 [v] [] (DecR l) := by
  refine Con.intro Try.func35 rfl (Nat.le_of_ble_eq_true (by kernel_rfl)) (by kernel_rfl) Try.results35 ?_
  intro H hH
  ((try simp only [S, TY, reduceCtorEq, Nat.reduceEqDiff, Nat.reduceAdd, Nat.reduceLeDiff, Nat.reduceBEq, Int.reduceBEq, Nat.reduceMul, Int.reduceEq, Int.reduceLT, Int.reduceLE, Int.reduceAdd, Int.reduceSub, Int.reduceMul, Int.reduceToNat, Int.cast_ofNat_Int]); (try (simp (disch := omega) only [W2, Int.cast_ofNat_Int]; (try simp only [S, TY, reduceCtorEq, Nat.reduceEqDiff, Nat.reduceAdd, Nat.reduceLeDiff, Nat.reduceBEq, Int.reduceBEq, Nat.reduceMul, Int.reduceEq, Int.reduceLT, Int.reduceLE, Int.reduceAdd, Int.reduceSub, Int.reduceMul, Int.reduceToNat, Int.cast_ofNat_Int]))))
  intro b hb hg
  have h1 := hH.new hb hg (.cells #[.int .u64 0, .int .u64 0, .int .i64 0, .slice none 0 0] 49 (0, 0))
  ((try simp only [S, TY, reduceCtorEq, Nat.reduceEqDiff, Nat.reduceAdd, Nat.reduceLeDiff, Nat.reduceBEq, Int.reduceBEq, Nat.reduceMul, Int.reduceEq, Int.reduceLT, Int.reduceLE, Int.reduceAdd, Int.reduceSub, Int.reduceMul, Int.reduceToNat, Int.cast_ofNat_Int]); (try (simp (disch := omega) only [W2, Int.cast_ofNat_Int]; (try simp only [S, TY, reduceCtorEq, Nat.reduceEqDiff, Nat.reduceAdd, Nat.reduceLeDiff, Nat.reduceBEq, Int.reduceBEq, Nat.reduceMul, Int.reduceEq, Int.reduceLT, Int.reduceLE, Int.reduceAdd, Int.reduceSub, Int.reduceMul, Int.reduceToNat, Int.cast_ofNat_Int]))))
  refine (read_ok hv (by omega)).at_ h1 [] _ rfl fun r B H2 hr h2 => ?_
  obtain ⟨p, rfl, rfl⟩ := hr
  have hx := hdr_lt l
  by_cases g : 14 ≤ l.length
  · have e1 := get_good (b := l) (k := 6) (by omega) (by omega) (by simp; omega)
    have e2 := get_good (b := l.drop 6) (k := 6) (by omega) (by omega) (by simp; omega)
    have e3 := get_good (b := l.drop 12) (k := 2) (by omega) (by omega) (by simp; omega)
    have e4 : R.rest ⟨l.drop 14, false⟩ = (⟨[], false⟩, l.drop 14) := rfl
    simp only [List.drop_drop, show (6 : Int).toNat = 6 from rfl, show (2 : Int).toNat = 2 from rfl, Nat.reduceAdd] at e1 e2 e3
    ((try simp only [S, TY, reduceCtorEq, Nat.reduceEqDiff, Nat.reduceAdd, Nat.reduceLeDiff, Nat.reduceBEq, Int.reduceBEq, Nat.reduceMul, Int.reduceEq, Int.reduceLT, Int.reduceLE, Int.reduceAdd, Int.reduceSub, Int.reduceMul, Int.reduceToNat, Int.cast_ofNat_Int]); (try (simp (disch := omega) only [W2, Int.cast_ofNat_Int]; (try simp only [S, TY, reduceCtorEq, Nat.reduceEqDiff, Nat.reduceAdd, Nat.reduceLeDiff, Nat.reduceBEq, Int.reduceBEq, Nat.reduceMul, Int.reduceEq, Int.reduceLT, Int.reduceLE, Int.reduceAdd, Int.reduceSub, Int.reduceMul, Int.reduceToNat, Int.cast_ofNat_Int]))))
    refine (get_ok (r := ⟨l, false⟩) 6 (by simp only; omega)).at_ h2 [0] _ rfl fun r B H3 hr h3 => ?_
    rw [e1] at hr
    obtain ⟨rfl, rfl⟩ := hr
    ((try simp only [S, TY, reduceCtorEq, Nat.reduceEqDiff, Nat.reduceAdd, Nat.reduceLeDiff, Nat.reduceBEq, Int.reduceBEq, Nat.reduceMul, Int.reduceEq, Int.reduceLT, Int.reduceLE, Int.reduceAdd, Int.reduceSub, Int.reduceMul, Int.reduceToNat, Int.cast_ofNat_Int]); (try (simp (disch := omega) only [W2, Int.cast_ofNat_Int]; (try simp only [S, TY, reduceCtorEq, Nat.reduceEqDiff, Nat.reduceAdd, Nat.reduceLeDiff, Nat.reduceBEq, Int.reduceBEq, Nat.reduceMul, Int.reduceEq, Int.reduceLT, Int.reduceLE, Int.reduceAdd, Int.reduceSub, Int.reduceMul, Int.reduceToNat, Int.cast_ofNat_Int]))))
    refine (get_ok (r := ⟨l.drop 6, false⟩) 6 (by simp; omega)).at_ h3 [0] _ rfl fun r B H4 hr h4 => ?_
    rw [e2] at hr
    obtain ⟨rfl, rfl⟩ := hr
    ((try simp only [S, TY, reduceCtorEq, Nat.reduceEqDiff, Nat.reduceAdd, Nat.reduceLeDiff, Nat.reduceBEq, Int.reduceBEq, Nat.reduceMul, Int.reduceEq, Int.reduceLT, Int.reduceLE, Int.reduceAdd, Int.reduceSub, Int.reduceMul, Int.reduceToNat, Int.cast_ofNat_Int]); (try (simp (disch := omega) only [W2, Int.cast_ofNat_Int]; (try simp only [S, TY, reduceCtorEq, Nat.reduceEqDiff, Nat.reduceAdd, Nat.reduceLeDiff, Nat.reduceBEq, Int.reduceBEq, Nat.reduceMul, Int.reduceEq, Int.reduceLT, Int.reduceLE, Int.reduceAdd, Int.reduceSub, Int.reduceMul, Int.reduceToNat, Int.cast_ofNat_Int]))))
    refine (get_ok (r := ⟨l.drop 12, false⟩) 2 (by simp; omega)).at_ h4 [0] _ rfl fun r B H5 hr h5 => ?_
    rw [e3] at hr
    obtain ⟨rfl, rfl⟩ := hr
    ((try simp only [S, TY, reduceCtorEq, Nat.reduceEqDiff, Nat.reduceAdd, Nat.reduceLeDiff, Nat.reduceBEq, Int.reduceBEq, Nat.reduceMul, Int.reduceEq, Int.reduceLT, Int.reduceLE, Int.reduceAdd, Int.reduceSub, Int.reduceMul, Int.reduceToNat, Int.cast_ofNat_Int]); (try (simp (disch := omega) only [W2, Int.cast_ofNat_Int]; (try simp only [S, TY, reduceCtorEq, Nat.reduceEqDiff, Nat.reduceAdd, Nat.reduceLeDiff, Nat.reduceBEq, Int.reduceBEq, Nat.reduceMul, Int.reduceEq, Int.reduceLT, Int.reduceLE, Int.reduceAdd, Int.reduceSub, Int.reduceMul, Int.reduceToNat, Int.cast_ofNat_Int]))))
    refine (BufRe.rest_ok (r := ⟨l.drop 14, false⟩) (by simp; omega)).at_ h5 [0] _ rfl fun r B H6 hr h6 => ?_
    rw [e4] at hr
    subst hr
    obtain ⟨ua, un, uc, rfl, f1, f2⟩ := h6.sl 0 rfl Rd_own
    have w1 : IntKind.u64.wrap ((val (l.take 6) : Nat) : Int) = (val (l.take 6) : Nat) := wrap_u64_id (by omega) (by have := hx.1; unfold hdr at this; simp only at this; omega)
    have w2 : IntKind.u64.wrap ((val ((l.drop 6).take 6) : Nat) : Int) = (val ((l.drop 6).take 6) : Nat) := wrap_u64_id (by omega) (by have := hx.2.1; unfold hdr at this; simp only at this; omega)
    ((try simp only [S, TY, reduceCtorEq, Nat.reduceEqDiff, Nat.reduceAdd, Nat.reduceLeDiff, Nat.reduceBEq, Int.reduceBEq, Nat.reduceMul, Int.reduceEq, Int.reduceLT, Int.reduceLE, Int.reduceAdd, Int.reduceSub, Int.reduceMul, Int.reduceToNat, Int.cast_ofNat_Int, w1, w2]); (try (simp (disch := omega) only [W2, Int.cast_ofNat_Int]; (try simp only [S, TY, reduceCtorEq, Nat.reduceEqDiff, Nat.reduceAdd, Nat.reduceLeDiff, Nat.reduceBEq, Int.reduceBEq, Nat.reduceMul, Int.reduceEq, Int.reduceLT, Int.reduceLE, Int.reduceAdd, Int.reduceSub, Int.reduceMul, Int.reduceToNat, Int.cast_ofNat_Int, w1, w2]))))
    intro b7 hb7 hg7
    have h7 := h6.new hb7 hg7 (.cells (frl 0 0 0 (.slice none 0 0)).toArray 49 (0, 0))
    ((try simp only [S, TY, reduceCtorEq, Nat.reduceEqDiff, Nat.reduceAdd, Nat.reduceLeDiff, Nat.reduceBEq, Int.reduceBEq, Nat.reduceMul, Int.reduceEq, Int.reduceLT, Int.reduceLE, Int.reduceAdd, Int.reduceSub, Int.reduceMul, Int.reduceToNat, Int.cast_ofNat_Int, w1, w2]); (try (simp (disch := omega) only [W2, Int.cast_ofNat_Int]; (try simp only [S, TY, reduceCtorEq, Nat.reduceEqDiff, Nat.reduceAdd, Nat.reduceLeDiff, Nat.reduceBEq, Int.reduceBEq, Nat.reduceMul, Int.reduceEq, Int.reduceLT, Int.reduceLE, Int.reduceAdd, Int.reduceSub, Int.reduceMul, Int.reduceToNat, Int.cast_ofNat_Int, w1, w2]))))
    refine sg.stAll (vs := frl (hdr l).1 (hdr l).2.1 (hdr l).2.2 (.slice ua un uc)) h7 rfl rfl fun H8 h8 => ?_
    ((try simp only [S, TY, reduceCtorEq, Nat.reduceEqDiff, Nat.reduceAdd, Nat.reduceLeDiff, Nat.reduceBEq, Int.reduceBEq, Nat.reduceMul, Int.reduceEq, Int.reduceLT, Int.reduceLE, Int.reduceAdd, Int.reduceSub, Int.reduceMul, Int.reduceToNat, Int.cast_ofNat_Int]); (try (simp (disch := omega) only [W2, Int.cast_ofNat_Int]; (try simp only [S, TY, reduceCtorEq, Nat.reduceEqDiff, Nat.reduceAdd, Nat.reduceLeDiff, Nat.reduceBEq, Int.reduceBEq, Nat.reduceMul, Int.reduceEq, Int.reduceLT, Int.reduceLE, Int.reduceAdd, Int.reduceSub, Int.reduceMul, Int.reduceToNat, Int.cast_ofNat_Int]))))
    refine (BufRe.done_ok (r := ⟨[], false⟩)).at_ h8 [2] _ rfl fun r B H9 hr h9 => ?_
    obtain ⟨rfl, rfl⟩ := hr
    have w9 := (h9.front 1).ld
    simp only [List.length_cons, List.length_nil, Nat.reduceAdd] at w9
    have e5 : R.done ⟨[], false⟩ = 0 := rfl
    ((try simp only [S, TY, reduceCtorEq, Nat.reduceEqDiff, Nat.reduceAdd, Nat.reduceLeDiff, Nat.reduceBEq, Int.reduceBEq, Nat.reduceMul, Int.reduceEq, Int.reduceLT, Int.reduceLE, Int.reduceAdd, Int.reduceSub, Int.reduceMul, Int.reduceToNat, Int.cast_ofNat_Int, w9, e5]); (try (simp (disch := omega) only [W2, Int.cast_ofNat_Int]; (try simp only [S, TY, reduceCtorEq, Nat.reduceEqDiff, Nat.reduceAdd, Nat.reduceLeDiff, Nat.reduceBEq, Int.reduceBEq, Nat.reduceMul, Int.reduceEq, Int.reduceLT, Int.reduceLE, Int.reduceAdd, Int.reduceSub, Int.reduceMul, Int.reduceToNat, Int.cast_ofNat_Int, w9, e5]))))
    refine Con.lend_at [] [own 5 1 _ _] h9 [2] rfl (fun F hF hs => Right_ok (l := l.drop 14) (hdr l).1 (hdr l).2.1 (hdr l).2.2 (by omega) (seps_own hs 0 rfl).left) fun r B H10 hr h10 => ?_
    obtain ⟨rfl, rfl⟩ := hr
    by_cases gl : l.length ≤ 1514
    · have er : right (hdr l).1 (hdr l).2.1 (hdr l).2.2 (l.drop 14).length = true := by unfold right; rw [decide_eq_true_eq, List.length_drop]; omega
      have w10 := (h10.front 2).ld
      simp only [List.length_cons, List.length_nil, Nat.reduceAdd] at w10
      ((try simp only [S, TY, reduceCtorEq, Nat.reduceEqDiff, Nat.reduceAdd, Nat.reduceLeDiff, Nat.reduceBEq, Int.reduceBEq, Nat.reduceMul, Int.reduceEq, Int.reduceLT, Int.reduceLE, Int.reduceAdd, Int.reduceSub, Int.reduceMul, Int.reduceToNat, Int.cast_ofNat_Int, er, w10]); (try (simp (disch := omega) only [W2, Int.cast_ofNat_Int]; (try simp only [S, TY, reduceCtorEq, Nat.reduceEqDiff, Nat.reduceAdd, Nat.reduceLeDiff, Nat.reduceBEq, Int.reduceBEq, Nat.reduceMul, Int.reduceEq, Int.reduceLT, Int.reduceLE, Int.reduceAdd, Int.reduceSub, Int.reduceMul, Int.reduceToNat, Int.cast_ofNat_Int, er, w10]))))
      refine sg.stAll (vs := frl (hdr l).1 (hdr l).2.1 (hdr l).2.2 (.slice ua un uc)) (h10.front 3) rfl rfl fun H11 h11 => ?_
      have w11 := h11.ld
      simp only [List.length_cons, List.length_nil, Nat.reduceAdd] at w11
      ((try simp only [S, TY, reduceCtorEq, Nat.reduceEqDiff, Nat.reduceAdd, Nat.reduceLeDiff, Nat.reduceBEq, Int.reduceBEq, Nat.reduceMul, Int.reduceEq, Int.reduceLT, Int.reduceLE, Int.reduceAdd, Int.reduceSub, Int.reduceMul, Int.reduceToNat, Int.cast_ofNat_Int, w11]); (try (simp (disch := omega) only [W2, Int.cast_ofNat_Int]; (try simp only [S, TY, reduceCtorEq, Nat.reduceEqDiff, Nat.reduceAdd, Nat.reduceLeDiff, Nat.reduceBEq, Int.reduceBEq, Nat.reduceMul, Int.reduceEq, Int.reduceLT, Int.reduceLE, Int.reduceAdd, Int.reduceSub, Int.reduceMul, Int.reduceToNat, Int.cast_ofNat_Int, w11]))))
      exact fin_take (B := [_]) (h11.front 1) (by unfold DecR; rw [if_pos ⟨g, gl⟩]; exact ⟨_, rfl, rfl⟩)
    · have er : right (hdr l).1 (hdr l).2.1 (hdr l).2.2 (l.drop 14).length = false := by unfold right; rw [decide_eq_false_iff_not, List.length_drop]; omega
      ((try simp only [S, TY, reduceCtorEq, Nat.reduceEqDiff, Nat.reduceAdd, Nat.reduceLeDiff, Nat.reduceBEq, Int.reduceBEq, Nat.reduceMul, Int.reduceEq, Int.reduceLT, Int.reduceLE, Int.reduceAdd, Int.reduceSub, Int.reduceMul, Int.reduceToNat, Int.cast_ofNat_Int, er]); (try (simp (disch := omega) only [W2, Int.cast_ofNat_Int]; (try simp only [S, TY, reduceCtorEq, Nat.reduceEqDiff, Nat.reduceAdd, Nat.reduceLeDiff, Nat.reduceBEq, Int.reduceBEq, Nat.reduceMul, Int.reduceEq, Int.reduceLT, Int.reduceLE, Int.reduceAdd, Int.reduceSub, Int.reduceMul, Int.reduceToNat, Int.cast_ofNat_Int, er]))))
      refine sg.stAll (vs := frl 0 0 0 (.slice none 0 0)) (h10.front 3) rfl rfl fun H11 h11 => ?_
      have w11 := h11.ld
      simp only [List.length_cons, List.length_nil, Nat.reduceAdd] at w11
      ((try simp only [S, TY, reduceCtorEq, Nat.reduceEqDiff, Nat.reduceAdd, Nat.reduceLeDiff, Nat.reduceBEq, Int.reduceBEq, Nat.reduceMul, Int.reduceEq, Int.reduceLT, Int.reduceLE, Int.reduceAdd, Int.reduceSub, Int.reduceMul, Int.reduceToNat, Int.cast_ofNat_Int, w11]); (try (simp (disch := omega) only [W2, Int.cast_ofNat_Int]; (try simp only [S, TY, reduceCtorEq, Nat.reduceEqDiff, Nat.reduceAdd, Nat.reduceLeDiff, Nat.reduceBEq, Int.reduceBEq, Nat.reduceMul, Int.reduceEq, Int.reduceLT, Int.reduceLE, Int.reduceAdd, Int.reduceSub, Int.reduceMul, Int.reduceToNat, Int.cast_ofNat_Int, w11]))))
      exact fin_take (B := []) h11 (by unfold DecR; rw [if_neg (by omega)]; exact ⟨rfl, rfl⟩)
  · have q1 : ((R.mk l false).get 6).1.failed = true ∨ ((R.mk l false).get 6).1.b.length < 8 := by
      by_cases z : l.length < 6
      · exact .inl (get_bad (.inr z))
      · right
        rw [get_good (by omega) (by omega) (by simp; omega)]; simp; omega
    have z1 := BufRe.get_len ⟨l, false⟩ 6
    simp only at z1
    ((try simp only [S, TY, reduceCtorEq, Nat.reduceEqDiff, Nat.reduceAdd, Nat.reduceLeDiff, Nat.reduceBEq, Int.reduceBEq, Nat.reduceMul, Int.reduceEq, Int.reduceLT, Int.reduceLE, Int.reduceAdd, Int.reduceSub, Int.reduceMul, Int.reduceToNat, Int.cast_ofNat_Int]); (try (simp (disch := omega) only [W2, Int.cast_ofNat_Int]; (try simp only [S, TY, reduceCtorEq, Nat.reduceEqDiff, Nat.reduceAdd, Nat.reduceLeDiff, Nat.reduceBEq, Int.reduceBEq, Nat.reduceMul, Int.reduceEq, Int.reduceLT, Int.reduceLE, Int.reduceAdd, Int.reduceSub, Int.reduceMul, Int.reduceToNat, Int.cast_ofNat_Int]))))
    refine (get_ok (r := ⟨l, false⟩) 6 (by simp only; omega)).at_ h2 [0] _ rfl fun r B H3 hr h3 => ?_
    generalize (R.mk l false).get 6 = o1 at *
    obtain ⟨r1, x1⟩ := o1
    simp only at q1 z1 hr
    obtain ⟨rfl, rfl⟩ := hr
    have q2 : (r1.get 6).1.failed = true ∨ (r1.get 6).1.b.length < 2 := by
      by_cases z : r1.failed = true ∨ r1.b.length < 6
      · exact .inl (get_bad z)
      · right
        obtain ⟨rb, rf⟩ := r1
        simp only [not_or, Bool.not_eq_true] at z
        obtain ⟨rfl, z⟩ := z
        rw [get_good (by omega) (by omega) (by simp; omega)]; simp; simp at q1; omega
    have z2 := BufRe.get_len r1 6
    ((try simp only [S, TY, reduceCtorEq, Nat.reduceEqDiff, Nat.reduceAdd, Nat.reduceLeDiff, Nat.reduceBEq, Int.reduceBEq, Nat.reduceMul, Int.reduceEq, Int.reduceLT, Int.reduceLE, Int.reduceAdd, Int.reduceSub, Int.reduceMul, Int.reduceToNat, Int.cast_ofNat_Int]); (try (simp (disch := omega) only [W2, Int.cast_ofNat_Int]; (try simp only [S, TY, reduceCtorEq, Nat.reduceEqDiff, Nat.reduceAdd, Nat.reduceLeDiff, Nat.reduceBEq, Int.reduceBEq, Nat.reduceMul, Int.reduceEq, Int.reduceLT, Int.reduceLE, Int.reduceAdd, Int.reduceSub, Int.reduceMul, Int.reduceToNat, Int.cast_ofNat_Int]))))
    refine (get_ok (r := r1) 6 (by omega)).at_ h3 [0] _ rfl fun r B H4 hr h4 => ?_
    generalize r1.get 6 = o2 at *
    obtain ⟨r2, x2⟩ := o2
    simp only at q2 z2 hr
    obtain ⟨rfl, rfl⟩ := hr
    have q3 : (r2.get 2).1.failed = true := get_bad (by simpa using q2)
    have z3 := BufRe.get_len r2 2
    ((try simp only [S, TY, reduceCtorEq, Nat.reduceEqDiff, Nat.reduceAdd, Nat.reduceLeDiff, Nat.reduceBEq, Int.reduceBEq, Nat.reduceMul, Int.reduceEq, Int.reduceLT, Int.reduceLE, Int.reduceAdd, Int.reduceSub, Int.reduceMul, Int.reduceToNat, Int.cast_ofNat_Int]); (try (simp (disch := omega) only [W2, Int.cast_ofNat_Int]; (try simp only [S, TY, reduceCtorEq, Nat.reduceEqDiff, Nat.reduceAdd, Nat.reduceLeDiff, Nat.reduceBEq, Int.reduceBEq, Nat.reduceMul, Int.reduceEq, Int.reduceLT, Int.reduceLE, Int.reduceAdd, Int.reduceSub, Int.reduceMul, Int.reduceToNat, Int.cast_ofNat_Int]))))
    refine (get_ok (r := r2) 2 (by omega)).at_ h4 [0] _ rfl fun r B H5 hr h5 => ?_
    generalize r2.get 2 = o3 at *
    obtain ⟨r3, x3⟩ := o3
    simp only at q3 z3 hr
    obtain ⟨rfl, rfl⟩ := hr
    have q4 : R.rest r3 = (r3, []) := by unfold R.rest; rw [if_pos q3]
    ((try simp only [S, TY, reduceCtorEq, Nat.reduceEqDiff, Nat.reduceAdd, Nat.reduceLeDiff, Nat.reduceBEq, Int.reduceBEq, Nat.reduceMul, Int.reduceEq, Int.reduceLT, Int.reduceLE, Int.reduceAdd, Int.reduceSub, Int.reduceMul, Int.reduceToNat, Int.cast_ofNat_Int]); (try (simp (disch := omega) only [W2, Int.cast_ofNat_Int]; (try simp only [S, TY, reduceCtorEq, Nat.reduceEqDiff, Nat.reduceAdd, Nat.reduceLeDiff, Nat.reduceBEq, Int.reduceBEq, Nat.reduceMul, Int.reduceEq, Int.reduceLT, Int.reduceLE, Int.reduceAdd, Int.reduceSub, Int.reduceMul, Int.reduceToNat, Int.cast_ofNat_Int]))))
    refine (BufRe.rest_ok (r := r3) (by omega)).at_ h5 [0] _ rfl fun r B H6 hr h6 => ?_
    rw [q4] at hr
    subst hr
    obtain ⟨ua, un, uc, rfl, f1, f2⟩ := h6.sl 0 rfl Rd_own
    ((try simp only [S, TY, reduceCtorEq, Nat.reduceEqDiff, Nat.reduceAdd, Nat.reduceLeDiff, Nat.reduceBEq, Int.reduceBEq, Nat.reduceMul, Int.reduceEq, Int.reduceLT, Int.reduceLE, Int.reduceAdd, Int.reduceSub, Int.reduceMul, Int.reduceToNat, Int.cast_ofNat_Int]); (try (simp (disch := omega) only [W2, Int.cast_ofNat_Int]; (try simp only [S, TY, reduceCtorEq, Nat.reduceEqDiff, Nat.reduceAdd, Nat.reduceLeDiff, Nat.reduceBEq, Int.reduceBEq, Nat.reduceMul, Int.reduceEq, Int.reduceLT, Int.reduceLE, Int.reduceAdd, Int.reduceSub, Int.reduceMul, Int.reduceToNat, Int.cast_ofNat_Int]))))
    intro b7 hb7 hg7
    have h7 := h6.new hb7 hg7 (.cells (frl 0 0 0 (.slice none 0 0)).toArray 49 (0, 0))
    ((try simp only [S, TY, reduceCtorEq, Nat.reduceEqDiff, Nat.reduceAdd, Nat.reduceLeDiff, Nat.reduceBEq, Int.reduceBEq, Nat.reduceMul, Int.reduceEq, Int.reduceLT, Int.reduceLE, Int.reduceAdd, Int.reduceSub, Int.reduceMul, Int.reduceToNat, Int.cast_ofNat_Int]); (try (simp (disch := omega) only [W2, Int.cast_ofNat_Int]; (try simp only [S, TY, reduceCtorEq, Nat.reduceEqDiff, Nat.reduceAdd, Nat.reduceLeDiff, Nat.reduceBEq, Int.reduceBEq, Nat.reduceMul, Int.reduceEq, Int.reduceLT, Int.reduceLE, Int.reduceAdd, Int.reduceSub, Int.reduceMul, Int.reduceToNat, Int.cast_ofNat_Int]))))
    refine sg.stAll (vs := frl (IntKind.u64.wrap x1) (IntKind.u64.wrap x2) x3 (.slice ua un uc)) h7 rfl rfl fun H8 h8 => ?_
    ((try simp only [S, TY, reduceCtorEq, Nat.reduceEqDiff, Nat.reduceAdd, Nat.reduceLeDiff, Nat.reduceBEq, Int.reduceBEq, Nat.reduceMul, Int.reduceEq, Int.reduceLT, Int.reduceLE, Int.reduceAdd, Int.reduceSub, Int.reduceMul, Int.reduceToNat, Int.cast_ofNat_Int]); (try (simp (disch := omega) only [W2, Int.cast_ofNat_Int]; (try simp only [S, TY, reduceCtorEq, Nat.reduceEqDiff, Nat.reduceAdd, Nat.reduceLeDiff, Nat.reduceBEq, Int.reduceBEq, Nat.reduceMul, Int.reduceEq, Int.reduceLT, Int.reduceLE, Int.reduceAdd, Int.reduceSub, Int.reduceMul, Int.reduceToNat, Int.cast_ofNat_Int]))))
    refine (BufRe.done_ok (r := r3)).at_ h8 [2] _ rfl fun r B H9 hr h9 => ?_
    obtain ⟨rfl, rfl⟩ := hr
    have e5 : R.done r3 = 2 := by unfold R.done; rw [if_pos (.inl q3)]
    ((try simp only [S, TY, reduceCtorEq, Nat.reduceEqDiff, Nat.reduceAdd, Nat.reduceLeDiff, Nat.reduceBEq, Int.reduceBEq, Nat.reduceMul, Int.reduceEq, Int.reduceLT, Int.reduceLE, Int.reduceAdd, Int.reduceSub, Int.reduceMul, Int.reduceToNat, Int.cast_ofNat_Int, e5]); (try (simp (disch := omega) only [W2, Int.cast_ofNat_Int]; (try simp only [S, TY, reduceCtorEq, Nat.reduceEqDiff, Nat.reduceAdd, Nat.reduceLeDiff, Nat.reduceBEq, Int.reduceBEq, Nat.reduceMul, Int.reduceEq, Int.reduceLT, Int.reduceLE, Int.reduceAdd, Int.reduceSub, Int.reduceMul, Int.reduceToNat, Int.cast_ofNat_Int, e5]))))
    refine sg.stAll (vs := frl 0 0 0 (.slice none 0 0)) (h9.front 3) rfl rfl fun H11 h11 => ?_
    have w11 := h11.ld
    simp only [List.length_cons, List.length_nil, Nat.reduceAdd] at w11
    ((try simp only [S, TY, reduceCtorEq, Nat.reduceEqDiff, Nat.reduceAdd, Nat.reduceLeDiff, Nat.reduceBEq, Int.reduceBEq, Nat.reduceMul, Int.reduceEq, Int.reduceLT, Int.reduceLE, Int.reduceAdd, Int.reduceSub, Int.reduceMul, Int.reduceToNat, Int.cast_ofNat_Int, w11]); (try (simp (disch := omega) only [W2, Int.cast_ofNat_Int]; (try simp only [S, TY, reduceCtorEq, Nat.reduceEqDiff, Nat.reduceAdd, Nat.reduceLeDiff, Nat.reduceBEq, Int.reduceBEq, Nat.reduceMul, Int.reduceEq, Int.reduceLT, Int.reduceLE, Int.reduceAdd, Int.reduceSub, Int.reduceMul, Int.reduceToNat, Int.cast_ofNat_Int, w11]))))
    exact fin_take (B := []) h11 (by unfold DecR; rw [if_neg (by omega)]; exact ⟨rfl, rfl⟩)
end Go.Proofs.Ytfdcllpedfifpaa.EthD
