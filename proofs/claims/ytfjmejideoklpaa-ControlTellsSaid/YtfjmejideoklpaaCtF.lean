/- Messages' bytes, by the document. -/
import Derived.Test.YtfjmejideoklpaaCtE
import Derived.Test.YtfjmejideoklpaaBufD
set_option linter.unusedVariables false
set_option linter.unusedSimpArgs false
set_option maxRecDepth 10000
set_option maxHeartbeats 2000000
namespace Go.Proofs.Ytfjmejideoklpaa.CtF
open Go Go.Sl Go.Proofs Go.Proofs.Ytfjmejideoklpaa.Buf Go.Proofs.Ytfjmejideoklpaa.BufRd Go.Proofs.Ytfjmejideoklpaa.BufRe Go.Proofs.Ytfjmejideoklpaa.BufP Go.Proofs.Ytfjmejideoklpaa.BufD Go.Proofs.Ytfjmejideoklpaa.Wr Go.Proofs.Ytfjmejideoklpaa.Ph Go.Proofs.Ytfjmejideoklpaa.PhA Go.Proofs.Ytfjmejideoklpaa.Ct Go.Proofs.Ytfjmejideoklpaa.CtE
theorem TY : aggN Try.prog 3 = some none ∧
  aggN Try.prog 5 = some none ∧
  aggN Try.prog 22 = some none ∧
  aggN Try.prog 23 = some none ∧
  aggN Try.prog 25 = some (some 9) ∧
  aggN Try.prog 26 = some none ∧
  aggN Try.prog 28 = some (some 13) ∧
  aggN Try.prog 33 = some none ∧
  aggN Try.prog 145 = some none ∧
  aggN Try.prog 147 = some (some 5) ∧
  aggN Try.prog 149 = some (some 6) ∧
  aggN Try.prog 164 = some none ∧
  aggN Try.prog 166 = some (some 2) ∧
  apI Try.prog 26 = some (149, 6, 40) ∧
  apI Try.prog 33 = some (5, 1, 1) ∧
  bIs Try.prog 25 = true ∧
  bIs Try.prog 28 = true ∧
  bIs Try.prog 147 = true ∧
  bIs Try.prog 149 = true ∧
  bIs Try.prog 166 = true ∧
  bySl Try.prog 33 = true ∧
  csz Try.prog 3 = some 1 ∧
  csz Try.prog 5 = some 1 ∧
  csz Try.prog 22 = some 1 ∧
  csz Try.prog 23 = some 1 ∧
  csz Try.prog 25 = some 9 ∧
  csz Try.prog 26 = some 1 ∧
  csz Try.prog 28 = some 13 ∧
  csz Try.prog 33 = some 1 ∧
  csz Try.prog 145 = some 1 ∧
  csz Try.prog 147 = some 5 ∧
  csz Try.prog 149 = some 6 ∧
  csz Try.prog 164 = some 1 ∧
  csz Try.prog 166 = some 2 ∧
  eqF Try.prog 25 = some [.i, .i, .i, .i, .i, .i, .i, .i, .i] ∧
  eqF Try.prog 147 = some [.i, .i, .i, .i, .i] ∧
  eqF Try.prog 149 = some [.i, .i, .i, .i, .i, .i] ∧
  fIs Try.prog 25 0 = true ∧
  fIs Try.prog 25 1 = true ∧
  fIs Try.prog 25 2 = true ∧
  fIs Try.prog 25 3 = true ∧
  fIs Try.prog 25 4 = true ∧
  fIs Try.prog 25 5 = true ∧
  fIs Try.prog 25 6 = true ∧
  fIs Try.prog 25 7 = true ∧
  fIs Try.prog 25 8 = true ∧
  fIs Try.prog 28 0 = true ∧
  fIs Try.prog 28 1 = true ∧
  fIs Try.prog 28 2 = true ∧
  fIs Try.prog 28 3 = true ∧
  fIs Try.prog 28 4 = true ∧
  fIs Try.prog 147 0 = true ∧
  fIs Try.prog 147 1 = true ∧
  fIs Try.prog 147 2 = true ∧
  fIs Try.prog 147 3 = true ∧
  fIs Try.prog 147 4 = true ∧
  fIs Try.prog 149 0 = true ∧
  fIs Try.prog 149 1 = true ∧
  fIs Try.prog 166 0 = true ∧
  fOff Try.prog 25 0 = 0 ∧
  fOff Try.prog 25 1 = 1 ∧
  fOff Try.prog 25 2 = 2 ∧
  fOff Try.prog 25 3 = 3 ∧
  fOff Try.prog 25 4 = 4 ∧
  fOff Try.prog 25 5 = 5 ∧
  fOff Try.prog 25 6 = 6 ∧
  fOff Try.prog 25 7 = 7 ∧
  fOff Try.prog 25 8 = 8 ∧
  fOff Try.prog 28 0 = 0 ∧
  fOff Try.prog 28 1 = 1 ∧
  fOff Try.prog 28 2 = 10 ∧
  fOff Try.prog 28 3 = 11 ∧
  fOff Try.prog 28 4 = 12 ∧
  fOff Try.prog 147 0 = 0 ∧
  fOff Try.prog 147 1 = 1 ∧
  fOff Try.prog 147 2 = 2 ∧
  fOff Try.prog 147 3 = 3 ∧
  fOff Try.prog 147 4 = 4 ∧
  fOff Try.prog 149 0 = 0 ∧
  fOff Try.prog 149 1 = 5 ∧
  fOff Try.prog 166 0 = 0 ∧
  fTy Try.prog 25 0 = 3 ∧
  fTy Try.prog 25 1 = 22 ∧
  fTy Try.prog 25 2 = 3 ∧
  fTy Try.prog 25 3 = 3 ∧
  fTy Try.prog 25 4 = 3 ∧
  fTy Try.prog 25 5 = 3 ∧
  fTy Try.prog 25 6 = 23 ∧
  fTy Try.prog 25 7 = 3 ∧
  fTy Try.prog 25 8 = 3 ∧
  fTy Try.prog 28 0 = 3 ∧
  fTy Try.prog 28 1 = 25 ∧
  fTy Try.prog 28 2 = 3 ∧
  fTy Try.prog 28 3 = 3 ∧
  fTy Try.prog 28 4 = 26 ∧
  fTy Try.prog 147 0 = 3 ∧
  fTy Try.prog 147 1 = 145 ∧
  fTy Try.prog 147 2 = 145 ∧
  fTy Try.prog 147 3 = 3 ∧
  fTy Try.prog 147 4 = 3 ∧
  fTy Try.prog 149 0 = 147 ∧
  fTy Try.prog 149 1 = 3 ∧
  fTy Try.prog 166 0 = 33 ∧
  goes Try.prog 98 = true ∧
  inIs Try.prog 3 = some .i64 ∧
  inIs Try.prog 5 = some .u8 ∧
  inIs Try.prog 22 = some .u64 ∧
  inIs Try.prog 23 = some .i64 ∧
  inIs Try.prog 145 = some .u32 ∧
  plcs Try.prog 25 = [(0, 1), (1, 1), (2, 1), (3, 1), (4, 1), (5, 1), (6, 1), (7, 1), (8, 1)] ∧
  plcs Try.prog 28 = [(0, 1), (1, 9), (10, 1), (11, 1), (12, 1)] ∧
  plcs Try.prog 147 = [(0, 1), (1, 1), (2, 1), (3, 1), (4, 1)] ∧
  plcs Try.prog 149 = [(0, 5), (5, 1)] ∧
  plcs Try.prog 166 = [(0, 1), (1, 1)] ∧
  ptIs Try.prog 164 = true ∧
  slEl Try.prog 26 = 149 ∧
  slEl Try.prog 33 = 5 ∧
  slIs Try.prog 26 = true ∧
  slIs Try.prog 33 = true ∧
  slSz Try.prog 26 = 6 ∧
  slSz Try.prog 33 = 1 ∧
  zcs Try.prog 25 = [.int .i64 0, .int .u64 0, .int .i64 0, .int .i64 0, .int .i64 0, .int .i64 0, .int .i64 0, .int .i64 0, .int .i64 0] ∧
  zcs Try.prog 28 = [.int .i64 0, .int .i64 0, .int .u64 0, .int .i64 0, .int .i64 0, .int .i64 0, .int .i64 0, .int .i64 0, .int .i64 0, .int .i64 0, .int .i64 0, .int .i64 0, .slice none 0 0] ∧
  zcs Try.prog 147 = [.int .i64 0, .int .u32 0, .int .u32 0, .int .i64 0, .int .i64 0] ∧
  zcs Try.prog 149 = [.int .i64 0, .int .u32 0, .int .u32 0, .int .i64 0, .int .i64 0, .int .i64 0] ∧
  zcs Try.prog 166 = [.slice none 0 0, .bool false] ∧
  zro Try.prog 3 = some (.int .i64 0) ∧
  zro Try.prog 5 = some (.int .u8 0) ∧
  zro Try.prog 22 = some (.int .u64 0) ∧
  zro Try.prog 23 = some (.int .i64 0) ∧
  zro Try.prog 25 = some (.agg #[.int .i64 0, .int .u64 0, .int .i64 0, .int .i64 0, .int .i64 0, .int .i64 0, .int .i64 0, .int .i64 0, .int .i64 0]) ∧
  zro Try.prog 26 = some (.slice none 0 0) ∧
  zro Try.prog 28 = some (.agg #[.int .i64 0, .int .i64 0, .int .u64 0, .int .i64 0, .int .i64 0, .int .i64 0, .int .i64 0, .int .i64 0, .int .i64 0, .int .i64 0, .int .i64 0, .int .i64 0, .slice none 0 0]) ∧
  zro Try.prog 33 = some (.slice none 0 0) ∧
  zro Try.prog 145 = some (.int .u32 0) ∧
  zro Try.prog 147 = some (.agg #[.int .i64 0, .int .u32 0, .int .u32 0, .int .i64 0, .int .i64 0]) ∧
  zro Try.prog 149 = some (.agg #[.int .i64 0, .int .u32 0, .int .u32 0, .int .i64 0, .int .i64 0, .int .i64 0]) ∧
  zro Try.prog 164 = some (.pointer none) ∧
  zro Try.prog 166 = some (.agg #[.slice none 0 0, .bool false]) :=
  ⟨by kernel_rfl, by kernel_rfl, by kernel_rfl, by kernel_rfl, by kernel_rfl, by kernel_rfl, by kernel_rfl, by kernel_rfl, by kernel_rfl, by kernel_rfl, by kernel_rfl, by kernel_rfl, by kernel_rfl, by kernel_rfl, by kernel_rfl, by kernel_rfl, by kernel_rfl, by kernel_rfl, by kernel_rfl, by kernel_rfl, by kernel_rfl, by kernel_rfl, by kernel_rfl, by kernel_rfl, by kernel_rfl, by kernel_rfl, by kernel_rfl, by kernel_rfl, by kernel_rfl, by kernel_rfl, by kernel_rfl, by kernel_rfl, by kernel_rfl, by kernel_rfl, by kernel_rfl, by kernel_rfl, by kernel_rfl, by kernel_rfl, by kernel_rfl, by kernel_rfl, by kernel_rfl, by kernel_rfl, by kernel_rfl, by kernel_rfl, by kernel_rfl, by kernel_rfl, by kernel_rfl, by kernel_rfl, by kernel_rfl, by kernel_rfl, by kernel_rfl, by kernel_rfl, by kernel_rfl, by kernel_rfl, by kernel_rfl, by kernel_rfl, by kernel_rfl, by kernel_rfl, by kernel_rfl, by kernel_rfl, by kernel_rfl, by kernel_rfl, by kernel_rfl, by kernel_rfl, by kernel_rfl, by kernel_rfl, by kernel_rfl, by kernel_rfl, by kernel_rfl, by kernel_rfl, by kernel_rfl, by kernel_rfl, by kernel_rfl, by kernel_rfl, by kernel_rfl, by kernel_rfl, by kernel_rfl, by kernel_rfl, by kernel_rfl, by kernel_rfl, by kernel_rfl, by kernel_rfl, by kernel_rfl, by kernel_rfl, by kernel_rfl, by kernel_rfl, by kernel_rfl, by kernel_rfl, by kernel_rfl, by kernel_rfl, by kernel_rfl, by kernel_rfl, by kernel_rfl, by kernel_rfl, by kernel_rfl, by kernel_rfl, by kernel_rfl, by kernel_rfl, by kernel_rfl, by kernel_rfl, by kernel_rfl, by kernel_rfl, by kernel_rfl, by kernel_rfl, by kernel_rfl, by kernel_rfl, by kernel_rfl, by kernel_rfl, by kernel_rfl, by kernel_rfl, by kernel_rfl, by kernel_rfl, by kernel_rfl, by kernel_rfl, by kernel_rfl, by kernel_rfl, by kernel_rfl, by kernel_rfl, by kernel_rfl, by kernel_rfl, by kernel_rfl, by kernel_rfl, by kernel_rfl, by kernel_rfl, by kernel_rfl, by kernel_rfl, by kernel_rfl, by kernel_rfl, by kernel_rfl, by kernel_rfl, by kernel_rfl, by kernel_rfl, by kernel_rfl, by kernel_rfl, by kernel_rfl, by kernel_rfl, by kernel_rfl, by kernel_rfl, by kernel_rfl⟩
theorem vputF {G : Hp} {p : Nat} {acc : List UInt8} {n x : Int} (h1 : 1 ≤ n) (h8 : n ≤ 8) (hx : 0 ≤ x) (hx' : x < 256 ^ n.toNat) (hx2 : x < 9223372036854775808) (hb : acc.length + 8 ≤ 70368744177664) :
    Con Try.prog G 98 [.pointer (some ⟨p, 0, none⟩), .int .i64 n, .int .i64 x] [isV p ⟨acc, false⟩] (fun v B => B = [isV p ⟨acc ++ flat n.toNat [x], false⟩]) := by
  have := vput_ok (G := G) (p := p) (w := ⟨acc, false⟩) (n := n) hx2 hb
  have e : W.vput n ⟨acc, false⟩ x = ⟨acc ++ flat n.toNat [x], false⟩ := by
    unfold W.vput; rw [if_pos ⟨h1, h8, fits_i hx hx'⟩]; simp [flat]
  rwa [e] at this
theorem newV {G H : Hp} {L : List Asn} {p : Nat} (h : sg G (ob p (.cells #[.slice none 0 0, .bool false] 166 (0, 0)) :: L) H) : sg G (isV p ⟨[], false⟩ :: L) H :=
  isV_shut (w := ⟨[], false⟩) (((h.nil_ 5 1).fronts [1, 0]))
theorem dBytes_ok {G : Hp} {v : Value} (m : Mg) (hv : rcs G v m.recs) (hll : m.recs.length ≤ 100000) (hmac : 0 ≤ m.row.mac) (hrec : ∀ x ∈ m.recs, (0 ≤ x.s ∧ x.s < 4294967296) ∧ 0 ≤ x.d ∧ x.d < 4294967296) (hm : m.ok = true) :
    Con Try.prog G 25 [m.v v] [] (fun r B => B = [own 5 1 r (bv m.enc)]) := by
  have yes : ∀ (u : Value) (L : List Asn) (H : Hp), sg G (own 5 1 u (bv m.enc) :: L) H → fin (fun r B => B = [own 5 1 r (bv m.enc)]) (.returned u) H := by
    intro u L H h
    exact fin_take (B := [_]) h rfl
  generalize hRR : (fun (r : Value) (B : List Asn) => B = [own 5 1 r (bv m.enc)]) = RR at *
  clear hRR
  obtain ⟨hall, hc⟩ := ok_cases hm
  have hrb : m.k = 1 → _ := fun _ => fun q => row_b (x := m.row) q hmac
  obtain ⟨k, ⟨x1, x2, x3, x4, x5, x6, x7, x8, x9⟩, port, ver, recs⟩ := m
  simp only at hv hll hall hc hrb hmac hrec
  obtain ⟨a, n, c, rfl, e1, e2⟩ := hv.slice
  rw [flat_len Rc.len] at e1
  obtain rfl : recs.length = n := by omega
  clear e1
  have hc2 : (k = 1 ∧ Rw.ok ⟨x1, x2, x3, x4, x5, x6, x7, x8, x9⟩ = true ∧ port = 0 ∧ ver = 0 ∧ rencs recs = []) ∨ (k = 2 ∧ ((0 ≤ port ∧ port ≤ 31) ∧ (1 ≤ ver ∧ ver ≤ 1099511627776) ∧ (⟨x1, x2, x3, x4, x5, x6, x7, x8, x9⟩ : Rw) = zr) ∧ recs.length ≤ 16) ∨
    (k = 3 ∧ ((0 ≤ port ∧ port ≤ 31) ∧ (1 ≤ ver ∧ ver ≤ 1099511627776) ∧ (⟨x1, x2, x3, x4, x5, x6, x7, x8, x9⟩ : Rw) = zr) ∧ recs.length ≤ 16) := by
    rcases hc with ⟨h1, h2, h3, h4, h5⟩ | ⟨h1, h2, h3⟩ | h
    · exact .inl ⟨h1, h2, h3, h4, by rw [h5]; rfl⟩
    · exact .inr (.inl ⟨h1, h2, by rw [h3]; simp⟩)
    · exact .inr (.inr h)
  clear hc
  rcases hc2 with ⟨rfl, hrow, rfl, rfl, hlen⟩ | ⟨rfl, ⟨hp, hvr, hz⟩, hlen⟩ | ⟨rfl, ⟨hp, hvr, hz⟩, hlen⟩
  · have hb := hrb rfl hrow
    clear hrb hrow hmac
    refine Con.intro Try.func25 rfl (Nat.le_of_ble_eq_true (by kernel_rfl)) (by kernel_rfl) Try.results25 ?_
    intro H h
    ((try simp only [S, TY, reduceCtorEq, Nat.reduceEqDiff, Nat.reduceAdd, Nat.reduceLeDiff, Nat.reduceBEq, Int.reduceBEq, Nat.reduceMul, Int.reduceEq, Int.reduceLT, Int.reduceLE, Int.reduceAdd, Int.reduceSub, Int.reduceMul, Int.reduceToNat, Int.cast_ofNat_Int]); (try (simp (disch := omega) only [W2, Int.cast_ofNat_Int]; (try simp only [S, TY, reduceCtorEq, Nat.reduceEqDiff, Nat.reduceAdd, Nat.reduceLeDiff, Nat.reduceBEq, Int.reduceBEq, Nat.reduceMul, Int.reduceEq, Int.reduceLT, Int.reduceLE, Int.reduceAdd, Int.reduceSub, Int.reduceMul, Int.reduceToNat, Int.cast_ofNat_Int]))))
    repeat' (((first
        | (((with_reducible show New _ _ _); refine New_ob h (fun wp H' h' => ?_); replace h' := newV h'; skip))
        | ((with_reducible show CallsH _ _ 98 _ _ _); first | (refine (vputF (by omega) (by omega) (by omega) (by simp only [Int.reduceToNat, Int.reducePow]; omega) (by omega) (by first | (simp [flat_length]; done) | (simp [flat_length]; omega) | omega)).at_ h [0] _ rfl (fun r B H' hr h' => ?_); subst hr; skip) | (refine (vputF (by omega) (by omega) (by omega) (by simp only [Int.reduceToNat, Int.reducePow]; omega) (by omega) (by first | (simp [flat_length]; done) | (simp [flat_length]; omega) | omega)).at_ h [1] _ rfl (fun r B H' hr h' => ?_); subst hr; skip) | (refine (vputF (by omega) (by omega) (by omega) (by simp only [Int.reduceToNat, Int.reducePow]; omega) (by omega) (by first | (simp [flat_length]; done) | (simp [flat_length]; omega) | omega)).at_ h [2] _ rfl (fun r B H' hr h' => ?_); subst hr; skip) | (refine (vputF (by omega) (by omega) (by omega) (by simp only [Int.reduceToNat, Int.reducePow]; omega) (by omega) (by first | (simp [flat_length]; done) | (simp [flat_length]; omega) | omega)).at_ h [3] _ rfl (fun r B H' hr h' => ?_); subst hr; skip) | (refine (vputF (by omega) (by omega) (by omega) (by simp only [Int.reduceToNat, Int.reducePow]; omega) (by omega) (by first | (simp [flat_length]; done) | (simp [flat_length]; omega) | omega)).at_ h [4] _ rfl (fun r B H' hr h' => ?_); subst hr; skip) | (refine (vputF (by omega) (by omega) (by omega) (by simp only [Int.reduceToNat, Int.reducePow]; omega) (by omega) (by first | (simp [flat_length]; done) | (simp [flat_length]; omega) | omega)).at_ h [5] _ rfl (fun r B H' hr h' => ?_); subst hr; skip) | (refine (vputF (by omega) (by omega) (by omega) (by simp only [Int.reduceToNat, Int.reducePow]; omega) (by omega) (by first | (simp [flat_length]; done) | (simp [flat_length]; omega) | omega)).at_ h [6] _ rfl (fun r B H' hr h' => ?_); subst hr; skip) | (refine (vputF (by omega) (by omega) (by omega) (by simp only [Int.reduceToNat, Int.reducePow]; omega) (by omega) (by first | (simp [flat_length]; done) | (simp [flat_length]; omega) | omega)).at_ h [7] _ rfl (fun r B H' hr h' => ?_); subst hr; skip))
        | ((with_reducible show New _ _ _); first | (refine New_sl h 1 rfl (fun b H' h' => ?_); skip) | (refine New_qsl h 1 rfl (fun b => rfl) (fun b H' h' => ?_); skip) | (refine New_ob h (fun b H' h' => ?_); skip) | (refine New_qob h (fun b H' h' => ?_); skip))
        | ((with_reducible show St _ _); first | (refine sg.st (h.front 0) rfl rfl (fun H' h' => ?_); skip) | (refine sg.st (h.front 1) rfl rfl (fun H' h' => ?_); skip) | (refine sg.st (h.front 2) rfl rfl (fun H' h' => ?_); skip) | (refine sg.st (h.front 3) rfl rfl (fun H' h' => ?_); skip) | (refine sg.st (h.front 4) rfl rfl (fun H' h' => ?_); skip) | (refine sg.st (h.front 5) rfl rfl (fun H' h' => ?_); skip) | (refine sg.st (h.front 6) rfl rfl (fun H' h' => ?_); skip) | (refine sg.st (h.front 7) rfl rfl (fun H' h' => ?_); skip))
        | ((with_reducible show Gate _ _ _); refine Gate.intro (fun g => ?_) (fun g => ?_) <;> (try subst g))
        ) <;> ((try ((try simp only [row, Rw.l, front_eq] at h'); (try simp only [front_eq, fronts_nil, fronts_cons, List.getElem?_cons_zero, List.getElem?_cons_succ, List.eraseIdx_cons_zero, List.eraseIdx_cons_succ, List.cons_append, List.nil_append, putL_cons, putL_nil, List.set_cons_zero, List.set_cons_succ, Nat.reduceAdd] at h'); clear h; have h := h'; clear h'; (try have fc := h.ci 0 rfl); (try have fl := h.li 0 rfl); (try have fc := h.ci 1 rfl); (try have fl := h.li 1 rfl); (try have fc := h.ci 2 rfl); (try have fl := h.li 2 rfl); (try have fc := h.ci 3 rfl); (try have fl := h.li 3 rfl); (try have fc := h.ci 4 rfl); (try have fl := h.li 4 rfl); (try have fc := h.ci 5 rfl); (try have fl := h.li 5 rfl); (try have fc := h.ci 6 rfl); (try have fl := h.li 6 rfl); (try have fc := h.ci 7 rfl); (try have fl := h.li 7 rfl))); ((try simp only [S, TY, reduceCtorEq, Nat.reduceEqDiff, Nat.reduceAdd, Nat.reduceLeDiff, Nat.reduceBEq, Int.reduceBEq, Nat.reduceMul, Int.reduceEq, Int.reduceLT, Int.reduceLE, Int.reduceAdd, Int.reduceSub, Int.reduceMul, Int.reduceToNat, Int.cast_ofNat_Int, *]); (try (simp (disch := omega) only [W2, Int.cast_ofNat_Int]; (try simp only [S, TY, reduceCtorEq, Nat.reduceEqDiff, Nat.reduceAdd, Nat.reduceLeDiff, Nat.reduceBEq, Int.reduceBEq, Nat.reduceMul, Int.reduceEq, Int.reduceLT, Int.reduceLE, Int.reduceAdd, Int.reduceSub, Int.reduceMul, Int.reduceToNat, Int.cast_ofNat_Int, *])))))))
    obtain ⟨sa, sn, sc, _, _, h⟩ := isV_open h
    have fc := h.ci 0 rfl
    ((try simp only [S, TY, reduceCtorEq, Nat.reduceEqDiff, Nat.reduceAdd, Nat.reduceLeDiff, Nat.reduceBEq, Int.reduceBEq, Nat.reduceMul, Int.reduceEq, Int.reduceLT, Int.reduceLE, Int.reduceAdd, Int.reduceSub, Int.reduceMul, Int.reduceToNat, Int.cast_ofNat_Int, fc]); (try (simp (disch := omega) only [W2, Int.cast_ofNat_Int]; (try simp only [S, TY, reduceCtorEq, Nat.reduceEqDiff, Nat.reduceAdd, Nat.reduceLeDiff, Nat.reduceBEq, Int.reduceBEq, Nat.reduceMul, Int.reduceEq, Int.reduceLT, Int.reduceLE, Int.reduceAdd, Int.reduceSub, Int.reduceMul, Int.reduceToNat, Int.cast_ofNat_Int, fc]))))
    refine yes _ [] _ ?_
    replace h := (h.front 1).take1
    simp only [Mg.enc, hlen, List.append_nil]
    simpa [Mg.hdr, flat, List.append_assoc] using h
  · rw [zr_iff] at hz
    obtain ⟨rfl, rfl, rfl, rfl, rfl, rfl, rfl, rfl, rfl⟩ := hz
    clear hrb hmac
    refine Con.intro Try.func25 rfl (Nat.le_of_ble_eq_true (by kernel_rfl)) (by kernel_rfl) Try.results25 ?_
    intro H h
    ((try simp only [S, TY, reduceCtorEq, Nat.reduceEqDiff, Nat.reduceAdd, Nat.reduceLeDiff, Nat.reduceBEq, Int.reduceBEq, Nat.reduceMul, Int.reduceEq, Int.reduceLT, Int.reduceLE, Int.reduceAdd, Int.reduceSub, Int.reduceMul, Int.reduceToNat, Int.cast_ofNat_Int]); (try (simp (disch := omega) only [W2, Int.cast_ofNat_Int]; (try simp only [S, TY, reduceCtorEq, Nat.reduceEqDiff, Nat.reduceAdd, Nat.reduceLeDiff, Nat.reduceBEq, Int.reduceBEq, Nat.reduceMul, Int.reduceEq, Int.reduceLT, Int.reduceLE, Int.reduceAdd, Int.reduceSub, Int.reduceMul, Int.reduceToNat, Int.cast_ofNat_Int]))))
    refine New_ob h (fun mb H' h' => ?_)
    clear h
    have h := h'
    clear h'
    have fc := h.ci 0 rfl
    have fl := h.li 0 rfl
    ((try simp only [S, TY, reduceCtorEq, Nat.reduceEqDiff, Nat.reduceAdd, Nat.reduceLeDiff, Nat.reduceBEq, Int.reduceBEq, Nat.reduceMul, Int.reduceEq, Int.reduceLT, Int.reduceLE, Int.reduceAdd, Int.reduceSub, Int.reduceMul, Int.reduceToNat, Int.cast_ofNat_Int, *]); (try (simp (disch := omega) only [W2, Int.cast_ofNat_Int]; (try simp only [S, TY, reduceCtorEq, Nat.reduceEqDiff, Nat.reduceAdd, Nat.reduceLeDiff, Nat.reduceBEq, Int.reduceBEq, Nat.reduceMul, Int.reduceEq, Int.reduceLT, Int.reduceLE, Int.reduceAdd, Int.reduceSub, Int.reduceMul, Int.reduceToNat, Int.cast_ofNat_Int, *]))))
    repeat' (((first
        | (((with_reducible show New _ _ _); refine New_ob h (fun wp H' h' => ?_); replace h' := newV h'; skip))
        | ((with_reducible show CallsH _ _ 98 _ _ _); first | (refine (vputF (by omega) (by omega) (by omega) (by simp only [Int.reduceToNat, Int.reducePow]; omega) (by omega) (by first | (simp [flat_length]; done) | (simp [flat_length]; omega) | omega)).at_ h [0] _ rfl (fun r B H' hr h' => ?_); subst hr; skip) | (refine (vputF (by omega) (by omega) (by omega) (by simp only [Int.reduceToNat, Int.reducePow]; omega) (by omega) (by first | (simp [flat_length]; done) | (simp [flat_length]; omega) | omega)).at_ h [1] _ rfl (fun r B H' hr h' => ?_); subst hr; skip) | (refine (vputF (by omega) (by omega) (by omega) (by simp only [Int.reduceToNat, Int.reducePow]; omega) (by omega) (by first | (simp [flat_length]; done) | (simp [flat_length]; omega) | omega)).at_ h [2] _ rfl (fun r B H' hr h' => ?_); subst hr; skip) | (refine (vputF (by omega) (by omega) (by omega) (by simp only [Int.reduceToNat, Int.reducePow]; omega) (by omega) (by first | (simp [flat_length]; done) | (simp [flat_length]; omega) | omega)).at_ h [3] _ rfl (fun r B H' hr h' => ?_); subst hr; skip) | (refine (vputF (by omega) (by omega) (by omega) (by simp only [Int.reduceToNat, Int.reducePow]; omega) (by omega) (by first | (simp [flat_length]; done) | (simp [flat_length]; omega) | omega)).at_ h [4] _ rfl (fun r B H' hr h' => ?_); subst hr; skip) | (refine (vputF (by omega) (by omega) (by omega) (by simp only [Int.reduceToNat, Int.reducePow]; omega) (by omega) (by first | (simp [flat_length]; done) | (simp [flat_length]; omega) | omega)).at_ h [5] _ rfl (fun r B H' hr h' => ?_); subst hr; skip) | (refine (vputF (by omega) (by omega) (by omega) (by simp only [Int.reduceToNat, Int.reducePow]; omega) (by omega) (by first | (simp [flat_length]; done) | (simp [flat_length]; omega) | omega)).at_ h [6] _ rfl (fun r B H' hr h' => ?_); subst hr; skip) | (refine (vputF (by omega) (by omega) (by omega) (by simp only [Int.reduceToNat, Int.reducePow]; omega) (by omega) (by first | (simp [flat_length]; done) | (simp [flat_length]; omega) | omega)).at_ h [7] _ rfl (fun r B H' hr h' => ?_); subst hr; skip))
        | ((with_reducible show New _ _ _); first | (refine New_sl h 1 rfl (fun b H' h' => ?_); skip) | (refine New_qsl h 1 rfl (fun b => rfl) (fun b H' h' => ?_); skip) | (refine New_ob h (fun b H' h' => ?_); skip) | (refine New_qob h (fun b H' h' => ?_); skip))
        | ((with_reducible show St _ _); first | (refine sg.st (h.front 0) rfl rfl (fun H' h' => ?_); skip) | (refine sg.st (h.front 1) rfl rfl (fun H' h' => ?_); skip) | (refine sg.st (h.front 2) rfl rfl (fun H' h' => ?_); skip) | (refine sg.st (h.front 3) rfl rfl (fun H' h' => ?_); skip) | (refine sg.st (h.front 4) rfl rfl (fun H' h' => ?_); skip) | (refine sg.st (h.front 5) rfl rfl (fun H' h' => ?_); skip) | (refine sg.st (h.front 6) rfl rfl (fun H' h' => ?_); skip) | (refine sg.st (h.front 7) rfl rfl (fun H' h' => ?_); skip))
        | ((with_reducible show Gate _ _ _); refine Gate.intro (fun g => ?_) (fun g => ?_) <;> (try subst g))
        ) <;> ((try ((try simp only [row, Rw.l, front_eq] at h'); (try simp only [front_eq, fronts_nil, fronts_cons, List.getElem?_cons_zero, List.getElem?_cons_succ, List.eraseIdx_cons_zero, List.eraseIdx_cons_succ, List.cons_append, List.nil_append, putL_cons, putL_nil, List.set_cons_zero, List.set_cons_succ, Nat.reduceAdd] at h'); clear h; have h := h'; clear h'; (try have fc := h.ci 0 rfl); (try have fl := h.li 0 rfl); (try have fc := h.ci 1 rfl); (try have fl := h.li 1 rfl); (try have fc := h.ci 2 rfl); (try have fl := h.li 2 rfl); (try have fc := h.ci 3 rfl); (try have fl := h.li 3 rfl); (try have fc := h.ci 4 rfl); (try have fl := h.li 4 rfl); (try have fc := h.ci 5 rfl); (try have fl := h.li 5 rfl); (try have fc := h.ci 6 rfl); (try have fl := h.li 6 rfl); (try have fc := h.ci 7 rfl); (try have fl := h.li 7 rfl))); ((try simp only [S, TY, reduceCtorEq, Nat.reduceEqDiff, Nat.reduceAdd, Nat.reduceLeDiff, Nat.reduceBEq, Int.reduceBEq, Nat.reduceMul, Int.reduceEq, Int.reduceLT, Int.reduceLE, Int.reduceAdd, Int.reduceSub, Int.reduceMul, Int.reduceToNat, Int.cast_ofNat_Int, *]); (try (simp (disch := omega) only [W2, Int.cast_ofNat_Int]; (try simp only [S, TY, reduceCtorEq, Nat.reduceEqDiff, Nat.reduceAdd, Nat.reduceLeDiff, Nat.reduceBEq, Int.reduceBEq, Nat.reduceMul, Int.reduceEq, Int.reduceLT, Int.reduceLE, Int.reduceAdd, Int.reduceSub, Int.reduceMul, Int.reduceToNat, Int.cast_ofNat_Int, *])))))))
    obtain ⟨hd, hhd⟩ : ∃ hd, Mg.hdr ⟨2, ⟨0, 0, 0, 0, 0, 0, 0, 0, 0⟩, port, ver, recs⟩ = hd := ⟨_, rfl⟩
    have hhl : hd.length ≤ 100 := by rw [← hhd]; simp [Mg.hdr, flat_length]
    replace h : sg G [isV wp ⟨Mg.hdr ⟨2, ⟨0, 0, 0, 0, 0, 0, 0, 0, 0⟩, port, ver, recs⟩, false⟩, ob mb (.cells (mgl 2 ⟨0, 0, 0, 0, 0, 0, 0, 0, 0⟩ port ver (.slice a recs.length c)).toArray 28 (0, 0))] _ := h
    rw [hhd] at h
    have henc : Mg.enc ⟨2, ⟨0, 0, 0, 0, 0, 0, 0, 0, 0⟩, port, ver, recs⟩ = hd ++ rencs recs := by unfold Mg.enc; rw [hhd]
    rw [henc] at yes
    clear henc hhd hm
    refine cl_loop (fun i e H => i ≤ recs.length ∧ e 1 = .pointer (some ⟨mb, 0, none⟩) ∧ e 3 = .pointer (some ⟨wp, 0, none⟩) ∧ e 5 = .int .i64 i ∧
      sg G [isV wp ⟨hd ++ rencs (recs.take i), false⟩, ob mb (.cells (mgl 2 ⟨0, 0, 0, 0, 0, 0, 0, 0, 0⟩ port ver (.slice a recs.length c)).toArray 28 (0, 0))] H) (fun i => recs.length - i) 0
      ⟨by omega, rfl, rfl, rfl, by rw [List.take_zero]; simpa [rencs] using h⟩ ?_
    clear h
    rintro i e H ⟨q1, q2, q3, q4, h⟩
    have fc := h.ci 1 rfl
    have fl := h.li 1 rfl
    by_cases g1 : (i : Int) < recs.length
    · obtain ⟨b', off, hl, rfl, hc, hld⟩ := hv.el Rc.len (i := i) (by omega) (by omega)
      have g0 : (0 : Int) ≤ i ∧ (i : Int) < recs.length := ⟨by omega, g1⟩
      have el := h.rold hld
      clear hc
      have htake : rencs (recs.take (i + 1)) = rencs (recs.take i) ++ recs[i].enc := by unfold rencs; rw [List.take_succ_eq_append_getElem hl, List.flatMap_append]; simp only [List.flatMap_cons, List.flatMap_nil, List.append_nil]
      have hrl := renc_len (recs.take i)
      rw [List.length_take] at hrl
      have hxo := hall _ (List.getElem_mem hl)
      have hxr := hrec _ (List.getElem_mem hl)
      generalize recs[i] = x at *
      obtain ⟨p, s, d, a1, b1, u⟩ := x
      simp only [Rc.ok, fok, Bool.and_eq_true, decide_eq_true_eq] at hxo
      simp only at hxr
      have hal : (hd ++ rencs (recs.take i)).length ≤ 70000000000000 := by rw [List.length_append, hrl]; omega
      generalize hacc : hd ++ rencs (recs.take i) = acc at *
      ((try simp only [S, TY, reduceCtorEq, Nat.reduceEqDiff, Nat.reduceAdd, Nat.reduceLeDiff, Nat.reduceBEq, Int.reduceBEq, Nat.reduceMul, Int.reduceEq, Int.reduceLT, Int.reduceLE, Int.reduceAdd, Int.reduceSub, Int.reduceMul, Int.reduceToNat, Int.cast_ofNat_Int, q2, q3, q4, g1, g0, el, fc, fl]); (try (simp (disch := omega) only [W2, Int.cast_ofNat_Int]; (try simp only [S, TY, reduceCtorEq, Nat.reduceEqDiff, Nat.reduceAdd, Nat.reduceLeDiff, Nat.reduceBEq, Int.reduceBEq, Nat.reduceMul, Int.reduceEq, Int.reduceLT, Int.reduceLE, Int.reduceAdd, Int.reduceSub, Int.reduceMul, Int.reduceToNat, Int.cast_ofNat_Int, q2, q3, q4, g1, g0, el, fc, fl]))))
      repeat' (((first
          | ((with_reducible show CallsH _ _ 98 _ _ _); first | (refine (vputF (by omega) (by omega) (by omega) (by simp only [Int.reduceToNat, Int.reducePow]; omega) (by omega) (by first | (simp [flat_length]; done) | (simp [flat_length]; omega) | omega)).at_ h [0] _ rfl (fun r B H' hr h' => ?_); subst hr; skip) | (refine (vputF (by omega) (by omega) (by omega) (by simp only [Int.reduceToNat, Int.reducePow]; omega) (by omega) (by first | (simp [flat_length]; done) | (simp [flat_length]; omega) | omega)).at_ h [1] _ rfl (fun r B H' hr h' => ?_); subst hr; skip) | (refine (vputF (by omega) (by omega) (by omega) (by simp only [Int.reduceToNat, Int.reducePow]; omega) (by omega) (by first | (simp [flat_length]; done) | (simp [flat_length]; omega) | omega)).at_ h [2] _ rfl (fun r B H' hr h' => ?_); subst hr; skip) | (refine (vputF (by omega) (by omega) (by omega) (by simp only [Int.reduceToNat, Int.reducePow]; omega) (by omega) (by first | (simp [flat_length]; done) | (simp [flat_length]; omega) | omega)).at_ h [3] _ rfl (fun r B H' hr h' => ?_); subst hr; skip) | (refine (vputF (by omega) (by omega) (by omega) (by simp only [Int.reduceToNat, Int.reducePow]; omega) (by omega) (by first | (simp [flat_length]; done) | (simp [flat_length]; omega) | omega)).at_ h [4] _ rfl (fun r B H' hr h' => ?_); subst hr; skip) | (refine (vputF (by omega) (by omega) (by omega) (by simp only [Int.reduceToNat, Int.reducePow]; omega) (by omega) (by first | (simp [flat_length]; done) | (simp [flat_length]; omega) | omega)).at_ h [5] _ rfl (fun r B H' hr h' => ?_); subst hr; skip) | (refine (vputF (by omega) (by omega) (by omega) (by simp only [Int.reduceToNat, Int.reducePow]; omega) (by omega) (by first | (simp [flat_length]; done) | (simp [flat_length]; omega) | omega)).at_ h [6] _ rfl (fun r B H' hr h' => ?_); subst hr; skip) | (refine (vputF (by omega) (by omega) (by omega) (by simp only [Int.reduceToNat, Int.reducePow]; omega) (by omega) (by first | (simp [flat_length]; done) | (simp [flat_length]; omega) | omega)).at_ h [7] _ rfl (fun r B H' hr h' => ?_); subst hr; skip))
          | ((with_reducible show New _ _ _); first | (refine New_sl h 1 rfl (fun b H' h' => ?_); skip) | (refine New_qsl h 1 rfl (fun b => rfl) (fun b H' h' => ?_); skip) | (refine New_ob h (fun b H' h' => ?_); skip) | (refine New_qob h (fun b H' h' => ?_); skip))
          | ((with_reducible show St _ _); first | (refine sg.st (h.front 0) rfl rfl (fun H' h' => ?_); skip) | (refine sg.st (h.front 1) rfl rfl (fun H' h' => ?_); skip) | (refine sg.st (h.front 2) rfl rfl (fun H' h' => ?_); skip) | (refine sg.st (h.front 3) rfl rfl (fun H' h' => ?_); skip) | (refine sg.st (h.front 4) rfl rfl (fun H' h' => ?_); skip) | (refine sg.st (h.front 5) rfl rfl (fun H' h' => ?_); skip) | (refine sg.st (h.front 6) rfl rfl (fun H' h' => ?_); skip) | (refine sg.st (h.front 7) rfl rfl (fun H' h' => ?_); skip))
          | ((with_reducible show Gate _ _ _); refine Gate.intro (fun g => ?_) (fun g => ?_) <;> (try subst g))
          ) <;> ((try ((try simp only [row, Rw.l, front_eq] at h'); (try simp only [front_eq, fronts_nil, fronts_cons, List.getElem?_cons_zero, List.getElem?_cons_succ, List.eraseIdx_cons_zero, List.eraseIdx_cons_succ, List.cons_append, List.nil_append, putL_cons, putL_nil, List.set_cons_zero, List.set_cons_succ, Nat.reduceAdd] at h'); clear h; have h := h'; clear h'; (try have fc := h.ci 0 rfl); (try have fl := h.li 0 rfl); (try have fc := h.ci 1 rfl); (try have fl := h.li 1 rfl); (try have fc := h.ci 2 rfl); (try have fl := h.li 2 rfl); (try have fc := h.ci 3 rfl); (try have fl := h.li 3 rfl); (try have fc := h.ci 4 rfl); (try have fl := h.li 4 rfl); (try have fc := h.ci 5 rfl); (try have fl := h.li 5 rfl); (try have fc := h.ci 6 rfl); (try have fl := h.li 6 rfl); (try have fc := h.ci 7 rfl); (try have fl := h.li 7 rfl))); ((try simp only [S, TY, reduceCtorEq, Nat.reduceEqDiff, Nat.reduceAdd, Nat.reduceLeDiff, Nat.reduceBEq, Int.reduceBEq, Nat.reduceMul, Int.reduceEq, Int.reduceLT, Int.reduceLE, Int.reduceAdd, Int.reduceSub, Int.reduceMul, Int.reduceToNat, Int.cast_ofNat_Int, *]); (try (simp (disch := omega) only [W2, Int.cast_ofNat_Int]; (try simp only [S, TY, reduceCtorEq, Nat.reduceEqDiff, Nat.reduceAdd, Nat.reduceLeDiff, Nat.reduceBEq, Int.reduceBEq, Nat.reduceMul, Int.reduceEq, Int.reduceLT, Int.reduceLE, Int.reduceAdd, Int.reduceSub, Int.reduceMul, Int.reduceToNat, Int.cast_ofNat_Int, *])))))))
      refine .go (i + 1) (by omega) ⟨by omega, q2, q3, rfl, ?_⟩
      have h2 := (h.fronts [0, 1]).pair
      rw [htake, ← List.append_assoc, hacc]
      simpa [Rc.enc, flat, List.append_assoc] using h2
    · have ht : recs.take i = recs := List.take_of_length_le (by omega)
      rw [ht] at h
      ((try simp only [S, TY, reduceCtorEq, Nat.reduceEqDiff, Nat.reduceAdd, Nat.reduceLeDiff, Nat.reduceBEq, Int.reduceBEq, Nat.reduceMul, Int.reduceEq, Int.reduceLT, Int.reduceLE, Int.reduceAdd, Int.reduceSub, Int.reduceMul, Int.reduceToNat, Int.cast_ofNat_Int, q2, q3, q4, g1, fc, fl]); (try (simp (disch := omega) only [W2, Int.cast_ofNat_Int]; (try simp only [S, TY, reduceCtorEq, Nat.reduceEqDiff, Nat.reduceAdd, Nat.reduceLeDiff, Nat.reduceBEq, Int.reduceBEq, Nat.reduceMul, Int.reduceEq, Int.reduceLT, Int.reduceLE, Int.reduceAdd, Int.reduceSub, Int.reduceMul, Int.reduceToNat, Int.cast_ofNat_Int, q2, q3, q4, g1, fc, fl]))))
      obtain ⟨sa, sn, sc, _, _, h⟩ := isV_open h
      have fc := h.ci 0 rfl
      ((try simp only [S, TY, reduceCtorEq, Nat.reduceEqDiff, Nat.reduceAdd, Nat.reduceLeDiff, Nat.reduceBEq, Int.reduceBEq, Nat.reduceMul, Int.reduceEq, Int.reduceLT, Int.reduceLE, Int.reduceAdd, Int.reduceSub, Int.reduceMul, Int.reduceToNat, Int.cast_ofNat_Int, q2, q3, q4, g1, fc]); (try (simp (disch := omega) only [W2, Int.cast_ofNat_Int]; (try simp only [S, TY, reduceCtorEq, Nat.reduceEqDiff, Nat.reduceAdd, Nat.reduceLeDiff, Nat.reduceBEq, Int.reduceBEq, Nat.reduceMul, Int.reduceEq, Int.reduceLT, Int.reduceLE, Int.reduceAdd, Int.reduceSub, Int.reduceMul, Int.reduceToNat, Int.cast_ofNat_Int, q2, q3, q4, g1, fc]))))
      exact yes _ _ _ (h.front 1)
  · rw [zr_iff] at hz
    obtain ⟨rfl, rfl, rfl, rfl, rfl, rfl, rfl, rfl, rfl⟩ := hz
    clear hrb hmac
    refine Con.intro Try.func25 rfl (Nat.le_of_ble_eq_true (by kernel_rfl)) (by kernel_rfl) Try.results25 ?_
    intro H h
    ((try simp only [S, TY, reduceCtorEq, Nat.reduceEqDiff, Nat.reduceAdd, Nat.reduceLeDiff, Nat.reduceBEq, Int.reduceBEq, Nat.reduceMul, Int.reduceEq, Int.reduceLT, Int.reduceLE, Int.reduceAdd, Int.reduceSub, Int.reduceMul, Int.reduceToNat, Int.cast_ofNat_Int]); (try (simp (disch := omega) only [W2, Int.cast_ofNat_Int]; (try simp only [S, TY, reduceCtorEq, Nat.reduceEqDiff, Nat.reduceAdd, Nat.reduceLeDiff, Nat.reduceBEq, Int.reduceBEq, Nat.reduceMul, Int.reduceEq, Int.reduceLT, Int.reduceLE, Int.reduceAdd, Int.reduceSub, Int.reduceMul, Int.reduceToNat, Int.cast_ofNat_Int]))))
    refine New_ob h (fun mb H' h' => ?_)
    clear h
    have h := h'
    clear h'
    have fc := h.ci 0 rfl
    have fl := h.li 0 rfl
    ((try simp only [S, TY, reduceCtorEq, Nat.reduceEqDiff, Nat.reduceAdd, Nat.reduceLeDiff, Nat.reduceBEq, Int.reduceBEq, Nat.reduceMul, Int.reduceEq, Int.reduceLT, Int.reduceLE, Int.reduceAdd, Int.reduceSub, Int.reduceMul, Int.reduceToNat, Int.cast_ofNat_Int, *]); (try (simp (disch := omega) only [W2, Int.cast_ofNat_Int]; (try simp only [S, TY, reduceCtorEq, Nat.reduceEqDiff, Nat.reduceAdd, Nat.reduceLeDiff, Nat.reduceBEq, Int.reduceBEq, Nat.reduceMul, Int.reduceEq, Int.reduceLT, Int.reduceLE, Int.reduceAdd, Int.reduceSub, Int.reduceMul, Int.reduceToNat, Int.cast_ofNat_Int, *]))))
    repeat' (((first
        | (((with_reducible show New _ _ _); refine New_ob h (fun wp H' h' => ?_); replace h' := newV h'; skip))
        | ((with_reducible show CallsH _ _ 98 _ _ _); first | (refine (vputF (by omega) (by omega) (by omega) (by simp only [Int.reduceToNat, Int.reducePow]; omega) (by omega) (by first | (simp [flat_length]; done) | (simp [flat_length]; omega) | omega)).at_ h [0] _ rfl (fun r B H' hr h' => ?_); subst hr; skip) | (refine (vputF (by omega) (by omega) (by omega) (by simp only [Int.reduceToNat, Int.reducePow]; omega) (by omega) (by first | (simp [flat_length]; done) | (simp [flat_length]; omega) | omega)).at_ h [1] _ rfl (fun r B H' hr h' => ?_); subst hr; skip) | (refine (vputF (by omega) (by omega) (by omega) (by simp only [Int.reduceToNat, Int.reducePow]; omega) (by omega) (by first | (simp [flat_length]; done) | (simp [flat_length]; omega) | omega)).at_ h [2] _ rfl (fun r B H' hr h' => ?_); subst hr; skip) | (refine (vputF (by omega) (by omega) (by omega) (by simp only [Int.reduceToNat, Int.reducePow]; omega) (by omega) (by first | (simp [flat_length]; done) | (simp [flat_length]; omega) | omega)).at_ h [3] _ rfl (fun r B H' hr h' => ?_); subst hr; skip) | (refine (vputF (by omega) (by omega) (by omega) (by simp only [Int.reduceToNat, Int.reducePow]; omega) (by omega) (by first | (simp [flat_length]; done) | (simp [flat_length]; omega) | omega)).at_ h [4] _ rfl (fun r B H' hr h' => ?_); subst hr; skip) | (refine (vputF (by omega) (by omega) (by omega) (by simp only [Int.reduceToNat, Int.reducePow]; omega) (by omega) (by first | (simp [flat_length]; done) | (simp [flat_length]; omega) | omega)).at_ h [5] _ rfl (fun r B H' hr h' => ?_); subst hr; skip) | (refine (vputF (by omega) (by omega) (by omega) (by simp only [Int.reduceToNat, Int.reducePow]; omega) (by omega) (by first | (simp [flat_length]; done) | (simp [flat_length]; omega) | omega)).at_ h [6] _ rfl (fun r B H' hr h' => ?_); subst hr; skip) | (refine (vputF (by omega) (by omega) (by omega) (by simp only [Int.reduceToNat, Int.reducePow]; omega) (by omega) (by first | (simp [flat_length]; done) | (simp [flat_length]; omega) | omega)).at_ h [7] _ rfl (fun r B H' hr h' => ?_); subst hr; skip))
        | ((with_reducible show New _ _ _); first | (refine New_sl h 1 rfl (fun b H' h' => ?_); skip) | (refine New_qsl h 1 rfl (fun b => rfl) (fun b H' h' => ?_); skip) | (refine New_ob h (fun b H' h' => ?_); skip) | (refine New_qob h (fun b H' h' => ?_); skip))
        | ((with_reducible show St _ _); first | (refine sg.st (h.front 0) rfl rfl (fun H' h' => ?_); skip) | (refine sg.st (h.front 1) rfl rfl (fun H' h' => ?_); skip) | (refine sg.st (h.front 2) rfl rfl (fun H' h' => ?_); skip) | (refine sg.st (h.front 3) rfl rfl (fun H' h' => ?_); skip) | (refine sg.st (h.front 4) rfl rfl (fun H' h' => ?_); skip) | (refine sg.st (h.front 5) rfl rfl (fun H' h' => ?_); skip) | (refine sg.st (h.front 6) rfl rfl (fun H' h' => ?_); skip) | (refine sg.st (h.front 7) rfl rfl (fun H' h' => ?_); skip))
        | ((with_reducible show Gate _ _ _); refine Gate.intro (fun g => ?_) (fun g => ?_) <;> (try subst g))
        ) <;> ((try ((try simp only [row, Rw.l, front_eq] at h'); (try simp only [front_eq, fronts_nil, fronts_cons, List.getElem?_cons_zero, List.getElem?_cons_succ, List.eraseIdx_cons_zero, List.eraseIdx_cons_succ, List.cons_append, List.nil_append, putL_cons, putL_nil, List.set_cons_zero, List.set_cons_succ, Nat.reduceAdd] at h'); clear h; have h := h'; clear h'; (try have fc := h.ci 0 rfl); (try have fl := h.li 0 rfl); (try have fc := h.ci 1 rfl); (try have fl := h.li 1 rfl); (try have fc := h.ci 2 rfl); (try have fl := h.li 2 rfl); (try have fc := h.ci 3 rfl); (try have fl := h.li 3 rfl); (try have fc := h.ci 4 rfl); (try have fl := h.li 4 rfl); (try have fc := h.ci 5 rfl); (try have fl := h.li 5 rfl); (try have fc := h.ci 6 rfl); (try have fl := h.li 6 rfl); (try have fc := h.ci 7 rfl); (try have fl := h.li 7 rfl))); ((try simp only [S, TY, reduceCtorEq, Nat.reduceEqDiff, Nat.reduceAdd, Nat.reduceLeDiff, Nat.reduceBEq, Int.reduceBEq, Nat.reduceMul, Int.reduceEq, Int.reduceLT, Int.reduceLE, Int.reduceAdd, Int.reduceSub, Int.reduceMul, Int.reduceToNat, Int.cast_ofNat_Int, *]); (try (simp (disch := omega) only [W2, Int.cast_ofNat_Int]; (try simp only [S, TY, reduceCtorEq, Nat.reduceEqDiff, Nat.reduceAdd, Nat.reduceLeDiff, Nat.reduceBEq, Int.reduceBEq, Nat.reduceMul, Int.reduceEq, Int.reduceLT, Int.reduceLE, Int.reduceAdd, Int.reduceSub, Int.reduceMul, Int.reduceToNat, Int.cast_ofNat_Int, *])))))))
    obtain ⟨hd, hhd⟩ : ∃ hd, Mg.hdr ⟨3, ⟨0, 0, 0, 0, 0, 0, 0, 0, 0⟩, port, ver, recs⟩ = hd := ⟨_, rfl⟩
    have hhl : hd.length ≤ 100 := by rw [← hhd]; simp [Mg.hdr, flat_length]
    replace h : sg G [isV wp ⟨Mg.hdr ⟨3, ⟨0, 0, 0, 0, 0, 0, 0, 0, 0⟩, port, ver, recs⟩, false⟩, ob mb (.cells (mgl 3 ⟨0, 0, 0, 0, 0, 0, 0, 0, 0⟩ port ver (.slice a recs.length c)).toArray 28 (0, 0))] _ := h
    rw [hhd] at h
    have henc : Mg.enc ⟨3, ⟨0, 0, 0, 0, 0, 0, 0, 0, 0⟩, port, ver, recs⟩ = hd ++ rencs recs := by unfold Mg.enc; rw [hhd]
    rw [henc] at yes
    clear henc hhd hm
    refine cl_loop (fun i e H => i ≤ recs.length ∧ e 1 = .pointer (some ⟨mb, 0, none⟩) ∧ e 3 = .pointer (some ⟨wp, 0, none⟩) ∧ e 5 = .int .i64 i ∧
      sg G [isV wp ⟨hd ++ rencs (recs.take i), false⟩, ob mb (.cells (mgl 3 ⟨0, 0, 0, 0, 0, 0, 0, 0, 0⟩ port ver (.slice a recs.length c)).toArray 28 (0, 0))] H) (fun i => recs.length - i) 0
      ⟨by omega, rfl, rfl, rfl, by rw [List.take_zero]; simpa [rencs] using h⟩ ?_
    clear h
    rintro i e H ⟨q1, q2, q3, q4, h⟩
    have fc := h.ci 1 rfl
    have fl := h.li 1 rfl
    by_cases g1 : (i : Int) < recs.length
    · obtain ⟨b', off, hl, rfl, hc, hld⟩ := hv.el Rc.len (i := i) (by omega) (by omega)
      have g0 : (0 : Int) ≤ i ∧ (i : Int) < recs.length := ⟨by omega, g1⟩
      have el := h.rold hld
      clear hc
      have htake : rencs (recs.take (i + 1)) = rencs (recs.take i) ++ recs[i].enc := by unfold rencs; rw [List.take_succ_eq_append_getElem hl, List.flatMap_append]; simp only [List.flatMap_cons, List.flatMap_nil, List.append_nil]
      have hrl := renc_len (recs.take i)
      rw [List.length_take] at hrl
      have hxo := hall _ (List.getElem_mem hl)
      have hxr := hrec _ (List.getElem_mem hl)
      generalize recs[i] = x at *
      obtain ⟨p, s, d, a1, b1, u⟩ := x
      simp only [Rc.ok, fok, Bool.and_eq_true, decide_eq_true_eq] at hxo
      simp only at hxr
      have hal : (hd ++ rencs (recs.take i)).length ≤ 70000000000000 := by rw [List.length_append, hrl]; omega
      generalize hacc : hd ++ rencs (recs.take i) = acc at *
      ((try simp only [S, TY, reduceCtorEq, Nat.reduceEqDiff, Nat.reduceAdd, Nat.reduceLeDiff, Nat.reduceBEq, Int.reduceBEq, Nat.reduceMul, Int.reduceEq, Int.reduceLT, Int.reduceLE, Int.reduceAdd, Int.reduceSub, Int.reduceMul, Int.reduceToNat, Int.cast_ofNat_Int, q2, q3, q4, g1, g0, el, fc, fl]); (try (simp (disch := omega) only [W2, Int.cast_ofNat_Int]; (try simp only [S, TY, reduceCtorEq, Nat.reduceEqDiff, Nat.reduceAdd, Nat.reduceLeDiff, Nat.reduceBEq, Int.reduceBEq, Nat.reduceMul, Int.reduceEq, Int.reduceLT, Int.reduceLE, Int.reduceAdd, Int.reduceSub, Int.reduceMul, Int.reduceToNat, Int.cast_ofNat_Int, q2, q3, q4, g1, g0, el, fc, fl]))))
      repeat' (((first
          | ((with_reducible show CallsH _ _ 98 _ _ _); first | (refine (vputF (by omega) (by omega) (by omega) (by simp only [Int.reduceToNat, Int.reducePow]; omega) (by omega) (by first | (simp [flat_length]; done) | (simp [flat_length]; omega) | omega)).at_ h [0] _ rfl (fun r B H' hr h' => ?_); subst hr; skip) | (refine (vputF (by omega) (by omega) (by omega) (by simp only [Int.reduceToNat, Int.reducePow]; omega) (by omega) (by first | (simp [flat_length]; done) | (simp [flat_length]; omega) | omega)).at_ h [1] _ rfl (fun r B H' hr h' => ?_); subst hr; skip) | (refine (vputF (by omega) (by omega) (by omega) (by simp only [Int.reduceToNat, Int.reducePow]; omega) (by omega) (by first | (simp [flat_length]; done) | (simp [flat_length]; omega) | omega)).at_ h [2] _ rfl (fun r B H' hr h' => ?_); subst hr; skip) | (refine (vputF (by omega) (by omega) (by omega) (by simp only [Int.reduceToNat, Int.reducePow]; omega) (by omega) (by first | (simp [flat_length]; done) | (simp [flat_length]; omega) | omega)).at_ h [3] _ rfl (fun r B H' hr h' => ?_); subst hr; skip) | (refine (vputF (by omega) (by omega) (by omega) (by simp only [Int.reduceToNat, Int.reducePow]; omega) (by omega) (by first | (simp [flat_length]; done) | (simp [flat_length]; omega) | omega)).at_ h [4] _ rfl (fun r B H' hr h' => ?_); subst hr; skip) | (refine (vputF (by omega) (by omega) (by omega) (by simp only [Int.reduceToNat, Int.reducePow]; omega) (by omega) (by first | (simp [flat_length]; done) | (simp [flat_length]; omega) | omega)).at_ h [5] _ rfl (fun r B H' hr h' => ?_); subst hr; skip) | (refine (vputF (by omega) (by omega) (by omega) (by simp only [Int.reduceToNat, Int.reducePow]; omega) (by omega) (by first | (simp [flat_length]; done) | (simp [flat_length]; omega) | omega)).at_ h [6] _ rfl (fun r B H' hr h' => ?_); subst hr; skip) | (refine (vputF (by omega) (by omega) (by omega) (by simp only [Int.reduceToNat, Int.reducePow]; omega) (by omega) (by first | (simp [flat_length]; done) | (simp [flat_length]; omega) | omega)).at_ h [7] _ rfl (fun r B H' hr h' => ?_); subst hr; skip))
          | ((with_reducible show New _ _ _); first | (refine New_sl h 1 rfl (fun b H' h' => ?_); skip) | (refine New_qsl h 1 rfl (fun b => rfl) (fun b H' h' => ?_); skip) | (refine New_ob h (fun b H' h' => ?_); skip) | (refine New_qob h (fun b H' h' => ?_); skip))
          | ((with_reducible show St _ _); first | (refine sg.st (h.front 0) rfl rfl (fun H' h' => ?_); skip) | (refine sg.st (h.front 1) rfl rfl (fun H' h' => ?_); skip) | (refine sg.st (h.front 2) rfl rfl (fun H' h' => ?_); skip) | (refine sg.st (h.front 3) rfl rfl (fun H' h' => ?_); skip) | (refine sg.st (h.front 4) rfl rfl (fun H' h' => ?_); skip) | (refine sg.st (h.front 5) rfl rfl (fun H' h' => ?_); skip) | (refine sg.st (h.front 6) rfl rfl (fun H' h' => ?_); skip) | (refine sg.st (h.front 7) rfl rfl (fun H' h' => ?_); skip))
          | ((with_reducible show Gate _ _ _); refine Gate.intro (fun g => ?_) (fun g => ?_) <;> (try subst g))
          ) <;> ((try ((try simp only [row, Rw.l, front_eq] at h'); (try simp only [front_eq, fronts_nil, fronts_cons, List.getElem?_cons_zero, List.getElem?_cons_succ, List.eraseIdx_cons_zero, List.eraseIdx_cons_succ, List.cons_append, List.nil_append, putL_cons, putL_nil, List.set_cons_zero, List.set_cons_succ, Nat.reduceAdd] at h'); clear h; have h := h'; clear h'; (try have fc := h.ci 0 rfl); (try have fl := h.li 0 rfl); (try have fc := h.ci 1 rfl); (try have fl := h.li 1 rfl); (try have fc := h.ci 2 rfl); (try have fl := h.li 2 rfl); (try have fc := h.ci 3 rfl); (try have fl := h.li 3 rfl); (try have fc := h.ci 4 rfl); (try have fl := h.li 4 rfl); (try have fc := h.ci 5 rfl); (try have fl := h.li 5 rfl); (try have fc := h.ci 6 rfl); (try have fl := h.li 6 rfl); (try have fc := h.ci 7 rfl); (try have fl := h.li 7 rfl))); ((try simp only [S, TY, reduceCtorEq, Nat.reduceEqDiff, Nat.reduceAdd, Nat.reduceLeDiff, Nat.reduceBEq, Int.reduceBEq, Nat.reduceMul, Int.reduceEq, Int.reduceLT, Int.reduceLE, Int.reduceAdd, Int.reduceSub, Int.reduceMul, Int.reduceToNat, Int.cast_ofNat_Int, *]); (try (simp (disch := omega) only [W2, Int.cast_ofNat_Int]; (try simp only [S, TY, reduceCtorEq, Nat.reduceEqDiff, Nat.reduceAdd, Nat.reduceLeDiff, Nat.reduceBEq, Int.reduceBEq, Nat.reduceMul, Int.reduceEq, Int.reduceLT, Int.reduceLE, Int.reduceAdd, Int.reduceSub, Int.reduceMul, Int.reduceToNat, Int.cast_ofNat_Int, *])))))))
      refine .go (i + 1) (by omega) ⟨by omega, q2, q3, rfl, ?_⟩
      have h2 := (h.fronts [0, 1]).pair
      rw [htake, ← List.append_assoc, hacc]
      simpa [Rc.enc, flat, List.append_assoc] using h2
    · have ht : recs.take i = recs := List.take_of_length_le (by omega)
      rw [ht] at h
      ((try simp only [S, TY, reduceCtorEq, Nat.reduceEqDiff, Nat.reduceAdd, Nat.reduceLeDiff, Nat.reduceBEq, Int.reduceBEq, Nat.reduceMul, Int.reduceEq, Int.reduceLT, Int.reduceLE, Int.reduceAdd, Int.reduceSub, Int.reduceMul, Int.reduceToNat, Int.cast_ofNat_Int, q2, q3, q4, g1, fc, fl]); (try (simp (disch := omega) only [W2, Int.cast_ofNat_Int]; (try simp only [S, TY, reduceCtorEq, Nat.reduceEqDiff, Nat.reduceAdd, Nat.reduceLeDiff, Nat.reduceBEq, Int.reduceBEq, Nat.reduceMul, Int.reduceEq, Int.reduceLT, Int.reduceLE, Int.reduceAdd, Int.reduceSub, Int.reduceMul, Int.reduceToNat, Int.cast_ofNat_Int, q2, q3, q4, g1, fc, fl]))))
      obtain ⟨sa, sn, sc, _, _, h⟩ := isV_open h
      have fc := h.ci 0 rfl
      ((try simp only [S, TY, reduceCtorEq, Nat.reduceEqDiff, Nat.reduceAdd, Nat.reduceLeDiff, Nat.reduceBEq, Int.reduceBEq, Nat.reduceMul, Int.reduceEq, Int.reduceLT, Int.reduceLE, Int.reduceAdd, Int.reduceSub, Int.reduceMul, Int.reduceToNat, Int.cast_ofNat_Int, q2, q3, q4, g1, fc]); (try (simp (disch := omega) only [W2, Int.cast_ofNat_Int]; (try simp only [S, TY, reduceCtorEq, Nat.reduceEqDiff, Nat.reduceAdd, Nat.reduceLeDiff, Nat.reduceBEq, Int.reduceBEq, Nat.reduceMul, Int.reduceEq, Int.reduceLT, Int.reduceLE, Int.reduceAdd, Int.reduceSub, Int.reduceMul, Int.reduceToNat, Int.cast_ofNat_Int, q2, q3, q4, g1, fc]))))
      exact yes _ _ _ (h.front 1)
end Go.Proofs.Ytfjmejideoklpaa.CtF
