/- The law's own functions on messages; the law on what bytes are. -/
import Derived.Test.YtfjmejideoklpaaCtG
import Derived.Test.YtfjmejideoklpaaCtP
set_option linter.unusedVariables false
set_option linter.unusedSimpArgs false
set_option maxRecDepth 10000
set_option maxHeartbeats 4000000
namespace Go.Proofs.Ytfjmejideoklpaa.CtL
open Go Go.Sl Go.Proofs Go.Proofs.Ytfjmejideoklpaa.Buf Go.Proofs.Ytfjmejideoklpaa.BufRd Go.Proofs.Ytfjmejideoklpaa.BufRe Go.Proofs.Ytfjmejideoklpaa.BufP Go.Proofs.Ytfjmejideoklpaa.Wr Go.Proofs.Ytfjmejideoklpaa.Ph Go.Proofs.Ytfjmejideoklpaa.PhA Go.Proofs.Ytfjmejideoklpaa.Ct Go.Proofs.Ytfjmejideoklpaa.CtE Go.Proofs.Ytfjmejideoklpaa.CtF Go.Proofs.Ytfjmejideoklpaa.CtD Go.Proofs.Ytfjmejideoklpaa.CtG Go.Proofs.Ytfjmejideoklpaa.CtP
theorem TY : aggN Try.prog 3 = some none ∧
  aggN Try.prog 5 = some none ∧
  aggN Try.prog 9 = some none ∧
  aggN Try.prog 25 = some (some 9) ∧
  aggN Try.prog 26 = some none ∧
  aggN Try.prog 28 = some (some 13) ∧
  aggN Try.prog 33 = some none ∧
  aggN Try.prog 34 = some none ∧
  aggN Try.prog 147 = some (some 5) ∧
  aggN Try.prog 149 = some (some 6) ∧
  apI Try.prog 26 = some (149, 6, 40) ∧
  apI Try.prog 33 = some (5, 1, 1) ∧
  bIs Try.prog 25 = true ∧
  bIs Try.prog 28 = true ∧
  bIs Try.prog 147 = true ∧
  bIs Try.prog 149 = true ∧
  bySl Try.prog 33 = true ∧
  csz Try.prog 3 = some 1 ∧
  csz Try.prog 5 = some 1 ∧
  csz Try.prog 9 = some 1 ∧
  csz Try.prog 25 = some 9 ∧
  csz Try.prog 26 = some 1 ∧
  csz Try.prog 28 = some 13 ∧
  csz Try.prog 33 = some 1 ∧
  csz Try.prog 34 = some 1 ∧
  csz Try.prog 147 = some 5 ∧
  csz Try.prog 149 = some 6 ∧
  eqF Try.prog 25 = some [.i, .i, .i, .i, .i, .i, .i, .i, .i] ∧
  eqF Try.prog 147 = some [.i, .i, .i, .i, .i] ∧
  eqF Try.prog 149 = some [.i, .i, .i, .i, .i, .i] ∧
  fIs Try.prog 28 1 = true ∧
  fIs Try.prog 28 4 = true ∧
  fOff Try.prog 28 1 = 1 ∧
  fOff Try.prog 28 4 = 12 ∧
  fTy Try.prog 28 1 = 25 ∧
  fTy Try.prog 28 4 = 26 ∧
  goes Try.prog 16 = true ∧
  goes Try.prog 18 = true ∧
  goes Try.prog 19 = true ∧
  goes Try.prog 21 = true ∧
  goes Try.prog 22 = true ∧
  goes Try.prog 23 = true ∧
  goes Try.prog 24 = true ∧
  goes Try.prog 26 = true ∧
  inIs Try.prog 3 = some .i64 ∧
  inIs Try.prog 5 = some .u8 ∧
  inIs Try.prog 34 = some .i64 ∧
  plcs Try.prog 25 = [(0, 1), (1, 1), (2, 1), (3, 1), (4, 1), (5, 1), (6, 1), (7, 1), (8, 1)] ∧
  plcs Try.prog 28 = [(0, 1), (1, 9), (10, 1), (11, 1), (12, 1)] ∧
  plcs Try.prog 147 = [(0, 1), (1, 1), (2, 1), (3, 1), (4, 1)] ∧
  plcs Try.prog 149 = [(0, 5), (5, 1)] ∧
  slEl Try.prog 26 = 149 ∧
  slEl Try.prog 33 = 5 ∧
  slIs Try.prog 26 = true ∧
  slIs Try.prog 33 = true ∧
  slSz Try.prog 26 = 6 ∧
  slSz Try.prog 33 = 1 ∧
  stIs Try.prog 9 = true ∧
  zcs Try.prog 25 = [.int .i64 0, .int .u64 0, .int .i64 0, .int .i64 0, .int .i64 0, .int .i64 0, .int .i64 0, .int .i64 0, .int .i64 0] ∧
  zcs Try.prog 28 = [.int .i64 0, .int .i64 0, .int .u64 0, .int .i64 0, .int .i64 0, .int .i64 0, .int .i64 0, .int .i64 0, .int .i64 0, .int .i64 0, .int .i64 0, .int .i64 0, .slice none 0 0] ∧
  zcs Try.prog 147 = [.int .i64 0, .int .u32 0, .int .u32 0, .int .i64 0, .int .i64 0] ∧
  zcs Try.prog 149 = [.int .i64 0, .int .u32 0, .int .u32 0, .int .i64 0, .int .i64 0, .int .i64 0] ∧
  zro Try.prog 3 = some (.int .i64 0) ∧
  zro Try.prog 5 = some (.int .u8 0) ∧
  zro Try.prog 9 = some (.string ByteArray.empty) ∧
  zro Try.prog 25 = some (.agg #[.int .i64 0, .int .u64 0, .int .i64 0, .int .i64 0, .int .i64 0, .int .i64 0, .int .i64 0, .int .i64 0, .int .i64 0]) ∧
  zro Try.prog 26 = some (.slice none 0 0) ∧
  zro Try.prog 28 = some (.agg #[.int .i64 0, .int .i64 0, .int .u64 0, .int .i64 0, .int .i64 0, .int .i64 0, .int .i64 0, .int .i64 0, .int .i64 0, .int .i64 0, .int .i64 0, .int .i64 0, .slice none 0 0]) ∧
  zro Try.prog 33 = some (.slice none 0 0) ∧
  zro Try.prog 34 = some (.int .i64 0) ∧
  zro Try.prog 147 = some (.agg #[.int .i64 0, .int .u32 0, .int .u32 0, .int .i64 0, .int .i64 0]) ∧
  zro Try.prog 149 = some (.agg #[.int .i64 0, .int .u32 0, .int .u32 0, .int .i64 0, .int .i64 0, .int .i64 0]) :=
  ⟨by kernel_rfl, by kernel_rfl, by kernel_rfl, by kernel_rfl, by kernel_rfl, by kernel_rfl, by kernel_rfl, by kernel_rfl, by kernel_rfl, by kernel_rfl, by kernel_rfl, by kernel_rfl, by kernel_rfl, by kernel_rfl, by kernel_rfl, by kernel_rfl, by kernel_rfl, by kernel_rfl, by kernel_rfl, by kernel_rfl, by kernel_rfl, by kernel_rfl, by kernel_rfl, by kernel_rfl, by kernel_rfl, by kernel_rfl, by kernel_rfl, by kernel_rfl, by kernel_rfl, by kernel_rfl, by kernel_rfl, by kernel_rfl, by kernel_rfl, by kernel_rfl, by kernel_rfl, by kernel_rfl, by kernel_rfl, by kernel_rfl, by kernel_rfl, by kernel_rfl, by kernel_rfl, by kernel_rfl, by kernel_rfl, by kernel_rfl, by kernel_rfl, by kernel_rfl, by kernel_rfl, by kernel_rfl, by kernel_rfl, by kernel_rfl, by kernel_rfl, by kernel_rfl, by kernel_rfl, by kernel_rfl, by kernel_rfl, by kernel_rfl, by kernel_rfl, by kernel_rfl, by kernel_rfl, by kernel_rfl, by kernel_rfl, by kernel_rfl, by kernel_rfl, by kernel_rfl, by kernel_rfl, by kernel_rfl, by kernel_rfl, by kernel_rfl, by kernel_rfl, by kernel_rfl, by kernel_rfl, by kernel_rfl⟩
theorem Fits_ok {G : Hp} {v : Value} {l : List Rc} (k x1 x2 x3 x4 x5 x6 x7 x8 x9 port ver : Int) (hv : rcs G v l) : Con Try.prog G 15 [mgv k ⟨x1, x2, x3, x4, x5, x6, x7, x8, x9⟩ port ver v] [] (fun r B => r = .bool (decide (l.length ≤ 60)) ∧ B = []) := by
  obtain ⟨a, n, c, rfl, e1, e2⟩ := hv.slice
  rw [flat_len Rc.len] at e1
  obtain rfl : l.length = n := by omega
  refine Con.intro Try.func15 rfl (Nat.le_of_ble_eq_true (by kernel_rfl)) (by kernel_rfl) Try.results15 ?_
  intro H h
  ((try simp only [S, TY, reduceCtorEq, Nat.reduceEqDiff, Nat.reduceAdd, Nat.reduceLeDiff, Nat.reduceBEq, Int.reduceBEq, Nat.reduceMul, Int.reduceEq, Int.reduceLT, Int.reduceLE, Int.reduceAdd, Int.reduceSub, Int.reduceMul, Int.reduceToNat, Int.cast_ofNat_Int]); (try (simp (disch := omega) only [W2, Int.cast_ofNat_Int]; (try simp only [S, TY, reduceCtorEq, Nat.reduceEqDiff, Nat.reduceAdd, Nat.reduceLeDiff, Nat.reduceBEq, Int.reduceBEq, Nat.reduceMul, Int.reduceEq, Int.reduceLT, Int.reduceLE, Int.reduceAdd, Int.reduceSub, Int.reduceMul, Int.reduceToNat, Int.cast_ofNat_Int]))))
  repeat' (((first
      | ((with_reducible show fin _ _ _); first | ((refine fin_take (B := []) h ⟨?_, rfl⟩; (refine bb ?_; (try simp only [BB]) <;> (first | omega | grind)))))
      | ((with_reducible show New _ _ _); first | (refine New_sl h 6 rfl (fun b H' h' => ?_); skip) | (refine New_qsl h 6 rfl (fun b => rfl) (fun b H' h' => ?_); skip) | (refine New_ob h (fun b H' h' => ?_); skip) | (refine New_qob h (fun b H' h' => ?_); skip))
      | ((with_reducible show St _ _); first | (refine sg.st (h.front 0) rfl rfl (fun H' h' => ?_); skip) | (refine sg.st (h.front 1) rfl rfl (fun H' h' => ?_); skip) | (refine sg.st (h.front 2) rfl rfl (fun H' h' => ?_); skip) | (refine sg.st (h.front 3) rfl rfl (fun H' h' => ?_); skip) | (refine sg.st (h.front 4) rfl rfl (fun H' h' => ?_); skip) | (refine sg.st (h.front 5) rfl rfl (fun H' h' => ?_); skip) | (refine sg.st (h.front 6) rfl rfl (fun H' h' => ?_); skip) | (refine sg.st (h.front 7) rfl rfl (fun H' h' => ?_); skip) | (refine sg.st (h.front 8) rfl rfl (fun H' h' => ?_); skip) | (refine sg.st (h.front 9) rfl rfl (fun H' h' => ?_); skip))
      | ((with_reducible show Gate _ _ _); refine Gate.intro (fun g => ?_) (fun g => ?_) <;> (try subst g))
      ) <;> ((try ((try simp only [row, Rw.l, front_eq] at h'); (try simp only [front_eq, fronts_nil, fronts_cons, List.getElem?_cons_zero, List.getElem?_cons_succ, List.eraseIdx_cons_zero, List.eraseIdx_cons_succ, List.cons_append, List.nil_append, putL_cons, putL_nil, List.set_cons_zero, List.set_cons_succ, Nat.reduceAdd] at h'); clear h; have h := h'; clear h'; (try have fc := h.ci 0 rfl); (try have fl := h.li 0 rfl); (try have fc := h.ci 1 rfl); (try have fl := h.li 1 rfl); (try have fc := h.ci 2 rfl); (try have fl := h.li 2 rfl); (try have fc := h.ci 3 rfl); (try have fl := h.li 3 rfl); (try have fc := h.ci 4 rfl); (try have fl := h.li 4 rfl); (try have fc := h.ci 5 rfl); (try have fl := h.li 5 rfl); (try have fc := h.ci 6 rfl); (try have fl := h.li 6 rfl); (try have fc := h.ci 7 rfl); (try have fl := h.li 7 rfl); (try have fc := h.ci 8 rfl); (try have fl := h.li 8 rfl); (try have fc := h.ci 9 rfl); (try have fl := h.li 9 rfl))); ((try simp only [S, TY, reduceCtorEq, Nat.reduceEqDiff, Nat.reduceAdd, Nat.reduceLeDiff, Nat.reduceBEq, Int.reduceBEq, Nat.reduceMul, Int.reduceEq, Int.reduceLT, Int.reduceLE, Int.reduceAdd, Int.reduceSub, Int.reduceMul, Int.reduceToNat, Int.cast_ofNat_Int, *]); (try (simp (disch := omega) only [W2, Int.cast_ofNat_Int]; (try simp only [S, TY, reduceCtorEq, Nat.reduceEqDiff, Nat.reduceAdd, Nat.reduceLeDiff, Nat.reduceBEq, Int.reduceBEq, Nat.reduceMul, Int.reduceEq, Int.reduceLT, Int.reduceLE, Int.reduceAdd, Int.reduceSub, Int.reduceMul, Int.reduceToNat, Int.cast_ofNat_Int, *])))))))
theorem decR_of {l : List UInt8} {m : Mg} {e : Int} (h : decM l = (m, e)) {r : Value} {B : List Asn} (hr : DecR l r B) : ∃ u, r = .tuple #[.agg #[.int .i64 m.k, .int .i64 m.row.port, .int .u64 m.row.mac, .int .i64 m.row.own, .int .i64 m.row.tgt, .int .i64 m.row.old, .int .i64 m.row.gen, .int .i64 m.row.ph, .int .i64 m.row.ver, .int .i64 m.row.since, .int .i64 m.port, .int .i64 m.ver, u], .int .i64 e] ∧ B = [own 149 6 u (m.recs.flatMap Rc.l)] := by
  obtain ⟨u, rfl, rfl⟩ := hr
  rw [h]
  exact ⟨u, rfl, rfl⟩
theorem nil6 {G : Hp} : rcs G (.slice none 0 0) [] := ⟨none, 0, 0, rfl, rfl, Nat.le_refl _, .inl rfl⟩
abbrev m1 : Mg := ⟨1, ⟨2, 7, 3, -1, 4, 258, 2, 9, 5⟩, 0, 0, []⟩
abbrev t1 : Mg := ⟨3, zr, 1, 6, [⟨6, 0, 0, 0, 0, 8⟩]⟩
theorem m1_ok : m1.ok = true := by decide
theorem t1_ok : t1.ok = true := by decide
theorem m1_len : m1.enc.length = 29 := by decide
theorem t1_len : t1.enc.length = 28 := by decide
theorem m1_good : Mg.good m1 := ⟨by decide, by simp⟩
theorem encY {m : Mg} (h : m.ok = true) {r : Value} {B : List Asn} (hr : EncR m r B) : ∃ u, r = .tuple #[u, .int .i64 0] ∧ B = [own 5 1 u (bv m.enc)] := by
  unfold EncR at hr
  rwa [if_pos h] at hr
theorem alive {G : Hp} : Con Try.prog G 16 [] [] (fun r B => r = .bool true ∧ B = []) := by
  have hd := decF m1_ok m1_good
  have l1 := m1_len
  have l2 := t1_len
  have r1 : Rw.ok ⟨2, 7, 3, -1, 4, 258, 2, 9, 5⟩ = true := by decide
  have r2 : Mg.ok ⟨2, ⟨0, 0, 0, 0, 0, 0, 0, 0, 0⟩, 0, 0, []⟩ = false := by decide
  have r3 : Mg.ok ⟨2, ⟨0, 0, 0, 0, 0, 0, 0, 0, 0⟩, 0, 1, []⟩ = true := by decide
  refine Con.intro Try.func16 rfl (Nat.le_of_ble_eq_true (by kernel_rfl)) (by kernel_rfl) Try.results16 ?_
  intro H h
  ((try simp only [S, TY, reduceCtorEq, Nat.reduceEqDiff, Nat.reduceAdd, Nat.reduceLeDiff, Nat.reduceBEq, Int.reduceBEq, Nat.reduceMul, Int.reduceEq, Int.reduceLT, Int.reduceLE, Int.reduceAdd, Int.reduceSub, Int.reduceMul, Int.reduceToNat, Int.cast_ofNat_Int]); (try (simp (disch := omega) only [W2, Int.cast_ofNat_Int]; (try simp only [S, TY, reduceCtorEq, Nat.reduceEqDiff, Nat.reduceAdd, Nat.reduceLeDiff, Nat.reduceBEq, Int.reduceBEq, Nat.reduceMul, Int.reduceEq, Int.reduceLT, Int.reduceLE, Int.reduceAdd, Int.reduceSub, Int.reduceMul, Int.reduceToNat, Int.cast_ofNat_Int]))))
  repeat' (((first
      | ((with_reducible show CallsH _ _ 23 _ _ _); (with_reducible show CallsH _ _ _ #[Value.agg #[.int .i64 1, _, _, _, _, _, _, _, _, _, _, _, _]] _ _); refine (Encode_ok m1 nil6 (by simp) (by decide) (by simp) m1_ok).at_ h [] _ rfl (fun r B H' hr h' => ?_); obtain ⟨u, rfl, rfl⟩ := encY m1_ok hr; clear hr; obtain ⟨ua, un, uc, rfl, hun, _⟩ := h'.sl 0 rfl Rd_own; rw [bv_length, l1, Nat.mul_one] at hun; subst hun; skip)
      | ((with_reducible show CallsH _ _ 24 _ _ _); first | (refine Con.lend_at [] [own 5 1 _ _] h [0] rfl (fun F hF hs => Decode_ok (seps_own hs 0 rfl).left (by rw [l1]; omega)) (fun r B H' hr h' => ?_); obtain ⟨u, rfl, rfl⟩ := decR_of hd hr; clear hr; obtain ⟨va, vn, vc, rfl, hvn, _⟩ := h'.sl 0 rfl Rd_own; obtain rfl : 0 = vn := (by rw [flat_len Rc.len] at hvn; simp at hvn; omega); skip) | (refine Con.lend_at [] [own 5 1 _ _] h [1] rfl (fun F hF hs => Decode_ok (seps_own hs 0 rfl).left (by rw [l1]; omega)) (fun r B H' hr h' => ?_); obtain ⟨u, rfl, rfl⟩ := decR_of hd hr; clear hr; obtain ⟨va, vn, vc, rfl, hvn, _⟩ := h'.sl 0 rfl Rd_own; obtain rfl : 0 = vn := (by rw [flat_len Rc.len] at hvn; simp at hvn; omega); skip))
      | ((with_reducible show CallsH _ _ 23 _ _ _); (with_reducible show CallsH _ _ _ #[Value.agg #[.int .i64 3, _, _, _, _, _, _, _, _, _, _, _, _]] _ _); refine Con.lend_at [] [own 149 6 _ [.int .i64 6, .int .u32 0, .int .u32 0, .int .i64 0, .int .i64 0, .int .i64 8]] h [1] rfl (fun F hF hs => Encode_ok t1 (seps_own hs 0 rfl).left (by simp) (by decide) (by simp) t1_ok) (fun r B H' hr h' => ?_); obtain ⟨u, rfl, rfl⟩ := encY t1_ok hr; clear hr; obtain ⟨va, vn, vc, rfl, hvn, _⟩ := h'.sl 0 rfl Rd_own; rw [bv_length, l2, Nat.mul_one] at hvn; subst hvn; skip)
      | ((with_reducible show CallsH _ _ 21 _ _ _); refine Con.lend_at [] [own 149 6 _ []] h [4] rfl (fun F hF hs => Same_ok ⟨_, ⟨_, _, _, _, _, _, _, _, _⟩, _, _, []⟩ ⟨_, ⟨_, _, _, _, _, _, _, _, _⟩, _, _, []⟩ nil6 (seps_own hs 0 rfl).left (by simp)) (fun r B H' hr h' => ?_); obtain ⟨rfl, rfl⟩ := hr; skip)
      | ((with_reducible show CallsH _ _ 19 _ _ _); first | (refine (Row_ok ⟨_, _, _, _, _, _, _, _, _⟩).at_ h [] _ rfl (fun r B H' hr h' => ?_); obtain ⟨rfl, rfl⟩ := hr; rw [r1]; skip))
      | ((with_reducible show CallsH _ _ 18 _ _ _); first | (refine (Right_ok ⟨_, ⟨_, _, _, _, _, _, _, _, _⟩, _, _, []⟩ nil6 (by simp)).at_ h [] _ rfl (fun r B H' hr h' => ?_); obtain ⟨rfl, rfl⟩ := hr; first | rw [r2] | rw [r3]; skip))
      | ((with_reducible show fin _ _ _); first | (exact fin_take (B := []) h ⟨rfl, rfl⟩))
      | ((with_reducible show New _ _ _); first | (refine New_sl h 6 rfl (fun b H' h' => ?_); skip) | (refine New_qsl h 6 rfl (fun b => rfl) (fun b H' h' => ?_); skip) | (refine New_ob h (fun b H' h' => ?_); skip) | (refine New_qob h (fun b H' h' => ?_); skip))
      | ((with_reducible show St _ _); first | (refine sg.st (h.front 0) rfl rfl (fun H' h' => ?_); skip) | (refine sg.st (h.front 1) rfl rfl (fun H' h' => ?_); skip) | (refine sg.st (h.front 2) rfl rfl (fun H' h' => ?_); skip) | (refine sg.st (h.front 3) rfl rfl (fun H' h' => ?_); skip) | (refine sg.st (h.front 4) rfl rfl (fun H' h' => ?_); skip) | (refine sg.st (h.front 5) rfl rfl (fun H' h' => ?_); skip) | (refine sg.st (h.front 6) rfl rfl (fun H' h' => ?_); skip) | (refine sg.st (h.front 7) rfl rfl (fun H' h' => ?_); skip) | (refine sg.st (h.front 8) rfl rfl (fun H' h' => ?_); skip) | (refine sg.st (h.front 9) rfl rfl (fun H' h' => ?_); skip))
      | ((with_reducible show Gate _ _ _); refine Gate.intro (fun g => ?_) (fun g => ?_) <;> (try subst g))
      ) <;> ((try ((try simp only [row, Rw.l, front_eq] at h'); (try simp only [front_eq, fronts_nil, fronts_cons, List.getElem?_cons_zero, List.getElem?_cons_succ, List.eraseIdx_cons_zero, List.eraseIdx_cons_succ, List.cons_append, List.nil_append, putL_cons, putL_nil, List.set_cons_zero, List.set_cons_succ, Nat.reduceAdd] at h'); clear h; have h := h'; clear h'; (try have fc := h.ci 0 rfl); (try have fl := h.li 0 rfl); (try have fc := h.ci 1 rfl); (try have fl := h.li 1 rfl); (try have fc := h.ci 2 rfl); (try have fl := h.li 2 rfl); (try have fc := h.ci 3 rfl); (try have fl := h.li 3 rfl); (try have fc := h.ci 4 rfl); (try have fl := h.li 4 rfl); (try have fc := h.ci 5 rfl); (try have fl := h.li 5 rfl); (try have fc := h.ci 6 rfl); (try have fl := h.li 6 rfl); (try have fc := h.ci 7 rfl); (try have fl := h.li 7 rfl); (try have fc := h.ci 8 rfl); (try have fl := h.li 8 rfl); (try have fc := h.ci 9 rfl); (try have fl := h.li 9 rfl))); ((try simp only [S, TY, reduceCtorEq, Nat.reduceEqDiff, Nat.reduceAdd, Nat.reduceLeDiff, Nat.reduceBEq, Int.reduceBEq, Nat.reduceMul, Int.reduceEq, Int.reduceLT, Int.reduceLE, Int.reduceAdd, Int.reduceSub, Int.reduceMul, Int.reduceToNat, Int.cast_ofNat_Int, *]); (try (simp (disch := omega) only [W2, Int.cast_ofNat_Int]; (try simp only [S, TY, reduceCtorEq, Nat.reduceEqDiff, Nat.reduceAdd, Nat.reduceLeDiff, Nat.reduceBEq, Int.reduceBEq, Nat.reduceMul, Int.reduceEq, Int.reduceLT, Int.reduceLE, Int.reduceAdd, Int.reduceSub, Int.reduceMul, Int.reduceToNat, Int.cast_ofNat_Int, *])))))))
theorem recs_len {m : Mg} (h : m.ok = true) : m.recs.length ≤ 16 := by
  rcases (ok_cases h).2 with ⟨_, _, _, _, h⟩ | ⟨_, _, h⟩ | ⟨_, _, h⟩
  · rw [h]; simp
  · rw [h]; simp
  · exact h
theorem bytes {G : Hp} {v : Value} {l : List UInt8} (hv : rds G 1 v (bv l)) : Con Try.prog G 4 [v] [] (fun r B => r = .bool true ∧ B = []) := by
  obtain ⟨a, n, c, rfl, e1, e2⟩ := hv.slice
  rw [bv_length, Nat.mul_one] at e1
  subst e1
  refine Con.intro Try.func4 rfl (Nat.le_of_ble_eq_true (by kernel_rfl)) (by kernel_rfl) Try.results4 ?_
  intro H h
  by_cases k1 : ¬ (2000 : Int) < l.length
  · rcases dec_or l with hd0 | hd
    · obtain ⟨m, hd⟩ : ∃ m, decM l = (m, 0) := ⟨_, Prod.ext rfl hd0⟩
      obtain ⟨b1, b2, b3⟩ := decBk hd
      replace b1 := b1.symm
      have hl := recs_len b2
      have f0 := rStr_of (P := Try.prog) hv
      clear hd0
      ((try simp only [S, TY, reduceCtorEq, Nat.reduceEqDiff, Nat.reduceAdd, Nat.reduceLeDiff, Nat.reduceBEq, Int.reduceBEq, Nat.reduceMul, Int.reduceEq, Int.reduceLT, Int.reduceLE, Int.reduceAdd, Int.reduceSub, Int.reduceMul, Int.reduceToNat, Int.cast_ofNat_Int, k1]); (try (simp (disch := omega) only [W2, Int.cast_ofNat_Int]; (try simp only [S, TY, reduceCtorEq, Nat.reduceEqDiff, Nat.reduceAdd, Nat.reduceLeDiff, Nat.reduceBEq, Int.reduceBEq, Nat.reduceMul, Int.reduceEq, Int.reduceLT, Int.reduceLE, Int.reduceAdd, Int.reduceSub, Int.reduceMul, Int.reduceToNat, Int.cast_ofNat_Int, k1]))))
      repeat' (((first
          | ((with_reducible show CallsH _ _ 24 _ _ _); first | (refine (Decode_ok hv (by omega)).at_ h [] _ rfl (fun r B H' hr h' => ?_); obtain ⟨u, rfl, rfl⟩ := decR_of hd hr; clear hr; obtain ⟨va, vn, vc, rfl, _, _⟩ := h'.sl 0 rfl Rd_own; skip))
          | ((with_reducible show CallsH _ _ 26 _ _ _); first | (refine (dParse_ok hv (by omega)).at_ h [] _ rfl (fun r B H' hr h' => ?_); obtain ⟨u, rfl, rfl⟩ := decR_of hd hr; clear hr; obtain ⟨wa, wn, wc, rfl, _, _⟩ := h'.sl 0 rfl Rd_own; skip))
          | ((with_reducible show CallsH _ _ 22 _ _ _); refine Con.lend_at [] [own 149 6 _ (List.flatMap Rc.l (m).recs), own 149 6 _ (List.flatMap Rc.l (m).recs)] h [3, 1] rfl (fun F hF hs => dSame_ok m m (seps_own hs 0 rfl).left (seps_own hs 1 rfl).left (by omega)) (fun r B H' hr h' => ?_); obtain ⟨rfl, rfl⟩ := hr; skip)
          | ((with_reducible show CallsH _ _ 16 _ _ _); first | (refine (alive).at_ h [] _ rfl (fun r B H' hr h' => ?_); obtain ⟨rfl, rfl⟩ := hr; skip))
          | ((with_reducible show CallsH _ _ 23 _ _ _); refine Con.lend_at [] [own 149 6 _ (List.flatMap Rc.l m.recs)] h [0] rfl (fun F hF hs => Encode_ok m (seps_own hs 0 rfl).left (by omega) b3.1 b3.2 b2) (fun r B H' hr h' => ?_); obtain ⟨u, rfl, rfl⟩ := encY b2 hr; clear hr; obtain ⟨ya, yn, yc, rfl, _, _⟩ := h'.sl 0 rfl Rd_own; rw [b1] at h'; have f1 := rStr_of (P := Try.prog) (h'.rdsi 0 rfl Rd_own); skip)
          | ((with_reducible show fin _ _ _); first | (exact fin_take (B := []) h ⟨rfl, rfl⟩))
          | ((with_reducible show New _ _ _); first | (refine New_sl h 6 rfl (fun b H' h' => ?_); skip) | (refine New_qsl h 6 rfl (fun b => rfl) (fun b H' h' => ?_); skip) | (refine New_ob h (fun b H' h' => ?_); skip) | (refine New_qob h (fun b H' h' => ?_); skip))
          | ((with_reducible show St _ _); first | (refine sg.st (h.front 0) rfl rfl (fun H' h' => ?_); skip) | (refine sg.st (h.front 1) rfl rfl (fun H' h' => ?_); skip) | (refine sg.st (h.front 2) rfl rfl (fun H' h' => ?_); skip) | (refine sg.st (h.front 3) rfl rfl (fun H' h' => ?_); skip) | (refine sg.st (h.front 4) rfl rfl (fun H' h' => ?_); skip) | (refine sg.st (h.front 5) rfl rfl (fun H' h' => ?_); skip) | (refine sg.st (h.front 6) rfl rfl (fun H' h' => ?_); skip) | (refine sg.st (h.front 7) rfl rfl (fun H' h' => ?_); skip) | (refine sg.st (h.front 8) rfl rfl (fun H' h' => ?_); skip) | (refine sg.st (h.front 9) rfl rfl (fun H' h' => ?_); skip))
          | ((with_reducible show Gate _ _ _); refine Gate.intro (fun g => ?_) (fun g => ?_) <;> (try subst g))
          ) <;> ((try ((try simp only [row, Rw.l, front_eq] at h'); (try simp only [front_eq, fronts_nil, fronts_cons, List.getElem?_cons_zero, List.getElem?_cons_succ, List.eraseIdx_cons_zero, List.eraseIdx_cons_succ, List.cons_append, List.nil_append, putL_cons, putL_nil, List.set_cons_zero, List.set_cons_succ, Nat.reduceAdd] at h'); clear h; have h := h'; clear h'; (try have fc := h.ci 0 rfl); (try have fl := h.li 0 rfl); (try have fc := h.ci 1 rfl); (try have fl := h.li 1 rfl); (try have fc := h.ci 2 rfl); (try have fl := h.li 2 rfl); (try have fc := h.ci 3 rfl); (try have fl := h.li 3 rfl); (try have fc := h.ci 4 rfl); (try have fl := h.li 4 rfl); (try have fc := h.ci 5 rfl); (try have fl := h.li 5 rfl); (try have fc := h.ci 6 rfl); (try have fl := h.li 6 rfl); (try have fc := h.ci 7 rfl); (try have fl := h.li 7 rfl); (try have fc := h.ci 8 rfl); (try have fl := h.li 8 rfl); (try have fc := h.ci 9 rfl); (try have fl := h.li 9 rfl); (try (have fs := rStr_of (P := Try.prog) (h.rdsi 0 rfl Rd_own))); (try (have f0 := rStr_of (P := Try.prog) (h.ro hv))))); ((try simp only [S, TY, reduceCtorEq, Nat.reduceEqDiff, Nat.reduceAdd, Nat.reduceLeDiff, Nat.reduceBEq, Int.reduceBEq, Nat.reduceMul, Int.reduceEq, Int.reduceLT, Int.reduceLE, Int.reduceAdd, Int.reduceSub, Int.reduceMul, Int.reduceToNat, Int.cast_ofNat_Int, *]); (try (simp (disch := omega) only [W2, Int.cast_ofNat_Int]; (try simp only [S, TY, reduceCtorEq, Nat.reduceEqDiff, Nat.reduceAdd, Nat.reduceLeDiff, Nat.reduceBEq, Int.reduceBEq, Nat.reduceMul, Int.reduceEq, Int.reduceLT, Int.reduceLE, Int.reduceAdd, Int.reduceSub, Int.reduceMul, Int.reduceToNat, Int.cast_ofNat_Int, *])))))))
    · have hz : mz.recs.length ≤ 16 := by decide
      ((try simp only [S, TY, reduceCtorEq, Nat.reduceEqDiff, Nat.reduceAdd, Nat.reduceLeDiff, Nat.reduceBEq, Int.reduceBEq, Nat.reduceMul, Int.reduceEq, Int.reduceLT, Int.reduceLE, Int.reduceAdd, Int.reduceSub, Int.reduceMul, Int.reduceToNat, Int.cast_ofNat_Int, k1]); (try (simp (disch := omega) only [W2, Int.cast_ofNat_Int]; (try simp only [S, TY, reduceCtorEq, Nat.reduceEqDiff, Nat.reduceAdd, Nat.reduceLeDiff, Nat.reduceBEq, Int.reduceBEq, Nat.reduceMul, Int.reduceEq, Int.reduceLT, Int.reduceLE, Int.reduceAdd, Int.reduceSub, Int.reduceMul, Int.reduceToNat, Int.cast_ofNat_Int, k1]))))
      repeat' (((first
          | ((with_reducible show CallsH _ _ 24 _ _ _); first | (refine (Decode_ok hv (by omega)).at_ h [] _ rfl (fun r B H' hr h' => ?_); obtain ⟨u, rfl, rfl⟩ := decR_of hd hr; clear hr; obtain ⟨va, vn, vc, rfl, _, _⟩ := h'.sl 0 rfl Rd_own; skip))
          | ((with_reducible show CallsH _ _ 26 _ _ _); first | (refine (dParse_ok hv (by omega)).at_ h [] _ rfl (fun r B H' hr h' => ?_); obtain ⟨u, rfl, rfl⟩ := decR_of hd hr; clear hr; obtain ⟨wa, wn, wc, rfl, _, _⟩ := h'.sl 0 rfl Rd_own; skip))
          | ((with_reducible show CallsH _ _ 22 _ _ _); refine Con.lend_at [] [own 149 6 _ (List.flatMap Rc.l (mz).recs), own 149 6 _ (List.flatMap Rc.l (mz).recs)] h [3, 1] rfl (fun F hF hs => dSame_ok mz mz (seps_own hs 0 rfl).left (seps_own hs 1 rfl).left (by omega)) (fun r B H' hr h' => ?_); obtain ⟨rfl, rfl⟩ := hr; skip)
          | ((with_reducible show CallsH _ _ 16 _ _ _); first | (refine (alive).at_ h [] _ rfl (fun r B H' hr h' => ?_); obtain ⟨rfl, rfl⟩ := hr; skip))
          | ((with_reducible show fin _ _ _); first | (exact fin_take (B := []) h ⟨rfl, rfl⟩))
          | ((with_reducible show New _ _ _); first | (refine New_sl h 6 rfl (fun b H' h' => ?_); skip) | (refine New_qsl h 6 rfl (fun b => rfl) (fun b H' h' => ?_); skip) | (refine New_ob h (fun b H' h' => ?_); skip) | (refine New_qob h (fun b H' h' => ?_); skip))
          | ((with_reducible show St _ _); first | (refine sg.st (h.front 0) rfl rfl (fun H' h' => ?_); skip) | (refine sg.st (h.front 1) rfl rfl (fun H' h' => ?_); skip) | (refine sg.st (h.front 2) rfl rfl (fun H' h' => ?_); skip) | (refine sg.st (h.front 3) rfl rfl (fun H' h' => ?_); skip) | (refine sg.st (h.front 4) rfl rfl (fun H' h' => ?_); skip) | (refine sg.st (h.front 5) rfl rfl (fun H' h' => ?_); skip) | (refine sg.st (h.front 6) rfl rfl (fun H' h' => ?_); skip) | (refine sg.st (h.front 7) rfl rfl (fun H' h' => ?_); skip) | (refine sg.st (h.front 8) rfl rfl (fun H' h' => ?_); skip) | (refine sg.st (h.front 9) rfl rfl (fun H' h' => ?_); skip))
          | ((with_reducible show Gate _ _ _); refine Gate.intro (fun g => ?_) (fun g => ?_) <;> (try subst g))
          ) <;> ((try ((try simp only [row, Rw.l, front_eq] at h'); (try simp only [front_eq, fronts_nil, fronts_cons, List.getElem?_cons_zero, List.getElem?_cons_succ, List.eraseIdx_cons_zero, List.eraseIdx_cons_succ, List.cons_append, List.nil_append, putL_cons, putL_nil, List.set_cons_zero, List.set_cons_succ, Nat.reduceAdd] at h'); clear h; have h := h'; clear h'; (try have fc := h.ci 0 rfl); (try have fl := h.li 0 rfl); (try have fc := h.ci 1 rfl); (try have fl := h.li 1 rfl); (try have fc := h.ci 2 rfl); (try have fl := h.li 2 rfl); (try have fc := h.ci 3 rfl); (try have fl := h.li 3 rfl); (try have fc := h.ci 4 rfl); (try have fl := h.li 4 rfl); (try have fc := h.ci 5 rfl); (try have fl := h.li 5 rfl); (try have fc := h.ci 6 rfl); (try have fl := h.li 6 rfl); (try have fc := h.ci 7 rfl); (try have fl := h.li 7 rfl); (try have fc := h.ci 8 rfl); (try have fl := h.li 8 rfl); (try have fc := h.ci 9 rfl); (try have fl := h.li 9 rfl))); ((try simp only [S, TY, reduceCtorEq, Nat.reduceEqDiff, Nat.reduceAdd, Nat.reduceLeDiff, Nat.reduceBEq, Int.reduceBEq, Nat.reduceMul, Int.reduceEq, Int.reduceLT, Int.reduceLE, Int.reduceAdd, Int.reduceSub, Int.reduceMul, Int.reduceToNat, Int.cast_ofNat_Int, *]); (try (simp (disch := omega) only [W2, Int.cast_ofNat_Int]; (try simp only [S, TY, reduceCtorEq, Nat.reduceEqDiff, Nat.reduceAdd, Nat.reduceLeDiff, Nat.reduceBEq, Int.reduceBEq, Nat.reduceMul, Int.reduceEq, Int.reduceLT, Int.reduceLE, Int.reduceAdd, Int.reduceSub, Int.reduceMul, Int.reduceToNat, Int.cast_ofNat_Int, *])))))))
  · replace k1 : (2000 : Int) < l.length := by omega
    ((try simp only [S, TY, reduceCtorEq, Nat.reduceEqDiff, Nat.reduceAdd, Nat.reduceLeDiff, Nat.reduceBEq, Int.reduceBEq, Nat.reduceMul, Int.reduceEq, Int.reduceLT, Int.reduceLE, Int.reduceAdd, Int.reduceSub, Int.reduceMul, Int.reduceToNat, Int.cast_ofNat_Int, k1]); (try (simp (disch := omega) only [W2, Int.cast_ofNat_Int]; (try simp only [S, TY, reduceCtorEq, Nat.reduceEqDiff, Nat.reduceAdd, Nat.reduceLeDiff, Nat.reduceBEq, Int.reduceBEq, Nat.reduceMul, Int.reduceEq, Int.reduceLT, Int.reduceLE, Int.reduceAdd, Int.reduceSub, Int.reduceMul, Int.reduceToNat, Int.cast_ofNat_Int, k1]))))
    repeat' (((first
        | ((with_reducible show CallsH _ _ 16 _ _ _); first | (refine (alive).at_ h [] _ rfl (fun r B H' hr h' => ?_); obtain ⟨rfl, rfl⟩ := hr; skip))
        | ((with_reducible show fin _ _ _); first | (exact fin_take (B := []) h ⟨rfl, rfl⟩))
        | ((with_reducible show New _ _ _); first | (refine New_sl h 6 rfl (fun b H' h' => ?_); skip) | (refine New_qsl h 6 rfl (fun b => rfl) (fun b H' h' => ?_); skip) | (refine New_ob h (fun b H' h' => ?_); skip) | (refine New_qob h (fun b H' h' => ?_); skip))
        | ((with_reducible show St _ _); first | (refine sg.st (h.front 0) rfl rfl (fun H' h' => ?_); skip) | (refine sg.st (h.front 1) rfl rfl (fun H' h' => ?_); skip) | (refine sg.st (h.front 2) rfl rfl (fun H' h' => ?_); skip) | (refine sg.st (h.front 3) rfl rfl (fun H' h' => ?_); skip) | (refine sg.st (h.front 4) rfl rfl (fun H' h' => ?_); skip) | (refine sg.st (h.front 5) rfl rfl (fun H' h' => ?_); skip) | (refine sg.st (h.front 6) rfl rfl (fun H' h' => ?_); skip) | (refine sg.st (h.front 7) rfl rfl (fun H' h' => ?_); skip) | (refine sg.st (h.front 8) rfl rfl (fun H' h' => ?_); skip) | (refine sg.st (h.front 9) rfl rfl (fun H' h' => ?_); skip))
        | ((with_reducible show Gate _ _ _); refine Gate.intro (fun g => ?_) (fun g => ?_) <;> (try subst g))
        ) <;> ((try ((try simp only [row, Rw.l, front_eq] at h'); (try simp only [front_eq, fronts_nil, fronts_cons, List.getElem?_cons_zero, List.getElem?_cons_succ, List.eraseIdx_cons_zero, List.eraseIdx_cons_succ, List.cons_append, List.nil_append, putL_cons, putL_nil, List.set_cons_zero, List.set_cons_succ, Nat.reduceAdd] at h'); clear h; have h := h'; clear h'; (try have fc := h.ci 0 rfl); (try have fl := h.li 0 rfl); (try have fc := h.ci 1 rfl); (try have fl := h.li 1 rfl); (try have fc := h.ci 2 rfl); (try have fl := h.li 2 rfl); (try have fc := h.ci 3 rfl); (try have fl := h.li 3 rfl); (try have fc := h.ci 4 rfl); (try have fl := h.li 4 rfl); (try have fc := h.ci 5 rfl); (try have fl := h.li 5 rfl); (try have fc := h.ci 6 rfl); (try have fl := h.li 6 rfl); (try have fc := h.ci 7 rfl); (try have fl := h.li 7 rfl); (try have fc := h.ci 8 rfl); (try have fl := h.li 8 rfl); (try have fc := h.ci 9 rfl); (try have fl := h.li 9 rfl))); ((try simp only [S, TY, reduceCtorEq, Nat.reduceEqDiff, Nat.reduceAdd, Nat.reduceLeDiff, Nat.reduceBEq, Int.reduceBEq, Nat.reduceMul, Int.reduceEq, Int.reduceLT, Int.reduceLE, Int.reduceAdd, Int.reduceSub, Int.reduceMul, Int.reduceToNat, Int.cast_ofNat_Int, *]); (try (simp (disch := omega) only [W2, Int.cast_ofNat_Int]; (try simp only [S, TY, reduceCtorEq, Nat.reduceEqDiff, Nat.reduceAdd, Nat.reduceLeDiff, Nat.reduceBEq, Int.reduceBEq, Nat.reduceMul, Int.reduceEq, Int.reduceLT, Int.reduceLE, Int.reduceAdd, Int.reduceSub, Int.reduceMul, Int.reduceToNat, Int.cast_ofNat_Int, *])))))))
theorem bytesV {G : Hp} {v0 : Value} {y0 : Ty.bytes.den} (h0 : Ty.V G .bytes v0 y0) : Con Try.prog G 4 [v0] [] (fun r B => r = .bool true ∧ B = []) := by
  rcases h0 with ⟨h, _⟩ | ⟨_, w, h0, hv⟩
  · cases h
  cases h0
  exact bytes hv
end Go.Proofs.Ytfjmejideoklpaa.CtL
