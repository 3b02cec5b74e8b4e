/- The laws on arps. -/
import Derived.Test.YtfdcllpedfifpaaArpR
set_option linter.unusedVariables false
set_option linter.unusedSimpArgs false
set_option maxRecDepth 10000
set_option maxHeartbeats 4000000
namespace Go.Proofs.Ytfdcllpedfifpaa.ArpL
open Go Go.Sl Go.Proofs Go.Proofs.Ytfdcllpedfifpaa.Buf Go.Proofs.Ytfdcllpedfifpaa.BufRd Go.Proofs.Ytfdcllpedfifpaa.BufRe Go.Proofs.Ytfdcllpedfifpaa.BufP Go.Proofs.Ytfdcllpedfifpaa.BufG Go.Proofs.Ytfdcllpedfifpaa.BufOne Go.Proofs.Ytfdcllpedfifpaa.Wr Go.Proofs.Ytfdcllpedfifpaa.Eth Go.Proofs.Ytfdcllpedfifpaa.EthR Go.Proofs.Ytfdcllpedfifpaa.Arp Go.Proofs.Ytfdcllpedfifpaa.ArpA Go.Proofs.Ytfdcllpedfifpaa.ArpR
theorem TY : aggN Try.prog 3 = some none ∧
  aggN Try.prog 5 = some none ∧
  aggN Try.prog 9 = some none ∧
  aggN Try.prog 29 = some none ∧
  aggN Try.prog 33 = some none ∧
  aggN Try.prog 47 = some none ∧
  aggN Try.prog 49 = some (some 4) ∧
  aggN Try.prog 63 = some (some 5) ∧
  aggN Try.prog 69 = some (some 5) ∧
  apI Try.prog 33 = some (5, 1, 1) ∧
  bIs Try.prog 49 = true ∧
  bIs Try.prog 63 = true ∧
  bIs Try.prog 69 = true ∧
  bySl Try.prog 33 = true ∧
  csz Try.prog 3 = some 1 ∧
  csz Try.prog 5 = some 1 ∧
  csz Try.prog 9 = some 1 ∧
  csz Try.prog 29 = some 1 ∧
  csz Try.prog 33 = some 1 ∧
  csz Try.prog 47 = some 1 ∧
  csz Try.prog 49 = some 4 ∧
  csz Try.prog 63 = some 5 ∧
  csz Try.prog 69 = some 5 ∧
  eqF Try.prog 63 = some [.i, .i, .i, .i, .i] ∧
  eqF Try.prog 69 = some [.i, .i, .i, .i, .i] ∧
  fIs Try.prog 49 0 = true ∧
  fIs Try.prog 49 3 = true ∧
  fOff Try.prog 49 0 = 0 ∧
  fOff Try.prog 49 3 = 3 ∧
  fTy Try.prog 49 0 = 47 ∧
  fTy Try.prog 49 3 = 33 ∧
  goes Try.prog 38 = true ∧
  goes Try.prog 39 = true ∧
  goes Try.prog 41 = true ∧
  goes Try.prog 43 = true ∧
  goes Try.prog 45 = true ∧
  goes Try.prog 46 = true ∧
  goes Try.prog 48 = true ∧
  inIs Try.prog 3 = some .i64 ∧
  inIs Try.prog 5 = some .u8 ∧
  inIs Try.prog 29 = some .i64 ∧
  inIs Try.prog 47 = some .u64 ∧
  plcs Try.prog 49 = [(0, 1), (1, 1), (2, 1), (3, 1)] ∧
  plcs Try.prog 63 = [(0, 1), (1, 1), (2, 1), (3, 1), (4, 1)] ∧
  plcs Try.prog 69 = [(0, 1), (1, 1), (2, 1), (3, 1), (4, 1)] ∧
  slEl Try.prog 33 = 5 ∧
  slIs Try.prog 33 = true ∧
  slSz Try.prog 33 = 1 ∧
  stIs Try.prog 9 = true ∧
  zcs Try.prog 49 = [.int .u64 0, .int .u64 0, .int .i64 0, .slice none 0 0] ∧
  zcs Try.prog 63 = [.int .i64 0, .int .u64 0, .int .u64 0, .int .u32 0, .int .u32 0] ∧
  zcs Try.prog 69 = [.int .i64 0, .int .u64 0, .int .u64 0, .int .u32 0, .int .u32 0] ∧
  zro Try.prog 3 = some (.int .i64 0) ∧
  zro Try.prog 5 = some (.int .u8 0) ∧
  zro Try.prog 9 = some (.string ByteArray.empty) ∧
  zro Try.prog 29 = some (.int .i64 0) ∧
  zro Try.prog 33 = some (.slice none 0 0) ∧
  zro Try.prog 47 = some (.int .u64 0) ∧
  zro Try.prog 49 = some (.agg #[.int .u64 0, .int .u64 0, .int .i64 0, .slice none 0 0]) ∧
  zro Try.prog 63 = some (.agg #[.int .i64 0, .int .u64 0, .int .u64 0, .int .u32 0, .int .u32 0]) ∧
  zro Try.prog 69 = some (.agg #[.int .i64 0, .int .u64 0, .int .u64 0, .int .u32 0, .int .u32 0]) :=
  ⟨by kernel_rfl, by kernel_rfl, by kernel_rfl, by kernel_rfl, by kernel_rfl, by kernel_rfl, by kernel_rfl, by kernel_rfl, by kernel_rfl, by kernel_rfl, by kernel_rfl, by kernel_rfl, by kernel_rfl, by kernel_rfl, by kernel_rfl, by kernel_rfl, by kernel_rfl, by kernel_rfl, by kernel_rfl, by kernel_rfl, by kernel_rfl, by kernel_rfl, by kernel_rfl, by kernel_rfl, by kernel_rfl, by kernel_rfl, by kernel_rfl, by kernel_rfl, by kernel_rfl, by kernel_rfl, by kernel_rfl, by kernel_rfl, by kernel_rfl, by kernel_rfl, by kernel_rfl, by kernel_rfl, by kernel_rfl, by kernel_rfl, by kernel_rfl, by kernel_rfl, by kernel_rfl, by kernel_rfl, by kernel_rfl, by kernel_rfl, by kernel_rfl, by kernel_rfl, by kernel_rfl, by kernel_rfl, by kernel_rfl, by kernel_rfl, by kernel_rfl, by kernel_rfl, by kernel_rfl, by kernel_rfl, by kernel_rfl, by kernel_rfl, by kernel_rfl, by kernel_rfl, by kernel_rfl, by kernel_rfl, by kernel_rfl⟩
def D7_5 : List Note := Go.Sl.nn [1, 3, 1, 0, 0, 0, 0, 0, 0]
def D7_10 : List Note := Go.Sl.nn [3, 0, 0, 0, 0, 0, 0] ++ ([(1, [0])] ++ (Go.Sl.nn [0, 0] ++ ([(1, [0])] ++ (Go.Sl.nn [0, 0, 0]))))
theorem dropA {x y : List UInt8} {n o : Nat} (h : x.length = n) : (x ++ y).drop (n + o) = y.drop o := by rw [← List.drop_drop, List.drop_left' h]
theorem takeA {x y : List UInt8} {n : Nat} (h : x.length = n) : (x ++ y).take n = x := List.take_left' h
theorem enc_eq (op sha tha spa tpa : Int) : arpEnc op sha tha spa tpa = [0, 1, 8, 0, 6, 4] ++ (num 2 op.toNat ++ (num 6 sha.toNat ++ (num 4 spa.toNat ++ (num 6 tha.toNat ++ (num 4 tpa.toNat ++ []))))) := by
  have e : flat 2 [1, 2048] ++ flat 1 [6, 4] = [0, 1, 8, 0, 6, 4] := by decide
  unfold arpEnc
  rw [e]
  simp [flat, List.append_assoc]
theorem enc_len (op sha tha spa tpa : Int) : (arpEnc op sha tha spa tpa).length = 28 := by rw [enc_eq]; simp [num_length]
theorem enc_dec {op sha tha spa tpa : Int} (h0 : 0 ≤ sha ∧ 0 ≤ tha) (h3 : 0 ≤ spa ∧ spa < 4294967296) (h4 : 0 ≤ tpa ∧ tpa < 4294967296) (hr : aright op sha tha = true) :
    (28 ≤ (arpEnc op sha tha spa tpa).length ∧ ahd (arpEnc op sha tha spa tpa)) ∧ adec (arpEnc op sha tha spa tpa) = ⟨op.toNat, sha.toNat, tha.toNat, spa.toNat, tpa.toNat⟩ := by
  unfold aright at hr
  rw [decide_eq_true_eq] at hr
  refine ⟨⟨by rw [enc_len]; omega, ?_⟩, ?_⟩
  · rw [enc_eq]
    exact takeA rfl
  · have l6 : ([0, 1, 8, 0, 6, 4] : List UInt8).length = 6 := rfl
    unfold adec
    rw [enc_eq]
    have d6 : ∀ y : List UInt8, ([0, 1, 8, 0, 6, 4] ++ y).drop 6 = y := fun y => rfl
    have d8 : ∀ (y : List UInt8), ([0, 1, 8, 0, 6, 4] ++ (num 2 op.toNat ++ y)).drop 8 = y := fun y => by
      rw [show 8 = 6 + 2 from rfl, dropA l6, List.drop_left' (num_length _ _)]
    have d14 : ∀ (y : List UInt8), ([0, 1, 8, 0, 6, 4] ++ (num 2 op.toNat ++ (num 6 sha.toNat ++ y))).drop 14 = y := fun y => by
      rw [show 14 = 6 + (2 + 6) from rfl, dropA l6, dropA (num_length _ _), List.drop_left' (num_length _ _)]
    have d18 : ∀ (y : List UInt8), ([0, 1, 8, 0, 6, 4] ++ (num 2 op.toNat ++ (num 6 sha.toNat ++ (num 4 spa.toNat ++ y)))).drop 18 = y := fun y => by
      rw [show 18 = 6 + (2 + (6 + 4)) from rfl, dropA l6, dropA (num_length _ _), dropA (num_length _ _), List.drop_left' (num_length _ _)]
    have d24 : ∀ (y : List UInt8), ([0, 1, 8, 0, 6, 4] ++ (num 2 op.toNat ++ (num 6 sha.toNat ++ (num 4 spa.toNat ++ (num 6 tha.toNat ++ y))))).drop 24 = y := fun y => by
      rw [show 24 = 6 + (2 + (6 + (4 + 6))) from rfl, dropA l6, dropA (num_length _ _), dropA (num_length _ _), dropA (num_length _ _), List.drop_left' (num_length _ _)]
    rw [d6, d8, d14, d18, d24, takeA (num_length _ _), takeA (num_length _ _), takeA (num_length _ _), takeA (num_length _ _), takeA (num_length _ _),
      val_num _ _ (by omega), val_num _ _ (by omega), val_num _ _ (by omega), val_num _ _ (by omega), val_num _ _ (by omega)]
theorem dec_enc {l : List UInt8} (h : 28 ≤ l.length ∧ ahd l) : arpEnc (adec l).op (adec l).sha (adec l).tha (adec l).spa (adec l).tpa = l.take 28 := by
  rw [enc_eq]
  have e : ∀ (k o : Nat), o + k ≤ l.length → num k (val ((l.drop o).take k)) = (l.drop o).take k := by
    intro k o hk
    have := num_val ((l.drop o).take k)
    rwa [List.length_take, List.length_drop, Nat.min_eq_left (by omega)] at this
  simp only [adec, Int.toNat_natCast]
  rw [e 2 6 (by omega), e 6 8 (by omega), e 6 18 (by omega), e 4 14 (by omega), e 4 24 (by omega)]
  have h6 : ([0, 1, 8, 0, 6, 4] : List UInt8) = l.take 6 := h.2.symm
  rw [h6, List.append_nil]
  have s : ∀ o k m, (l.drop o).take k ++ (l.drop (o + k)).take m = (l.drop o).take (k + m) := fun o k m => by rw [List.take_add, List.drop_drop]
  have s0 : l.take 6 ++ (l.drop 6).take 22 = l.take 28 := by rw [show 28 = 6 + 22 from rfl, List.take_add]
  rw [s 18 6 4, s 14 4 10, s 8 6 14, s 6 2 20, s0]
theorem Fits2 {G : Hp} {v : Value} {l : List UInt8} (d s t : Int) (hv : rds G 1 v (bv l)) : Con Try.prog G 26 [frv d s t v] [] (fun r B => r = .bool (decide (l.length ≤ 3000)) ∧ B = []) := by
  obtain ⟨a, n, c, rfl, e1, e2⟩ := hv.slice
  rw [bv_length, Nat.mul_one] at e1
  subst e1
  refine Con.intro Try.func26 rfl (Nat.le_of_ble_eq_true (by kernel_rfl)) (by kernel_rfl) Try.results26 ?_
  intro H h
  ((try simp only [S, TY, reduceCtorEq, Nat.reduceEqDiff, Nat.reduceAdd, Nat.reduceLeDiff, Nat.reduceBEq, Int.reduceBEq, Nat.reduceMul, Int.reduceEq, Int.reduceLT, Int.reduceLE, Int.reduceAdd, Int.reduceSub, Int.reduceMul, Int.reduceToNat, Int.cast_ofNat_Int]); (try (simp (disch := omega) only [W2, Int.cast_ofNat_Int]; (try simp only [S, TY, reduceCtorEq, Nat.reduceEqDiff, Nat.reduceAdd, Nat.reduceLeDiff, Nat.reduceBEq, Int.reduceBEq, Nat.reduceMul, Int.reduceEq, Int.reduceLT, Int.reduceLE, Int.reduceAdd, Int.reduceSub, Int.reduceMul, Int.reduceToNat, Int.cast_ofNat_Int]))))
  repeat' (((first
      | ((with_reducible show fin _ _ _); first | ((refine fin_take (B := []) h ⟨?_, rfl⟩; (refine bb ?_; (try simp only [BB]) <;> (first | omega | grind)))))
      | ((with_reducible show New _ _ _); first | (refine New_sl h 1 rfl (fun b H' h' => ?_); skip) | (refine New_qsl h 1 rfl (fun b => rfl) (fun b H' h' => ?_); skip) | (refine New_ob h (fun b H' h' => ?_); skip) | (refine New_qob h (fun b H' h' => ?_); skip))
      | ((with_reducible show St _ _); first | (refine sg.st (h.front 0) rfl rfl (fun H' h' => ?_); skip) | (refine sg.st (h.front 1) rfl rfl (fun H' h' => ?_); skip) | (refine sg.st (h.front 2) rfl rfl (fun H' h' => ?_); skip) | (refine sg.st (h.front 3) rfl rfl (fun H' h' => ?_); skip) | (refine sg.st (h.front 4) rfl rfl (fun H' h' => ?_); skip) | (refine sg.st (h.front 5) rfl rfl (fun H' h' => ?_); skip) | (refine sg.st (h.front 6) rfl rfl (fun H' h' => ?_); skip) | (refine sg.st (h.front 7) rfl rfl (fun H' h' => ?_); skip) | (refine sg.st (h.front 8) rfl rfl (fun H' h' => ?_); skip) | (refine sg.st (h.front 9) rfl rfl (fun H' h' => ?_); skip) | (refine sg.st (h.front 10) rfl rfl (fun H' h' => ?_); skip) | (refine sg.st (h.front 11) rfl rfl (fun H' h' => ?_); skip))
      | ((with_reducible show Gate _ _ _); refine Gate.intro (fun g => ?_) (fun g => ?_) <;> (try subst g))
      ) <;> ((try ((try simp only [front_eq, fronts_nil, fronts_cons, List.getElem?_cons_zero, List.getElem?_cons_succ, List.eraseIdx_cons_zero, List.eraseIdx_cons_succ, List.cons_append, List.nil_append, putL_cons, putL_nil, List.set_cons_zero, List.set_cons_succ, Nat.reduceAdd] at h'); clear h; have h := h'; clear h'; (try have fc := h.ci 0 rfl); (try have fl := h.li 0 rfl); (try have fc := h.ci 1 rfl); (try have fl := h.li 1 rfl); (try have fc := h.ci 2 rfl); (try have fl := h.li 2 rfl); (try have fc := h.ci 3 rfl); (try have fl := h.li 3 rfl); (try have fc := h.ci 4 rfl); (try have fl := h.li 4 rfl); (try have fc := h.ci 5 rfl); (try have fl := h.li 5 rfl); (try have fc := h.ci 6 rfl); (try have fl := h.li 6 rfl); (try have fc := h.ci 7 rfl); (try have fl := h.li 7 rfl); (try have fc := h.ci 8 rfl); (try have fl := h.li 8 rfl); (try have fc := h.ci 9 rfl); (try have fl := h.li 9 rfl); (try have fc := h.ci 10 rfl); (try have fl := h.li 10 rfl); (try have fc := h.ci 11 rfl); (try have fl := h.li 11 rfl))); ((try simp only [S, TY, reduceCtorEq, Nat.reduceEqDiff, Nat.reduceAdd, Nat.reduceLeDiff, Nat.reduceBEq, Int.reduceBEq, Nat.reduceMul, Int.reduceEq, Int.reduceLT, Int.reduceLE, Int.reduceAdd, Int.reduceSub, Int.reduceMul, Int.reduceToNat, Int.cast_ofNat_Int, *]); (try (simp (disch := omega) only [W2, Int.cast_ofNat_Int]; (try simp only [S, TY, reduceCtorEq, Nat.reduceEqDiff, Nat.reduceAdd, Nat.reduceLeDiff, Nat.reduceBEq, Int.reduceBEq, Nat.reduceMul, Int.reduceEq, Int.reduceLT, Int.reduceLE, Int.reduceAdd, Int.reduceSub, Int.reduceMul, Int.reduceToNat, Int.cast_ofNat_Int, *])))))))
theorem adec_lt (l : List UInt8) : (adec l).op < 65536 ∧ (adec l).sha < 281474976710656 ∧ (adec l).tha < 281474976710656 ∧ (adec l).spa < 4294967296 ∧ (adec l).tpa < 4294967296 :=
  ⟨val_lt' _ 2, val_lt' _ 6, val_lt' _ 6, val_lt' _ 4, val_lt' _ 4⟩
theorem adec_right (l : List UInt8) : aright (adec l).op (adec l).sha (adec l).tha = true := by
  have := adec_lt l
  unfold aright; rw [decide_eq_true_eq]; omega
theorem alive {G : Hp} : Con Try.prog G 38 [] [] (fun r B => r = .bool true ∧ B = []) := by
  have q1 := enc_dec (op := 3) (sha := 258) (tha := 258) (spa := 0) (tpa := 0) (by omega) (by omega) (by omega) (by decide)
  have q2 := enc_dec (op := 2) (sha := 7) (tha := 0) (spa := 9) (tpa := 9) (by omega) (by omega) (by omega) (by decide)
  have hA1 : annV 281474976710655 258 32821 (arpEnc 3 258 258 0 0) = .tuple #[.int .u64 258, .bool true] := by
    rw [annV_yes, q1.2]; rfl
    refine ⟨by rw [enc_len]; decide, q1.1, ?_⟩
    rw [q1.2]; decide
  have hA2 : annV 0 0 2054 (arpEnc 2 7 0 9 9) = .tuple #[.int .u64 7, .bool true] := by
    rw [annV_yes, q2.2]; rfl
    refine ⟨by rw [enc_len]; decide, q2.1, ?_⟩
    rw [q2.2]; decide
  have hA3 : annV 0 0 32821 (arpEnc 2 7 0 9 9) = .tuple #[.int .u64 0, .bool false] := by
    rw [annV_no]
    rintro ⟨_, _, h⟩
    rw [q2.2] at h
    exact absurd h (by decide)
  clear q1 q2
  have hr1 : aright 3 258 258 = true := by decide
  have hr2 : aright 2 7 0 = true := by decide
  have l1 := enc_len 3 258 258 0 0
  have l2 := enc_len 2 7 0 9 9
  refine Con.intro Try.func38 rfl (Nat.le_of_ble_eq_true (by kernel_rfl)) (by kernel_rfl) Try.results38 ?_
  intro H h
  ((try simp only [S, TY, reduceCtorEq, Nat.reduceEqDiff, Nat.reduceAdd, Nat.reduceLeDiff, Nat.reduceBEq, Int.reduceBEq, Nat.reduceMul, Int.reduceEq, Int.reduceLT, Int.reduceLE, Int.reduceAdd, Int.reduceSub, Int.reduceMul, Int.reduceToNat, Int.cast_ofNat_Int]); (try (simp (disch := omega) only [W2, Int.cast_ofNat_Int]; (try simp only [S, TY, reduceCtorEq, Nat.reduceEqDiff, Nat.reduceAdd, Nat.reduceLeDiff, Nat.reduceBEq, Int.reduceBEq, Nat.reduceMul, Int.reduceEq, Int.reduceLT, Int.reduceLE, Int.reduceAdd, Int.reduceSub, Int.reduceMul, Int.reduceToNat, Int.cast_ofNat_Int]))))
  repeat' (((first
      | ((with_reducible show CallsH _ _ 41 _ _ _); first | (refine (RARP_ok _ (by omega)).at_ h [] _ rfl (fun r B H' hr h' => ?_); rw [if_pos (by omega)] at hr; obtain ⟨u, rfl, rfl⟩ := hr; obtain ⟨ua, un, uc, rfl, _, _⟩ := h'.sl 0 rfl Rd_own; skip))
      | ((with_reducible show CallsH _ _ 43 _ _ _); first | (refine (Arp.Encode_ok _ _ _ _ _ (by omega) (by omega) (by omega) (by omega)).at_ h [] _ rfl (fun r B H' hr h' => ?_); unfold Arp.EncR at hr; rw [if_pos hr2] at hr; obtain ⟨u, rfl, rfl⟩ := hr; obtain ⟨ua, un, uc, rfl, hun, _⟩ := h'.sl 0 rfl Rd_own; rw [bv_length, l2, Nat.mul_one] at hun; subst hun; skip))
      | ((with_reducible show CallsH _ _ 39 _ _ _); first | (refine Con.lend_at [] [own 5 1 _ _] h [0] rfl (fun F hF hs => Announces_ok _ _ _ (by omega) (seps_own hs 0 rfl).left (by simp [enc_len])) (fun r B H' hr h' => ?_); obtain ⟨rfl, rfl⟩ := hr; simp only [hA1, hA2, hA3]; skip) | (refine Con.lend_at [] [own 5 1 _ _] h [1] rfl (fun F hF hs => Announces_ok _ _ _ (by omega) (seps_own hs 0 rfl).left (by simp [enc_len])) (fun r B H' hr h' => ?_); obtain ⟨rfl, rfl⟩ := hr; simp only [hA1, hA2, hA3]; skip))
      | ((with_reducible show fin _ _ _); first | (exact fin_take (B := []) h ⟨rfl, rfl⟩))
      | ((with_reducible show New _ _ _); first | (refine New_sl h 1 rfl (fun b H' h' => ?_); skip) | (refine New_qsl h 1 rfl (fun b => rfl) (fun b H' h' => ?_); skip) | (refine New_ob h (fun b H' h' => ?_); skip) | (refine New_qob h (fun b H' h' => ?_); skip))
      | ((with_reducible show St _ _); first | (refine sg.st (h.front 0) rfl rfl (fun H' h' => ?_); skip) | (refine sg.st (h.front 1) rfl rfl (fun H' h' => ?_); skip) | (refine sg.st (h.front 2) rfl rfl (fun H' h' => ?_); skip) | (refine sg.st (h.front 3) rfl rfl (fun H' h' => ?_); skip) | (refine sg.st (h.front 4) rfl rfl (fun H' h' => ?_); skip) | (refine sg.st (h.front 5) rfl rfl (fun H' h' => ?_); skip) | (refine sg.st (h.front 6) rfl rfl (fun H' h' => ?_); skip) | (refine sg.st (h.front 7) rfl rfl (fun H' h' => ?_); skip) | (refine sg.st (h.front 8) rfl rfl (fun H' h' => ?_); skip) | (refine sg.st (h.front 9) rfl rfl (fun H' h' => ?_); skip) | (refine sg.st (h.front 10) rfl rfl (fun H' h' => ?_); skip) | (refine sg.st (h.front 11) rfl rfl (fun H' h' => ?_); skip))
      | ((with_reducible show Gate _ _ _); refine Gate.intro (fun g => ?_) (fun g => ?_) <;> (try subst g))
      ) <;> ((try ((try simp only [front_eq, fronts_nil, fronts_cons, List.getElem?_cons_zero, List.getElem?_cons_succ, List.eraseIdx_cons_zero, List.eraseIdx_cons_succ, List.cons_append, List.nil_append, putL_cons, putL_nil, List.set_cons_zero, List.set_cons_succ, Nat.reduceAdd] at h'); clear h; have h := h'; clear h'; (try have fc := h.ci 0 rfl); (try have fl := h.li 0 rfl); (try have fc := h.ci 1 rfl); (try have fl := h.li 1 rfl); (try have fc := h.ci 2 rfl); (try have fl := h.li 2 rfl); (try have fc := h.ci 3 rfl); (try have fl := h.li 3 rfl); (try have fc := h.ci 4 rfl); (try have fl := h.li 4 rfl); (try have fc := h.ci 5 rfl); (try have fl := h.li 5 rfl); (try have fc := h.ci 6 rfl); (try have fl := h.li 6 rfl); (try have fc := h.ci 7 rfl); (try have fl := h.li 7 rfl); (try have fc := h.ci 8 rfl); (try have fl := h.li 8 rfl); (try have fc := h.ci 9 rfl); (try have fl := h.li 9 rfl); (try have fc := h.ci 10 rfl); (try have fl := h.li 10 rfl); (try have fc := h.ci 11 rfl); (try have fl := h.li 11 rfl))); ((try simp only [S, TY, reduceCtorEq, Nat.reduceEqDiff, Nat.reduceAdd, Nat.reduceLeDiff, Nat.reduceBEq, Int.reduceBEq, Nat.reduceMul, Int.reduceEq, Int.reduceLT, Int.reduceLE, Int.reduceAdd, Int.reduceSub, Int.reduceMul, Int.reduceToNat, Int.cast_ofNat_Int, *]); (try (simp (disch := omega) only [W2, Int.cast_ofNat_Int]; (try simp only [S, TY, reduceCtorEq, Nat.reduceEqDiff, Nat.reduceAdd, Nat.reduceLeDiff, Nat.reduceBEq, Int.reduceBEq, Nat.reduceMul, Int.reduceEq, Int.reduceLT, Int.reduceLE, Int.reduceAdd, Int.reduceSub, Int.reduceMul, Int.reduceToNat, Int.cast_ofNat_Int, *])))))))
theorem bytes {G : Hp} {v : Value} {l : List UInt8} (hv : rds G 1 v (bv l)) : Con Try.prog G 7 [v] [] (fun r B => r = .bool true ∧ B = []) := by
  obtain ⟨a, n, c, rfl, e1, e2⟩ := hv.slice
  rw [bv_length, Nat.mul_one] at e1
  by_cases k1 : n ≤ 3000
  · have k1' : ¬ (3000 : Int) < n := by omega
    by_cases hg : 28 ≤ l.length ∧ ahd l
    · have hdv : DecV l = .tuple #[.agg (adec l).l.toArray, .int .i64 0] := by unfold DecV; rw [if_pos hg]
      have har := adec_right l
      have hlt := adec_lt l
      have hde := dec_enc hg
      have hv28 := hv.cut (m := 28) (c' := c) (by omega) (by omega)
      rw [Nat.mul_one, ← bv_take, ← hde] at hv28
      have hc : (0 : Int) ≤ 28 ∧ (28 : Int) ≤ c := by omega
      have hc2 : (28 : Int) ≤ c := by omega
      generalize adec l = z at *
      obtain ⟨op, sha, tha, spa, tpa⟩ := z
      refine Con.intro Try.func7 rfl (Nat.le_of_ble_eq_true (by kernel_rfl)) (by kernel_rfl) Try.results7 ?_
      intro H h
      ((try simp only [S, TY, reduceCtorEq, Nat.reduceEqDiff, Nat.reduceAdd, Nat.reduceLeDiff, Nat.reduceBEq, Int.reduceBEq, Nat.reduceMul, Int.reduceEq, Int.reduceLT, Int.reduceLE, Int.reduceAdd, Int.reduceSub, Int.reduceMul, Int.reduceToNat, Int.cast_ofNat_Int, *]); (try (simp (disch := omega) only [W2, Int.cast_ofNat_Int]; (try simp only [S, TY, reduceCtorEq, Nat.reduceEqDiff, Nat.reduceAdd, Nat.reduceLeDiff, Nat.reduceBEq, Int.reduceBEq, Nat.reduceMul, Int.reduceEq, Int.reduceLT, Int.reduceLE, Int.reduceAdd, Int.reduceSub, Int.reduceMul, Int.reduceToNat, Int.cast_ofNat_Int, *]))); repeat ((first | (refine cl_drawi 5 D7_5 (List.range 9) (by decide) (by kernel_rfl) ?_; unfold D7_5) | (refine cl_drawi 10 D7_10 (List.range 14) (by decide) (by kernel_rfl) ?_; unfold D7_10)); simp only [S, TY, reduceCtorEq, Nat.reduceEqDiff, Nat.reduceAdd, Nat.reduceLeDiff, Nat.reduceBEq, Int.reduceBEq, Nat.reduceMul, Int.reduceEq, Int.reduceLT, Int.reduceLE, Int.reduceAdd, Int.reduceSub, Int.reduceMul, Int.reduceToNat, Int.cast_ofNat_Int, *]; (try (simp (disch := omega) only [W2, Int.cast_ofNat_Int]; (try simp only [S, TY, reduceCtorEq, Nat.reduceEqDiff, Nat.reduceAdd, Nat.reduceLeDiff, Nat.reduceBEq, Int.reduceBEq, Nat.reduceMul, Int.reduceEq, Int.reduceLT, Int.reduceLE, Int.reduceAdd, Int.reduceSub, Int.reduceMul, Int.reduceToNat, Int.cast_ofNat_Int, *])))))
      repeat' (((first
          | ((with_reducible show CallsH _ _ 38 _ _ _); first | (refine (alive).at_ h [] _ rfl (fun r B H' hr h' => ?_); obtain ⟨rfl, rfl⟩ := hr; skip))
          | ((with_reducible show CallsH _ _ 46 _ _ _); first | (refine (Decode_ok hv (by omega)).at_ h [] _ rfl (fun r B H' hr h' => ?_); obtain ⟨rfl, rfl⟩ := hr; rw [hdv]; skip))
          | ((with_reducible show CallsH _ _ 48 _ _ _); first | (refine (dParse_ok hv (by omega)).at_ h [] _ rfl (fun r B H' hr h' => ?_); obtain ⟨rfl, rfl⟩ := hr; rw [hdv]; skip))
          | ((with_reducible show CallsH _ _ 45 _ _ _); first | (refine (Of_ok _ _ _ _ _).at_ h [] _ rfl (fun r B H' hr h' => ?_); obtain ⟨rfl, rfl⟩ := hr; skip))
          | ((with_reducible show CallsH _ _ 43 _ _ _); first | (refine (Arp.Encode_ok _ _ _ _ _ (by simp only at hlt; omega) (by simp only at hlt; omega) (by simp only at hlt; omega) (by simp only at hlt; omega)).at_ h [] _ rfl (fun r B H' hr h' => ?_); unfold Arp.EncR at hr; rw [if_pos har] at hr; obtain ⟨u, rfl, rfl⟩ := hr; obtain ⟨ua, un, uc, rfl, hun, _⟩ := h'.sl 0 rfl Rd_own; skip))
          | ((with_reducible show fin _ _ _); first | (exact fin_take (B := []) h ⟨rfl, rfl⟩))
          | ((with_reducible show New _ _ _); first | (refine New_sl h 1 rfl (fun b H' h' => ?_); skip) | (refine New_qsl h 1 rfl (fun b => rfl) (fun b H' h' => ?_); skip) | (refine New_ob h (fun b H' h' => ?_); skip) | (refine New_qob h (fun b H' h' => ?_); skip))
          | ((with_reducible show St _ _); first | (refine sg.st (h.front 0) rfl rfl (fun H' h' => ?_); skip) | (refine sg.st (h.front 1) rfl rfl (fun H' h' => ?_); skip) | (refine sg.st (h.front 2) rfl rfl (fun H' h' => ?_); skip) | (refine sg.st (h.front 3) rfl rfl (fun H' h' => ?_); skip) | (refine sg.st (h.front 4) rfl rfl (fun H' h' => ?_); skip) | (refine sg.st (h.front 5) rfl rfl (fun H' h' => ?_); skip) | (refine sg.st (h.front 6) rfl rfl (fun H' h' => ?_); skip) | (refine sg.st (h.front 7) rfl rfl (fun H' h' => ?_); skip) | (refine sg.st (h.front 8) rfl rfl (fun H' h' => ?_); skip) | (refine sg.st (h.front 9) rfl rfl (fun H' h' => ?_); skip) | (refine sg.st (h.front 10) rfl rfl (fun H' h' => ?_); skip) | (refine sg.st (h.front 11) rfl rfl (fun H' h' => ?_); skip))
          | ((with_reducible show Gate _ _ _); refine Gate.intro (fun g => ?_) (fun g => ?_) <;> (try subst g))
          ) <;> ((try ((try simp only [front_eq, fronts_nil, fronts_cons, List.getElem?_cons_zero, List.getElem?_cons_succ, List.eraseIdx_cons_zero, List.eraseIdx_cons_succ, List.cons_append, List.nil_append, putL_cons, putL_nil, List.set_cons_zero, List.set_cons_succ, Nat.reduceAdd] at h'); clear h; have h := h'; clear h'; (try have fc := h.ci 0 rfl); (try have fl := h.li 0 rfl); (try have fc := h.ci 1 rfl); (try have fl := h.li 1 rfl); (try have fc := h.ci 2 rfl); (try have fl := h.li 2 rfl); (try have fc := h.ci 3 rfl); (try have fl := h.li 3 rfl); (try have fc := h.ci 4 rfl); (try have fl := h.li 4 rfl); (try have fc := h.ci 5 rfl); (try have fl := h.li 5 rfl); (try have fc := h.ci 6 rfl); (try have fl := h.li 6 rfl); (try have fc := h.ci 7 rfl); (try have fl := h.li 7 rfl); (try have fc := h.ci 8 rfl); (try have fl := h.li 8 rfl); (try have fc := h.ci 9 rfl); (try have fl := h.li 9 rfl); (try have fc := h.ci 10 rfl); (try have fl := h.li 10 rfl); (try have fc := h.ci 11 rfl); (try have fl := h.li 11 rfl); (try (have fs := rStr_of (P := Try.prog) (h.ro hv28))); (try (have ft := rStr_of (P := Try.prog) (h.rdsi 0 rfl Rd_own))))); ((try simp only [S, TY, reduceCtorEq, Nat.reduceEqDiff, Nat.reduceAdd, Nat.reduceLeDiff, Nat.reduceBEq, Int.reduceBEq, Nat.reduceMul, Int.reduceEq, Int.reduceLT, Int.reduceLE, Int.reduceAdd, Int.reduceSub, Int.reduceMul, Int.reduceToNat, Int.cast_ofNat_Int, *]); (try (simp (disch := omega) only [W2, Int.cast_ofNat_Int]; (try simp only [S, TY, reduceCtorEq, Nat.reduceEqDiff, Nat.reduceAdd, Nat.reduceLeDiff, Nat.reduceBEq, Int.reduceBEq, Nat.reduceMul, Int.reduceEq, Int.reduceLT, Int.reduceLE, Int.reduceAdd, Int.reduceSub, Int.reduceMul, Int.reduceToNat, Int.cast_ofNat_Int, *]))); repeat ((first | (refine cl_drawi 5 D7_5 (List.range 9) (by decide) (by kernel_rfl) ?_; unfold D7_5) | (refine cl_drawi 10 D7_10 (List.range 14) (by decide) (by kernel_rfl) ?_; unfold D7_10)); simp only [S, TY, reduceCtorEq, Nat.reduceEqDiff, Nat.reduceAdd, Nat.reduceLeDiff, Nat.reduceBEq, Int.reduceBEq, Nat.reduceMul, Int.reduceEq, Int.reduceLT, Int.reduceLE, Int.reduceAdd, Int.reduceSub, Int.reduceMul, Int.reduceToNat, Int.cast_ofNat_Int, *]; (try (simp (disch := omega) only [W2, Int.cast_ofNat_Int]; (try simp only [S, TY, reduceCtorEq, Nat.reduceEqDiff, Nat.reduceAdd, Nat.reduceLeDiff, Nat.reduceBEq, Int.reduceBEq, Nat.reduceMul, Int.reduceEq, Int.reduceLT, Int.reduceLE, Int.reduceAdd, Int.reduceSub, Int.reduceMul, Int.reduceToNat, Int.cast_ofNat_Int, *]))))))))
    · have hdv : DecV l = .tuple #[arv 0 0 0 0 0, .int .i64 2] := by unfold DecV; rw [if_neg hg]
      refine Con.intro Try.func7 rfl (Nat.le_of_ble_eq_true (by kernel_rfl)) (by kernel_rfl) Try.results7 ?_
      intro H h
      ((try simp only [S, TY, reduceCtorEq, Nat.reduceEqDiff, Nat.reduceAdd, Nat.reduceLeDiff, Nat.reduceBEq, Int.reduceBEq, Nat.reduceMul, Int.reduceEq, Int.reduceLT, Int.reduceLE, Int.reduceAdd, Int.reduceSub, Int.reduceMul, Int.reduceToNat, Int.cast_ofNat_Int, *]); (try (simp (disch := omega) only [W2, Int.cast_ofNat_Int]; (try simp only [S, TY, reduceCtorEq, Nat.reduceEqDiff, Nat.reduceAdd, Nat.reduceLeDiff, Nat.reduceBEq, Int.reduceBEq, Nat.reduceMul, Int.reduceEq, Int.reduceLT, Int.reduceLE, Int.reduceAdd, Int.reduceSub, Int.reduceMul, Int.reduceToNat, Int.cast_ofNat_Int, *]))); repeat ((first | (refine cl_drawi 5 D7_5 (List.range 9) (by decide) (by kernel_rfl) ?_; unfold D7_5) | (refine cl_drawi 10 D7_10 (List.range 14) (by decide) (by kernel_rfl) ?_; unfold D7_10)); simp only [S, TY, reduceCtorEq, Nat.reduceEqDiff, Nat.reduceAdd, Nat.reduceLeDiff, Nat.reduceBEq, Int.reduceBEq, Nat.reduceMul, Int.reduceEq, Int.reduceLT, Int.reduceLE, Int.reduceAdd, Int.reduceSub, Int.reduceMul, Int.reduceToNat, Int.cast_ofNat_Int, *]; (try (simp (disch := omega) only [W2, Int.cast_ofNat_Int]; (try simp only [S, TY, reduceCtorEq, Nat.reduceEqDiff, Nat.reduceAdd, Nat.reduceLeDiff, Nat.reduceBEq, Int.reduceBEq, Nat.reduceMul, Int.reduceEq, Int.reduceLT, Int.reduceLE, Int.reduceAdd, Int.reduceSub, Int.reduceMul, Int.reduceToNat, Int.cast_ofNat_Int, *])))))
      repeat' (((first
          | ((with_reducible show CallsH _ _ 38 _ _ _); first | (refine (alive).at_ h [] _ rfl (fun r B H' hr h' => ?_); obtain ⟨rfl, rfl⟩ := hr; skip))
          | ((with_reducible show CallsH _ _ 46 _ _ _); first | (refine (Decode_ok hv (by omega)).at_ h [] _ rfl (fun r B H' hr h' => ?_); obtain ⟨rfl, rfl⟩ := hr; rw [hdv]; skip))
          | ((with_reducible show CallsH _ _ 48 _ _ _); first | (refine (dParse_ok hv (by omega)).at_ h [] _ rfl (fun r B H' hr h' => ?_); obtain ⟨rfl, rfl⟩ := hr; rw [hdv]; skip))
          | ((with_reducible show CallsH _ _ 45 _ _ _); first | (refine (Of_ok _ _ _ _ _).at_ h [] _ rfl (fun r B H' hr h' => ?_); obtain ⟨rfl, rfl⟩ := hr; skip))
          | ((with_reducible show fin _ _ _); first | (exact fin_take (B := []) h ⟨rfl, rfl⟩))
          | ((with_reducible show New _ _ _); first | (refine New_sl h 1 rfl (fun b H' h' => ?_); skip) | (refine New_qsl h 1 rfl (fun b => rfl) (fun b H' h' => ?_); skip) | (refine New_ob h (fun b H' h' => ?_); skip) | (refine New_qob h (fun b H' h' => ?_); skip))
          | ((with_reducible show St _ _); first | (refine sg.st (h.front 0) rfl rfl (fun H' h' => ?_); skip) | (refine sg.st (h.front 1) rfl rfl (fun H' h' => ?_); skip) | (refine sg.st (h.front 2) rfl rfl (fun H' h' => ?_); skip) | (refine sg.st (h.front 3) rfl rfl (fun H' h' => ?_); skip) | (refine sg.st (h.front 4) rfl rfl (fun H' h' => ?_); skip) | (refine sg.st (h.front 5) rfl rfl (fun H' h' => ?_); skip) | (refine sg.st (h.front 6) rfl rfl (fun H' h' => ?_); skip) | (refine sg.st (h.front 7) rfl rfl (fun H' h' => ?_); skip) | (refine sg.st (h.front 8) rfl rfl (fun H' h' => ?_); skip) | (refine sg.st (h.front 9) rfl rfl (fun H' h' => ?_); skip) | (refine sg.st (h.front 10) rfl rfl (fun H' h' => ?_); skip) | (refine sg.st (h.front 11) rfl rfl (fun H' h' => ?_); skip))
          | ((with_reducible show Gate _ _ _); refine Gate.intro (fun g => ?_) (fun g => ?_) <;> (try subst g))
          ) <;> ((try ((try simp only [front_eq, fronts_nil, fronts_cons, List.getElem?_cons_zero, List.getElem?_cons_succ, List.eraseIdx_cons_zero, List.eraseIdx_cons_succ, List.cons_append, List.nil_append, putL_cons, putL_nil, List.set_cons_zero, List.set_cons_succ, Nat.reduceAdd] at h'); clear h; have h := h'; clear h'; (try have fc := h.ci 0 rfl); (try have fl := h.li 0 rfl); (try have fc := h.ci 1 rfl); (try have fl := h.li 1 rfl); (try have fc := h.ci 2 rfl); (try have fl := h.li 2 rfl); (try have fc := h.ci 3 rfl); (try have fl := h.li 3 rfl); (try have fc := h.ci 4 rfl); (try have fl := h.li 4 rfl); (try have fc := h.ci 5 rfl); (try have fl := h.li 5 rfl); (try have fc := h.ci 6 rfl); (try have fl := h.li 6 rfl); (try have fc := h.ci 7 rfl); (try have fl := h.li 7 rfl); (try have fc := h.ci 8 rfl); (try have fl := h.li 8 rfl); (try have fc := h.ci 9 rfl); (try have fl := h.li 9 rfl); (try have fc := h.ci 10 rfl); (try have fl := h.li 10 rfl); (try have fc := h.ci 11 rfl); (try have fl := h.li 11 rfl))); ((try simp only [S, TY, reduceCtorEq, Nat.reduceEqDiff, Nat.reduceAdd, Nat.reduceLeDiff, Nat.reduceBEq, Int.reduceBEq, Nat.reduceMul, Int.reduceEq, Int.reduceLT, Int.reduceLE, Int.reduceAdd, Int.reduceSub, Int.reduceMul, Int.reduceToNat, Int.cast_ofNat_Int, *]); (try (simp (disch := omega) only [W2, Int.cast_ofNat_Int]; (try simp only [S, TY, reduceCtorEq, Nat.reduceEqDiff, Nat.reduceAdd, Nat.reduceLeDiff, Nat.reduceBEq, Int.reduceBEq, Nat.reduceMul, Int.reduceEq, Int.reduceLT, Int.reduceLE, Int.reduceAdd, Int.reduceSub, Int.reduceMul, Int.reduceToNat, Int.cast_ofNat_Int, *]))); repeat ((first | (refine cl_drawi 5 D7_5 (List.range 9) (by decide) (by kernel_rfl) ?_; unfold D7_5) | (refine cl_drawi 10 D7_10 (List.range 14) (by decide) (by kernel_rfl) ?_; unfold D7_10)); simp only [S, TY, reduceCtorEq, Nat.reduceEqDiff, Nat.reduceAdd, Nat.reduceLeDiff, Nat.reduceBEq, Int.reduceBEq, Nat.reduceMul, Int.reduceEq, Int.reduceLT, Int.reduceLE, Int.reduceAdd, Int.reduceSub, Int.reduceMul, Int.reduceToNat, Int.cast_ofNat_Int, *]; (try (simp (disch := omega) only [W2, Int.cast_ofNat_Int]; (try simp only [S, TY, reduceCtorEq, Nat.reduceEqDiff, Nat.reduceAdd, Nat.reduceLeDiff, Nat.reduceBEq, Int.reduceBEq, Nat.reduceMul, Int.reduceEq, Int.reduceLT, Int.reduceLE, Int.reduceAdd, Int.reduceSub, Int.reduceMul, Int.reduceToNat, Int.cast_ofNat_Int, *]))))))))
  · have k1' : (3000 : Int) < n := by omega
    refine Con.intro Try.func7 rfl (Nat.le_of_ble_eq_true (by kernel_rfl)) (by kernel_rfl) Try.results7 ?_
    intro H h
    ((try simp only [S, TY, reduceCtorEq, Nat.reduceEqDiff, Nat.reduceAdd, Nat.reduceLeDiff, Nat.reduceBEq, Int.reduceBEq, Nat.reduceMul, Int.reduceEq, Int.reduceLT, Int.reduceLE, Int.reduceAdd, Int.reduceSub, Int.reduceMul, Int.reduceToNat, Int.cast_ofNat_Int, *]); (try (simp (disch := omega) only [W2, Int.cast_ofNat_Int]; (try simp only [S, TY, reduceCtorEq, Nat.reduceEqDiff, Nat.reduceAdd, Nat.reduceLeDiff, Nat.reduceBEq, Int.reduceBEq, Nat.reduceMul, Int.reduceEq, Int.reduceLT, Int.reduceLE, Int.reduceAdd, Int.reduceSub, Int.reduceMul, Int.reduceToNat, Int.cast_ofNat_Int, *]))); repeat ((first | (refine cl_drawi 5 D7_5 (List.range 9) (by decide) (by kernel_rfl) ?_; unfold D7_5) | (refine cl_drawi 10 D7_10 (List.range 14) (by decide) (by kernel_rfl) ?_; unfold D7_10)); simp only [S, TY, reduceCtorEq, Nat.reduceEqDiff, Nat.reduceAdd, Nat.reduceLeDiff, Nat.reduceBEq, Int.reduceBEq, Nat.reduceMul, Int.reduceEq, Int.reduceLT, Int.reduceLE, Int.reduceAdd, Int.reduceSub, Int.reduceMul, Int.reduceToNat, Int.cast_ofNat_Int, *]; (try (simp (disch := omega) only [W2, Int.cast_ofNat_Int]; (try simp only [S, TY, reduceCtorEq, Nat.reduceEqDiff, Nat.reduceAdd, Nat.reduceLeDiff, Nat.reduceBEq, Int.reduceBEq, Nat.reduceMul, Int.reduceEq, Int.reduceLT, Int.reduceLE, Int.reduceAdd, Int.reduceSub, Int.reduceMul, Int.reduceToNat, Int.cast_ofNat_Int, *])))))
    repeat' (((first
        | ((with_reducible show CallsH _ _ 38 _ _ _); first | (refine (alive).at_ h [] _ rfl (fun r B H' hr h' => ?_); obtain ⟨rfl, rfl⟩ := hr; skip))
        | ((with_reducible show fin _ _ _); first | (exact fin_take (B := []) h ⟨rfl, rfl⟩))
        | ((with_reducible show New _ _ _); first | (refine New_sl h 1 rfl (fun b H' h' => ?_); skip) | (refine New_qsl h 1 rfl (fun b => rfl) (fun b H' h' => ?_); skip) | (refine New_ob h (fun b H' h' => ?_); skip) | (refine New_qob h (fun b H' h' => ?_); skip))
        | ((with_reducible show St _ _); first | (refine sg.st (h.front 0) rfl rfl (fun H' h' => ?_); skip) | (refine sg.st (h.front 1) rfl rfl (fun H' h' => ?_); skip) | (refine sg.st (h.front 2) rfl rfl (fun H' h' => ?_); skip) | (refine sg.st (h.front 3) rfl rfl (fun H' h' => ?_); skip) | (refine sg.st (h.front 4) rfl rfl (fun H' h' => ?_); skip) | (refine sg.st (h.front 5) rfl rfl (fun H' h' => ?_); skip) | (refine sg.st (h.front 6) rfl rfl (fun H' h' => ?_); skip) | (refine sg.st (h.front 7) rfl rfl (fun H' h' => ?_); skip) | (refine sg.st (h.front 8) rfl rfl (fun H' h' => ?_); skip) | (refine sg.st (h.front 9) rfl rfl (fun H' h' => ?_); skip) | (refine sg.st (h.front 10) rfl rfl (fun H' h' => ?_); skip) | (refine sg.st (h.front 11) rfl rfl (fun H' h' => ?_); skip))
        | ((with_reducible show Gate _ _ _); refine Gate.intro (fun g => ?_) (fun g => ?_) <;> (try subst g))
        ) <;> ((try ((try simp only [front_eq, fronts_nil, fronts_cons, List.getElem?_cons_zero, List.getElem?_cons_succ, List.eraseIdx_cons_zero, List.eraseIdx_cons_succ, List.cons_append, List.nil_append, putL_cons, putL_nil, List.set_cons_zero, List.set_cons_succ, Nat.reduceAdd] at h'); clear h; have h := h'; clear h'; (try have fc := h.ci 0 rfl); (try have fl := h.li 0 rfl); (try have fc := h.ci 1 rfl); (try have fl := h.li 1 rfl); (try have fc := h.ci 2 rfl); (try have fl := h.li 2 rfl); (try have fc := h.ci 3 rfl); (try have fl := h.li 3 rfl); (try have fc := h.ci 4 rfl); (try have fl := h.li 4 rfl); (try have fc := h.ci 5 rfl); (try have fl := h.li 5 rfl); (try have fc := h.ci 6 rfl); (try have fl := h.li 6 rfl); (try have fc := h.ci 7 rfl); (try have fl := h.li 7 rfl); (try have fc := h.ci 8 rfl); (try have fl := h.li 8 rfl); (try have fc := h.ci 9 rfl); (try have fl := h.li 9 rfl); (try have fc := h.ci 10 rfl); (try have fl := h.li 10 rfl); (try have fc := h.ci 11 rfl); (try have fl := h.li 11 rfl))); ((try simp only [S, TY, reduceCtorEq, Nat.reduceEqDiff, Nat.reduceAdd, Nat.reduceLeDiff, Nat.reduceBEq, Int.reduceBEq, Nat.reduceMul, Int.reduceEq, Int.reduceLT, Int.reduceLE, Int.reduceAdd, Int.reduceSub, Int.reduceMul, Int.reduceToNat, Int.cast_ofNat_Int, *]); (try (simp (disch := omega) only [W2, Int.cast_ofNat_Int]; (try simp only [S, TY, reduceCtorEq, Nat.reduceEqDiff, Nat.reduceAdd, Nat.reduceLeDiff, Nat.reduceBEq, Int.reduceBEq, Nat.reduceMul, Int.reduceEq, Int.reduceLT, Int.reduceLE, Int.reduceAdd, Int.reduceSub, Int.reduceMul, Int.reduceToNat, Int.cast_ofNat_Int, *]))); repeat ((first | (refine cl_drawi 5 D7_5 (List.range 9) (by decide) (by kernel_rfl) ?_; unfold D7_5) | (refine cl_drawi 10 D7_10 (List.range 14) (by decide) (by kernel_rfl) ?_; unfold D7_10)); simp only [S, TY, reduceCtorEq, Nat.reduceEqDiff, Nat.reduceAdd, Nat.reduceLeDiff, Nat.reduceBEq, Int.reduceBEq, Nat.reduceMul, Int.reduceEq, Int.reduceLT, Int.reduceLE, Int.reduceAdd, Int.reduceSub, Int.reduceMul, Int.reduceToNat, Int.cast_ofNat_Int, *]; (try (simp (disch := omega) only [W2, Int.cast_ofNat_Int]; (try simp only [S, TY, reduceCtorEq, Nat.reduceEqDiff, Nat.reduceAdd, Nat.reduceLeDiff, Nat.reduceBEq, Int.reduceBEq, Nat.reduceMul, Int.reduceEq, Int.reduceLT, Int.reduceLE, Int.reduceAdd, Int.reduceSub, Int.reduceMul, Int.reduceToNat, Int.cast_ofNat_Int, *]))))))))
theorem bytesV {G : Hp} {v0 : Value} {y0 : Ty.bytes.den} (h0 : Ty.V G .bytes v0 y0) : Con Try.prog G 7 [v0] [] (fun r B => r = .bool true ∧ B = []) := by
  rcases h0 with ⟨h, _⟩ | ⟨_, w, h0, hv⟩
  · cases h
  cases h0
  exact bytes hv
end Go.Proofs.Ytfdcllpedfifpaa.ArpL
