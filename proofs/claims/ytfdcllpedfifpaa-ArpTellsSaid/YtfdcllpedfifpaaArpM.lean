/- The law on what arps tell. -/
import Derived.Test.YtfdcllpedfifpaaArpL
set_option linter.unusedVariables false
set_option linter.unusedSimpArgs false
set_option maxRecDepth 10000
set_option maxHeartbeats 4000000
namespace Go.Proofs.Ytfdcllpedfifpaa.ArpM
open Go Go.Sl Go.Proofs Go.Proofs.Ytfdcllpedfifpaa.Buf Go.Proofs.Ytfdcllpedfifpaa.BufRd Go.Proofs.Ytfdcllpedfifpaa.BufRe Go.Proofs.Ytfdcllpedfifpaa.BufP Go.Proofs.Ytfdcllpedfifpaa.BufG Go.Proofs.Ytfdcllpedfifpaa.BufOne Go.Proofs.Ytfdcllpedfifpaa.Wr Go.Proofs.Ytfdcllpedfifpaa.Eth Go.Proofs.Ytfdcllpedfifpaa.EthR Go.Proofs.Ytfdcllpedfifpaa.Arp Go.Proofs.Ytfdcllpedfifpaa.ArpA Go.Proofs.Ytfdcllpedfifpaa.ArpR Go.Proofs.Ytfdcllpedfifpaa.ArpL
theorem TY : aggN Try.prog 3 = some none ∧
  aggN Try.prog 4 = some none ∧
  aggN Try.prog 5 = some none ∧
  aggN Try.prog 9 = some none ∧
  aggN Try.prog 29 = some none ∧
  aggN Try.prog 33 = some none ∧
  aggN Try.prog 47 = some none ∧
  aggN Try.prog 49 = some (some 4) ∧
  aggN Try.prog 63 = some (some 5) ∧
  aggN Try.prog 69 = some (some 5) ∧
  apI Try.prog 33 = some (5, 1, 1) ∧
  bIs Try.prog 49 = true ∧
  bIs Try.prog 63 = true ∧
  bIs Try.prog 69 = true ∧
  boIs Try.prog 4 = true ∧
  bySl Try.prog 33 = true ∧
  csz Try.prog 3 = some 1 ∧
  csz Try.prog 4 = some 1 ∧
  csz Try.prog 5 = some 1 ∧
  csz Try.prog 9 = some 1 ∧
  csz Try.prog 29 = some 1 ∧
  csz Try.prog 33 = some 1 ∧
  csz Try.prog 47 = some 1 ∧
  csz Try.prog 49 = some 4 ∧
  csz Try.prog 63 = some 5 ∧
  csz Try.prog 69 = some 5 ∧
  eqF Try.prog 63 = some [.i, .i, .i, .i, .i] ∧
  eqF Try.prog 69 = some [.i, .i, .i, .i, .i] ∧
  goes Try.prog 26 = true ∧
  goes Try.prog 31 = true ∧
  goes Try.prog 38 = true ∧
  goes Try.prog 39 = true ∧
  goes Try.prog 40 = true ∧
  goes Try.prog 41 = true ∧
  goes Try.prog 42 = true ∧
  goes Try.prog 43 = true ∧
  goes Try.prog 44 = true ∧
  goes Try.prog 45 = true ∧
  goes Try.prog 46 = true ∧
  goes Try.prog 47 = true ∧
  inIs Try.prog 3 = some .i64 ∧
  inIs Try.prog 5 = some .u8 ∧
  inIs Try.prog 29 = some .i64 ∧
  inIs Try.prog 47 = some .u64 ∧
  plcs Try.prog 49 = [(0, 1), (1, 1), (2, 1), (3, 1)] ∧
  plcs Try.prog 63 = [(0, 1), (1, 1), (2, 1), (3, 1), (4, 1)] ∧
  plcs Try.prog 69 = [(0, 1), (1, 1), (2, 1), (3, 1), (4, 1)] ∧
  slEl Try.prog 33 = 5 ∧
  slIs Try.prog 33 = true ∧
  slSz Try.prog 33 = 1 ∧
  stIs Try.prog 9 = true ∧
  zcs Try.prog 49 = [.int .u64 0, .int .u64 0, .int .i64 0, .slice none 0 0] ∧
  zcs Try.prog 63 = [.int .i64 0, .int .u64 0, .int .u64 0, .int .u32 0, .int .u32 0] ∧
  zcs Try.prog 69 = [.int .i64 0, .int .u64 0, .int .u64 0, .int .u32 0, .int .u32 0] ∧
  zro Try.prog 3 = some (.int .i64 0) ∧
  zro Try.prog 4 = some (.bool false) ∧
  zro Try.prog 5 = some (.int .u8 0) ∧
  zro Try.prog 9 = some (.string ByteArray.empty) ∧
  zro Try.prog 29 = some (.int .i64 0) ∧
  zro Try.prog 33 = some (.slice none 0 0) ∧
  zro Try.prog 47 = some (.int .u64 0) ∧
  zro Try.prog 49 = some (.agg #[.int .u64 0, .int .u64 0, .int .i64 0, .slice none 0 0]) ∧
  zro Try.prog 63 = some (.agg #[.int .i64 0, .int .u64 0, .int .u64 0, .int .u32 0, .int .u32 0]) ∧
  zro Try.prog 69 = some (.agg #[.int .i64 0, .int .u64 0, .int .u64 0, .int .u32 0, .int .u32 0]) :=
  ⟨by kernel_rfl, by kernel_rfl, by kernel_rfl, by kernel_rfl, by kernel_rfl, by kernel_rfl, by kernel_rfl, by kernel_rfl, by kernel_rfl, by kernel_rfl, by kernel_rfl, by kernel_rfl, by kernel_rfl, by kernel_rfl, by kernel_rfl, by kernel_rfl, by kernel_rfl, by kernel_rfl, by kernel_rfl, by kernel_rfl, by kernel_rfl, by kernel_rfl, by kernel_rfl, by kernel_rfl, by kernel_rfl, by kernel_rfl, by kernel_rfl, by kernel_rfl, by kernel_rfl, by kernel_rfl, by kernel_rfl, by kernel_rfl, by kernel_rfl, by kernel_rfl, by kernel_rfl, by kernel_rfl, by kernel_rfl, by kernel_rfl, by kernel_rfl, by kernel_rfl, by kernel_rfl, by kernel_rfl, by kernel_rfl, by kernel_rfl, by kernel_rfl, by kernel_rfl, by kernel_rfl, by kernel_rfl, by kernel_rfl, by kernel_rfl, by kernel_rfl, by kernel_rfl, by kernel_rfl, by kernel_rfl, by kernel_rfl, by kernel_rfl, by kernel_rfl, by kernel_rfl, by kernel_rfl, by kernel_rfl, by kernel_rfl, by kernel_rfl, by kernel_rfl, by kernel_rfl⟩
def D6_19 : List Note := Go.Sl.nn [3, 0, 0, 0, 0, 0, 0] ++ ([(1, [0])] ++ ([(1, [0])] ++ ([(3, [7])] ++ ([(3, [7])] ++ ([(1, [0, 9, 10])] ++ (Go.Sl.nn [0, 0, 0, 0, 0, 0, 0] ++ ([(1, [0, 9, 10])] ++ ([(1, [0, 9, 10])] ++ (Go.Sl.nn [0, 0, 0])))))))))
theorem ann_form (d s t : Int) (l : List UInt8) : ∃ (x : Int) (b : Bool), annV d s t l = .tuple #[.int .u64 x, .bool b] := by
  unfold annV
  split
  · exact ⟨_, _, rfl⟩
  · exact ⟨_, _, rfl⟩
theorem tells {G : Hp} {v : Value} {l : List UInt8} (op sha tha spa tpa d s t mac : Int) (h1 : 0 ≤ sha) (h2 : 0 ≤ tha) (h3 : 0 ≤ spa ∧ spa < 4294967296) (h4 : 0 ≤ tpa ∧ tpa < 4294967296)
    (ht : -9223372036854775808 ≤ t ∧ t ≤ 9223372036854775807) (hm : 0 ≤ mac ∧ mac < 18446744073709551616) (hv : rds G 1 v (bv l)) : Con Try.prog G 6 [arv op sha tha spa tpa, frv d s t v, .int .u64 mac] [] (fun r B => r = .bool true ∧ B = []) := by
  obtain ⟨a, n, c, rfl, e1, e2⟩ := hv.slice
  rw [bv_length, Nat.mul_one] at e1
  subst e1
  obtain ⟨ax, ab, hav⟩ := ann_form d s t l
  by_cases k1 : l.length ≤ 3000
  · by_cases k2 : mac ≤ 281474976710655
    · have hA1 : annV 281474976710655 mac 32821 (arpEnc 3 mac mac 0 0) = .tuple #[.int .u64 mac, .bool true] := by
        have q1 := enc_dec (op := 3) (sha := mac) (tha := mac) (spa := 0) (tpa := 0) (by omega) (by omega) (by omega) (by unfold aright; rw [decide_eq_true_eq]; omega)
        rw [annV_yes, q1.2]
        · simp only [Int.toNat_of_nonneg hm.1]
        · refine ⟨?_, q1.1, ?_⟩
          · unfold right; rw [enc_len, decide_eq_true_eq]; omega
          · rw [q1.2]; exact .inl ⟨rfl, rfl⟩
      cases k3 : aright op sha tha with
      | false =>
        refine Con.intro Try.func6 rfl (Nat.le_of_ble_eq_true (by kernel_rfl)) (by kernel_rfl) Try.results6 ?_
        intro H h
        ((try simp only [S, TY, reduceCtorEq, Nat.reduceEqDiff, Nat.reduceAdd, Nat.reduceLeDiff, Nat.reduceBEq, Int.reduceBEq, Nat.reduceMul, Int.reduceEq, Int.reduceLT, Int.reduceLE, Int.reduceAdd, Int.reduceSub, Int.reduceMul, Int.reduceToNat, Int.cast_ofNat_Int, *]); (try (simp (disch := omega) only [W2, Int.cast_ofNat_Int]; (try simp only [S, TY, reduceCtorEq, Nat.reduceEqDiff, Nat.reduceAdd, Nat.reduceLeDiff, Nat.reduceBEq, Int.reduceBEq, Nat.reduceMul, Int.reduceEq, Int.reduceLT, Int.reduceLE, Int.reduceAdd, Int.reduceSub, Int.reduceMul, Int.reduceToNat, Int.cast_ofNat_Int, *]))); repeat ((first | (refine cl_drawi 19 D6_19 (List.range 24) (by decide) (by kernel_rfl) ?_; unfold D6_19)); simp only [S, TY, reduceCtorEq, Nat.reduceEqDiff, Nat.reduceAdd, Nat.reduceLeDiff, Nat.reduceBEq, Int.reduceBEq, Nat.reduceMul, Int.reduceEq, Int.reduceLT, Int.reduceLE, Int.reduceAdd, Int.reduceSub, Int.reduceMul, Int.reduceToNat, Int.cast_ofNat_Int, *]; (try (simp (disch := omega) only [W2, Int.cast_ofNat_Int]; (try simp only [S, TY, reduceCtorEq, Nat.reduceEqDiff, Nat.reduceAdd, Nat.reduceLeDiff, Nat.reduceBEq, Int.reduceBEq, Nat.reduceMul, Int.reduceEq, Int.reduceLT, Int.reduceLE, Int.reduceAdd, Int.reduceSub, Int.reduceMul, Int.reduceToNat, Int.cast_ofNat_Int, *])))))
        repeat' (((first
            | ((with_reducible show CallsH _ _ 38 _ _ _); first | (refine (alive).at_ h [] _ rfl (fun r B H' hr h' => ?_); obtain ⟨rfl, rfl⟩ := hr; skip))
            | ((with_reducible show CallsH _ _ 26 _ _ _); first | (refine (Fits2 _ _ _ hv).at_ h [] _ rfl (fun r B H' hr h' => ?_); obtain ⟨rfl, rfl⟩ := hr; skip))
            | ((with_reducible show CallsH _ _ 39 _ _ _); (with_reducible show CallsH _ _ _ #[Value.agg #[.int .u64 d, _, _, _]] _ _); refine (Announces_ok d s t ht hv (by omega)).at_ h [] _ rfl (fun r B H' hr h' => ?_); obtain ⟨rfl, rfl⟩ := hr; rw [hav]; skip)
            | ((with_reducible show CallsH _ _ 40 _ _ _); first | (refine (dAnnounces_ok d s t hv (by omega)).at_ h [] _ rfl (fun r B H' hr h' => ?_); obtain ⟨rfl, rfl⟩ := hr; rw [hav]; skip))
            | ((with_reducible show CallsH _ _ 45 _ _ _); first | (refine (Of_ok _ _ _ _ _).at_ h [] _ rfl (fun r B H' hr h' => ?_); obtain ⟨rfl, rfl⟩ := hr; skip))
            | ((with_reducible show CallsH _ _ 44 _ _ _); first | (refine (dRight_ok _ _ _ _ _).at_ h [] _ rfl (fun r B H' hr h' => ?_); obtain ⟨rfl, rfl⟩ := hr; skip))
            | ((with_reducible show CallsH _ _ 41 _ _ _); first | (refine (RARP_ok _ hm.1).at_ h [] _ rfl (fun r B H' hr h' => ?_); rw [if_pos k2] at hr; obtain ⟨u, rfl, rfl⟩ := hr; obtain ⟨ua, un, uc, rfl, _, _⟩ := h'.sl 0 rfl Rd_own; skip))
            | ((with_reducible show CallsH _ _ 42 _ _ _); first | (refine (dRARP_ok _ hm.1).at_ h [] _ rfl (fun r B H' hr h' => ?_); rw [if_pos k2] at hr; obtain ⟨u, rfl, rfl⟩ := hr; obtain ⟨ua, un, uc, rfl, _, _⟩ := h'.sl 0 rfl Rd_own; skip))
            | ((with_reducible show CallsH _ _ 31 _ _ _); first | (refine Con.lend_at [] [own 5 1 _ _, own 5 1 _ _] h [2, 0] rfl (fun F hF hs => dSame _ _ _ _ _ _ (seps_own hs 0 rfl).left (seps_own hs 1 rfl).left) (fun r B H' hr h' => ?_); obtain ⟨rfl, rfl⟩ := hr; skip) | (refine Con.lend_at [] [own 5 1 _ _, own 5 1 _ _] h [3, 1] rfl (fun F hF hs => dSame _ _ _ _ _ _ (seps_own hs 0 rfl).left (seps_own hs 1 rfl).left) (fun r B H' hr h' => ?_); obtain ⟨rfl, rfl⟩ := hr; skip))
            | ((with_reducible show CallsH _ _ 39 _ _ _); refine Con.lend_at [] [own 5 1 _ _] h [0] rfl (fun F hF hs => Announces_ok _ _ _ (by omega) (seps_own hs 0 rfl).left (by simp [enc_len])) (fun r B H' hr h' => ?_); obtain ⟨rfl, rfl⟩ := hr; rw [hA1]; skip)
            | ((with_reducible show CallsH _ _ 43 _ _ _); first | (refine (Arp.Encode_ok _ _ _ _ _ h1 h2 h3 h4).at_ h [] _ rfl (fun r B H' hr h' => ?_); unfold Arp.EncR at hr; rw [if_neg (by rw [k3]; decide)] at hr; obtain ⟨rfl, rfl⟩ := hr; skip))
            | ((with_reducible show fin _ _ _); first | (exact fin_take (B := []) h ⟨rfl, rfl⟩))
            | ((with_reducible show New _ _ _); first | (refine New_sl h 1 rfl (fun b H' h' => ?_); skip) | (refine New_qsl h 1 rfl (fun b => rfl) (fun b H' h' => ?_); skip) | (refine New_ob h (fun b H' h' => ?_); skip) | (refine New_qob h (fun b H' h' => ?_); skip))
            | ((with_reducible show St _ _); first | (refine sg.st (h.front 0) rfl rfl (fun H' h' => ?_); skip) | (refine sg.st (h.front 1) rfl rfl (fun H' h' => ?_); skip) | (refine sg.st (h.front 2) rfl rfl (fun H' h' => ?_); skip) | (refine sg.st (h.front 3) rfl rfl (fun H' h' => ?_); skip) | (refine sg.st (h.front 4) rfl rfl (fun H' h' => ?_); skip) | (refine sg.st (h.front 5) rfl rfl (fun H' h' => ?_); skip) | (refine sg.st (h.front 6) rfl rfl (fun H' h' => ?_); skip) | (refine sg.st (h.front 7) rfl rfl (fun H' h' => ?_); skip) | (refine sg.st (h.front 8) rfl rfl (fun H' h' => ?_); skip) | (refine sg.st (h.front 9) rfl rfl (fun H' h' => ?_); skip) | (refine sg.st (h.front 10) rfl rfl (fun H' h' => ?_); skip) | (refine sg.st (h.front 11) rfl rfl (fun H' h' => ?_); skip))
            | ((with_reducible show Gate _ _ _); refine Gate.intro (fun g => ?_) (fun g => ?_) <;> (try subst g))
            ) <;> ((try ((try simp only [front_eq, fronts_nil, fronts_cons, List.getElem?_cons_zero, List.getElem?_cons_succ, List.eraseIdx_cons_zero, List.eraseIdx_cons_succ, List.cons_append, List.nil_append, putL_cons, putL_nil, List.set_cons_zero, List.set_cons_succ, Nat.reduceAdd] at h'); clear h; have h := h'; clear h'; (try have fc := h.ci 0 rfl); (try have fl := h.li 0 rfl); (try have fc := h.ci 1 rfl); (try have fl := h.li 1 rfl); (try have fc := h.ci 2 rfl); (try have fl := h.li 2 rfl); (try have fc := h.ci 3 rfl); (try have fl := h.li 3 rfl); (try have fc := h.ci 4 rfl); (try have fl := h.li 4 rfl); (try have fc := h.ci 5 rfl); (try have fl := h.li 5 rfl); (try have fc := h.ci 6 rfl); (try have fl := h.li 6 rfl); (try have fc := h.ci 7 rfl); (try have fl := h.li 7 rfl); (try have fc := h.ci 8 rfl); (try have fl := h.li 8 rfl); (try have fc := h.ci 9 rfl); (try have fl := h.li 9 rfl); (try have fc := h.ci 10 rfl); (try have fl := h.li 10 rfl); (try have fc := h.ci 11 rfl); (try have fl := h.li 11 rfl); (try (have fs := rStr_of (P := Try.prog) (h.rdsi 0 rfl Rd_own))); (try (have ft := rStr_of (P := Try.prog) (h.rdsi 1 rfl Rd_own))))); ((try simp only [S, TY, reduceCtorEq, Nat.reduceEqDiff, Nat.reduceAdd, Nat.reduceLeDiff, Nat.reduceBEq, Int.reduceBEq, Nat.reduceMul, Int.reduceEq, Int.reduceLT, Int.reduceLE, Int.reduceAdd, Int.reduceSub, Int.reduceMul, Int.reduceToNat, Int.cast_ofNat_Int, *]); (try (simp (disch := omega) only [W2, Int.cast_ofNat_Int]; (try simp only [S, TY, reduceCtorEq, Nat.reduceEqDiff, Nat.reduceAdd, Nat.reduceLeDiff, Nat.reduceBEq, Int.reduceBEq, Nat.reduceMul, Int.reduceEq, Int.reduceLT, Int.reduceLE, Int.reduceAdd, Int.reduceSub, Int.reduceMul, Int.reduceToNat, Int.cast_ofNat_Int, *]))); repeat ((first | (refine cl_drawi 19 D6_19 (List.range 24) (by decide) (by kernel_rfl) ?_; unfold D6_19)); simp only [S, TY, reduceCtorEq, Nat.reduceEqDiff, Nat.reduceAdd, Nat.reduceLeDiff, Nat.reduceBEq, Int.reduceBEq, Nat.reduceMul, Int.reduceEq, Int.reduceLT, Int.reduceLE, Int.reduceAdd, Int.reduceSub, Int.reduceMul, Int.reduceToNat, Int.cast_ofNat_Int, *]; (try (simp (disch := omega) only [W2, Int.cast_ofNat_Int]; (try simp only [S, TY, reduceCtorEq, Nat.reduceEqDiff, Nat.reduceAdd, Nat.reduceLeDiff, Nat.reduceBEq, Int.reduceBEq, Nat.reduceMul, Int.reduceEq, Int.reduceLT, Int.reduceLE, Int.reduceAdd, Int.reduceSub, Int.reduceMul, Int.reduceToNat, Int.cast_ofNat_Int, *]))))))))
      | true =>
        have hdv := enc_dec ⟨h1, h2⟩ h3 h4 k3
        replace hdv : DecV (arpEnc op sha tha spa tpa) = .tuple #[arv op sha tha spa tpa, .int .i64 0] := by
          unfold aright at k3
          rw [decide_eq_true_eq] at k3
          unfold DecV
          rw [if_pos hdv.1, hdv.2]
          simp only [Ad.l, Int.toNat_of_nonneg h1, Int.toNat_of_nonneg h2, Int.toNat_of_nonneg h3.1, Int.toNat_of_nonneg h4.1, Int.toNat_of_nonneg k3.2.2.1]
        refine Con.intro Try.func6 rfl (Nat.le_of_ble_eq_true (by kernel_rfl)) (by kernel_rfl) Try.results6 ?_
        intro H h
        ((try simp only [S, TY, reduceCtorEq, Nat.reduceEqDiff, Nat.reduceAdd, Nat.reduceLeDiff, Nat.reduceBEq, Int.reduceBEq, Nat.reduceMul, Int.reduceEq, Int.reduceLT, Int.reduceLE, Int.reduceAdd, Int.reduceSub, Int.reduceMul, Int.reduceToNat, Int.cast_ofNat_Int, *]); (try (simp (disch := omega) only [W2, Int.cast_ofNat_Int]; (try simp only [S, TY, reduceCtorEq, Nat.reduceEqDiff, Nat.reduceAdd, Nat.reduceLeDiff, Nat.reduceBEq, Int.reduceBEq, Nat.reduceMul, Int.reduceEq, Int.reduceLT, Int.reduceLE, Int.reduceAdd, Int.reduceSub, Int.reduceMul, Int.reduceToNat, Int.cast_ofNat_Int, *]))); repeat ((first | (refine cl_drawi 19 D6_19 (List.range 24) (by decide) (by kernel_rfl) ?_; unfold D6_19)); simp only [S, TY, reduceCtorEq, Nat.reduceEqDiff, Nat.reduceAdd, Nat.reduceLeDiff, Nat.reduceBEq, Int.reduceBEq, Nat.reduceMul, Int.reduceEq, Int.reduceLT, Int.reduceLE, Int.reduceAdd, Int.reduceSub, Int.reduceMul, Int.reduceToNat, Int.cast_ofNat_Int, *]; (try (simp (disch := omega) only [W2, Int.cast_ofNat_Int]; (try simp only [S, TY, reduceCtorEq, Nat.reduceEqDiff, Nat.reduceAdd, Nat.reduceLeDiff, Nat.reduceBEq, Int.reduceBEq, Nat.reduceMul, Int.reduceEq, Int.reduceLT, Int.reduceLE, Int.reduceAdd, Int.reduceSub, Int.reduceMul, Int.reduceToNat, Int.cast_ofNat_Int, *])))))
        repeat' (((first
            | ((with_reducible show CallsH _ _ 38 _ _ _); first | (refine (alive).at_ h [] _ rfl (fun r B H' hr h' => ?_); obtain ⟨rfl, rfl⟩ := hr; skip))
            | ((with_reducible show CallsH _ _ 26 _ _ _); first | (refine (Fits2 _ _ _ hv).at_ h [] _ rfl (fun r B H' hr h' => ?_); obtain ⟨rfl, rfl⟩ := hr; skip))
            | ((with_reducible show CallsH _ _ 39 _ _ _); (with_reducible show CallsH _ _ _ #[Value.agg #[.int .u64 d, _, _, _]] _ _); refine (Announces_ok d s t ht hv (by omega)).at_ h [] _ rfl (fun r B H' hr h' => ?_); obtain ⟨rfl, rfl⟩ := hr; rw [hav]; skip)
            | ((with_reducible show CallsH _ _ 40 _ _ _); first | (refine (dAnnounces_ok d s t hv (by omega)).at_ h [] _ rfl (fun r B H' hr h' => ?_); obtain ⟨rfl, rfl⟩ := hr; rw [hav]; skip))
            | ((with_reducible show CallsH _ _ 45 _ _ _); first | (refine (Of_ok _ _ _ _ _).at_ h [] _ rfl (fun r B H' hr h' => ?_); obtain ⟨rfl, rfl⟩ := hr; skip))
            | ((with_reducible show CallsH _ _ 44 _ _ _); first | (refine (dRight_ok _ _ _ _ _).at_ h [] _ rfl (fun r B H' hr h' => ?_); obtain ⟨rfl, rfl⟩ := hr; skip))
            | ((with_reducible show CallsH _ _ 41 _ _ _); first | (refine (RARP_ok _ hm.1).at_ h [] _ rfl (fun r B H' hr h' => ?_); rw [if_pos k2] at hr; obtain ⟨u, rfl, rfl⟩ := hr; obtain ⟨ua, un, uc, rfl, _, _⟩ := h'.sl 0 rfl Rd_own; skip))
            | ((with_reducible show CallsH _ _ 42 _ _ _); first | (refine (dRARP_ok _ hm.1).at_ h [] _ rfl (fun r B H' hr h' => ?_); rw [if_pos k2] at hr; obtain ⟨u, rfl, rfl⟩ := hr; obtain ⟨ua, un, uc, rfl, _, _⟩ := h'.sl 0 rfl Rd_own; skip))
            | ((with_reducible show CallsH _ _ 31 _ _ _); first | (refine Con.lend_at [] [own 5 1 _ _, own 5 1 _ _] h [2, 0] rfl (fun F hF hs => dSame _ _ _ _ _ _ (seps_own hs 0 rfl).left (seps_own hs 1 rfl).left) (fun r B H' hr h' => ?_); obtain ⟨rfl, rfl⟩ := hr; skip) | (refine Con.lend_at [] [own 5 1 _ _, own 5 1 _ _] h [3, 1] rfl (fun F hF hs => dSame _ _ _ _ _ _ (seps_own hs 0 rfl).left (seps_own hs 1 rfl).left) (fun r B H' hr h' => ?_); obtain ⟨rfl, rfl⟩ := hr; skip))
            | ((with_reducible show CallsH _ _ 39 _ _ _); refine Con.lend_at [] [own 5 1 _ _] h [0] rfl (fun F hF hs => Announces_ok _ _ _ (by omega) (seps_own hs 0 rfl).left (by simp [enc_len])) (fun r B H' hr h' => ?_); obtain ⟨rfl, rfl⟩ := hr; rw [hA1]; skip)
            | ((with_reducible show CallsH _ _ 43 _ _ _); first | (refine (Arp.Encode_ok _ _ _ _ _ h1 h2 h3 h4).at_ h [] _ rfl (fun r B H' hr h' => ?_); unfold Arp.EncR at hr; rw [if_pos k3] at hr; obtain ⟨u, rfl, rfl⟩ := hr; obtain ⟨ua, un, uc, rfl, _, _⟩ := h'.sl 0 rfl Rd_own; skip))
            | ((with_reducible show CallsH _ _ 46 _ _ _); refine Con.lend_at [] [own 5 1 _ _] h [0] rfl (fun F hF hs => Decode_ok (seps_own hs 0 rfl).left (by rw [enc_len]; omega)) (fun r B H' hr h' => ?_); obtain ⟨rfl, rfl⟩ := hr; rw [hdv]; skip)
            | ((with_reducible show CallsH _ _ 47 _ _ _); first | (refine (dBytes_ok _ _ _ _ _ h1 h2 h3 h4 k3).at_ h [] _ rfl (fun r B H' hr h' => ?_); subst hr; obtain ⟨ua, un, uc, rfl, _, _⟩ := h'.sl 0 rfl Rd_own; skip))
            | ((with_reducible show fin _ _ _); first | (exact fin_take (B := []) h ⟨rfl, rfl⟩))
            | ((with_reducible show New _ _ _); first | (refine New_sl h 1 rfl (fun b H' h' => ?_); skip) | (refine New_qsl h 1 rfl (fun b => rfl) (fun b H' h' => ?_); skip) | (refine New_ob h (fun b H' h' => ?_); skip) | (refine New_qob h (fun b H' h' => ?_); skip))
            | ((with_reducible show St _ _); first | (refine sg.st (h.front 0) rfl rfl (fun H' h' => ?_); skip) | (refine sg.st (h.front 1) rfl rfl (fun H' h' => ?_); skip) | (refine sg.st (h.front 2) rfl rfl (fun H' h' => ?_); skip) | (refine sg.st (h.front 3) rfl rfl (fun H' h' => ?_); skip) | (refine sg.st (h.front 4) rfl rfl (fun H' h' => ?_); skip) | (refine sg.st (h.front 5) rfl rfl (fun H' h' => ?_); skip) | (refine sg.st (h.front 6) rfl rfl (fun H' h' => ?_); skip) | (refine sg.st (h.front 7) rfl rfl (fun H' h' => ?_); skip) | (refine sg.st (h.front 8) rfl rfl (fun H' h' => ?_); skip) | (refine sg.st (h.front 9) rfl rfl (fun H' h' => ?_); skip) | (refine sg.st (h.front 10) rfl rfl (fun H' h' => ?_); skip) | (refine sg.st (h.front 11) rfl rfl (fun H' h' => ?_); skip))
            | ((with_reducible show Gate _ _ _); refine Gate.intro (fun g => ?_) (fun g => ?_) <;> (try subst g))
            ) <;> ((try ((try simp only [front_eq, fronts_nil, fronts_cons, List.getElem?_cons_zero, List.getElem?_cons_succ, List.eraseIdx_cons_zero, List.eraseIdx_cons_succ, List.cons_append, List.nil_append, putL_cons, putL_nil, List.set_cons_zero, List.set_cons_succ, Nat.reduceAdd] at h'); clear h; have h := h'; clear h'; (try have fc := h.ci 0 rfl); (try have fl := h.li 0 rfl); (try have fc := h.ci 1 rfl); (try have fl := h.li 1 rfl); (try have fc := h.ci 2 rfl); (try have fl := h.li 2 rfl); (try have fc := h.ci 3 rfl); (try have fl := h.li 3 rfl); (try have fc := h.ci 4 rfl); (try have fl := h.li 4 rfl); (try have fc := h.ci 5 rfl); (try have fl := h.li 5 rfl); (try have fc := h.ci 6 rfl); (try have fl := h.li 6 rfl); (try have fc := h.ci 7 rfl); (try have fl := h.li 7 rfl); (try have fc := h.ci 8 rfl); (try have fl := h.li 8 rfl); (try have fc := h.ci 9 rfl); (try have fl := h.li 9 rfl); (try have fc := h.ci 10 rfl); (try have fl := h.li 10 rfl); (try have fc := h.ci 11 rfl); (try have fl := h.li 11 rfl); (try (have fs := rStr_of (P := Try.prog) (h.rdsi 0 rfl Rd_own))); (try (have ft := rStr_of (P := Try.prog) (h.rdsi 1 rfl Rd_own))); (try (have fr := rStr_of (P := Try.prog) (h.rdsi 2 rfl Rd_own))))); ((try simp only [S, TY, reduceCtorEq, Nat.reduceEqDiff, Nat.reduceAdd, Nat.reduceLeDiff, Nat.reduceBEq, Int.reduceBEq, Nat.reduceMul, Int.reduceEq, Int.reduceLT, Int.reduceLE, Int.reduceAdd, Int.reduceSub, Int.reduceMul, Int.reduceToNat, Int.cast_ofNat_Int, *]); (try (simp (disch := omega) only [W2, Int.cast_ofNat_Int]; (try simp only [S, TY, reduceCtorEq, Nat.reduceEqDiff, Nat.reduceAdd, Nat.reduceLeDiff, Nat.reduceBEq, Int.reduceBEq, Nat.reduceMul, Int.reduceEq, Int.reduceLT, Int.reduceLE, Int.reduceAdd, Int.reduceSub, Int.reduceMul, Int.reduceToNat, Int.cast_ofNat_Int, *]))); repeat ((first | (refine cl_drawi 19 D6_19 (List.range 24) (by decide) (by kernel_rfl) ?_; unfold D6_19)); simp only [S, TY, reduceCtorEq, Nat.reduceEqDiff, Nat.reduceAdd, Nat.reduceLeDiff, Nat.reduceBEq, Int.reduceBEq, Nat.reduceMul, Int.reduceEq, Int.reduceLT, Int.reduceLE, Int.reduceAdd, Int.reduceSub, Int.reduceMul, Int.reduceToNat, Int.cast_ofNat_Int, *]; (try (simp (disch := omega) only [W2, Int.cast_ofNat_Int]; (try simp only [S, TY, reduceCtorEq, Nat.reduceEqDiff, Nat.reduceAdd, Nat.reduceLeDiff, Nat.reduceBEq, Int.reduceBEq, Nat.reduceMul, Int.reduceEq, Int.reduceLT, Int.reduceLE, Int.reduceAdd, Int.reduceSub, Int.reduceMul, Int.reduceToNat, Int.cast_ofNat_Int, *]))))))))
    · have hA2 : annV 0 0 0 [] = .tuple #[.int .u64 0, .bool false] := by
        rw [annV_no]; rintro ⟨_, h, _⟩; exact absurd h.1 (by decide)
      cases k3 : aright op sha tha with
      | false =>
        refine Con.intro Try.func6 rfl (Nat.le_of_ble_eq_true (by kernel_rfl)) (by kernel_rfl) Try.results6 ?_
        intro H h
        ((try simp only [S, TY, reduceCtorEq, Nat.reduceEqDiff, Nat.reduceAdd, Nat.reduceLeDiff, Nat.reduceBEq, Int.reduceBEq, Nat.reduceMul, Int.reduceEq, Int.reduceLT, Int.reduceLE, Int.reduceAdd, Int.reduceSub, Int.reduceMul, Int.reduceToNat, Int.cast_ofNat_Int, *]); (try (simp (disch := omega) only [W2, Int.cast_ofNat_Int]; (try simp only [S, TY, reduceCtorEq, Nat.reduceEqDiff, Nat.reduceAdd, Nat.reduceLeDiff, Nat.reduceBEq, Int.reduceBEq, Nat.reduceMul, Int.reduceEq, Int.reduceLT, Int.reduceLE, Int.reduceAdd, Int.reduceSub, Int.reduceMul, Int.reduceToNat, Int.cast_ofNat_Int, *]))); repeat ((first | (refine cl_drawi 19 D6_19 (List.range 24) (by decide) (by kernel_rfl) ?_; unfold D6_19)); simp only [S, TY, reduceCtorEq, Nat.reduceEqDiff, Nat.reduceAdd, Nat.reduceLeDiff, Nat.reduceBEq, Int.reduceBEq, Nat.reduceMul, Int.reduceEq, Int.reduceLT, Int.reduceLE, Int.reduceAdd, Int.reduceSub, Int.reduceMul, Int.reduceToNat, Int.cast_ofNat_Int, *]; (try (simp (disch := omega) only [W2, Int.cast_ofNat_Int]; (try simp only [S, TY, reduceCtorEq, Nat.reduceEqDiff, Nat.reduceAdd, Nat.reduceLeDiff, Nat.reduceBEq, Int.reduceBEq, Nat.reduceMul, Int.reduceEq, Int.reduceLT, Int.reduceLE, Int.reduceAdd, Int.reduceSub, Int.reduceMul, Int.reduceToNat, Int.cast_ofNat_Int, *])))))
        repeat' (((first
            | ((with_reducible show CallsH _ _ 38 _ _ _); first | (refine (alive).at_ h [] _ rfl (fun r B H' hr h' => ?_); obtain ⟨rfl, rfl⟩ := hr; skip))
            | ((with_reducible show CallsH _ _ 26 _ _ _); first | (refine (Fits2 _ _ _ hv).at_ h [] _ rfl (fun r B H' hr h' => ?_); obtain ⟨rfl, rfl⟩ := hr; skip))
            | ((with_reducible show CallsH _ _ 39 _ _ _); (with_reducible show CallsH _ _ _ #[Value.agg #[.int .u64 d, _, _, _]] _ _); refine (Announces_ok d s t ht hv (by omega)).at_ h [] _ rfl (fun r B H' hr h' => ?_); obtain ⟨rfl, rfl⟩ := hr; rw [hav]; skip)
            | ((with_reducible show CallsH _ _ 40 _ _ _); first | (refine (dAnnounces_ok d s t hv (by omega)).at_ h [] _ rfl (fun r B H' hr h' => ?_); obtain ⟨rfl, rfl⟩ := hr; rw [hav]; skip))
            | ((with_reducible show CallsH _ _ 45 _ _ _); first | (refine (Of_ok _ _ _ _ _).at_ h [] _ rfl (fun r B H' hr h' => ?_); obtain ⟨rfl, rfl⟩ := hr; skip))
            | ((with_reducible show CallsH _ _ 44 _ _ _); first | (refine (dRight_ok _ _ _ _ _).at_ h [] _ rfl (fun r B H' hr h' => ?_); obtain ⟨rfl, rfl⟩ := hr; skip))
            | ((with_reducible show CallsH _ _ 41 _ _ _); first | (refine (RARP_ok _ hm.1).at_ h [] _ rfl (fun r B H' hr h' => ?_); rw [if_neg k2] at hr; obtain ⟨rfl, rfl⟩ := hr; skip))
            | ((with_reducible show CallsH _ _ 42 _ _ _); first | (refine (dRARP_ok _ hm.1).at_ h [] _ rfl (fun r B H' hr h' => ?_); rw [if_neg k2] at hr; obtain ⟨rfl, rfl⟩ := hr; skip))
            | ((with_reducible show CallsH _ _ 31 _ _ _); first | (refine (dSame _ _ _ _ _ _ (l := []) (m := []) ⟨none, 0, 0, rfl, rfl, Nat.le_refl _, .inl rfl⟩ ⟨none, 0, 0, rfl, rfl, Nat.le_refl _, .inl rfl⟩).at_ h [] _ rfl (fun r B H' hr h' => ?_); obtain ⟨rfl, rfl⟩ := hr; skip))
            | ((with_reducible show CallsH _ _ 39 _ _ _); first | (refine (Announces_ok _ _ _ (by omega) (l := []) ⟨none, 0, 0, rfl, rfl, Nat.le_refl _, .inl rfl⟩ (by simp)).at_ h [] _ rfl (fun r B H' hr h' => ?_); obtain ⟨rfl, rfl⟩ := hr; rw [hA2]; skip))
            | ((with_reducible show CallsH _ _ 43 _ _ _); first | (refine (Arp.Encode_ok _ _ _ _ _ h1 h2 h3 h4).at_ h [] _ rfl (fun r B H' hr h' => ?_); unfold Arp.EncR at hr; rw [if_neg (by rw [k3]; decide)] at hr; obtain ⟨rfl, rfl⟩ := hr; skip))
            | ((with_reducible show fin _ _ _); first | (exact fin_take (B := []) h ⟨rfl, rfl⟩))
            | ((with_reducible show New _ _ _); first | (refine New_sl h 1 rfl (fun b H' h' => ?_); skip) | (refine New_qsl h 1 rfl (fun b => rfl) (fun b H' h' => ?_); skip) | (refine New_ob h (fun b H' h' => ?_); skip) | (refine New_qob h (fun b H' h' => ?_); skip))
            | ((with_reducible show St _ _); first | (refine sg.st (h.front 0) rfl rfl (fun H' h' => ?_); skip) | (refine sg.st (h.front 1) rfl rfl (fun H' h' => ?_); skip) | (refine sg.st (h.front 2) rfl rfl (fun H' h' => ?_); skip) | (refine sg.st (h.front 3) rfl rfl (fun H' h' => ?_); skip) | (refine sg.st (h.front 4) rfl rfl (fun H' h' => ?_); skip) | (refine sg.st (h.front 5) rfl rfl (fun H' h' => ?_); skip) | (refine sg.st (h.front 6) rfl rfl (fun H' h' => ?_); skip) | (refine sg.st (h.front 7) rfl rfl (fun H' h' => ?_); skip) | (refine sg.st (h.front 8) rfl rfl (fun H' h' => ?_); skip) | (refine sg.st (h.front 9) rfl rfl (fun H' h' => ?_); skip) | (refine sg.st (h.front 10) rfl rfl (fun H' h' => ?_); skip) | (refine sg.st (h.front 11) rfl rfl (fun H' h' => ?_); skip))
            | ((with_reducible show Gate _ _ _); refine Gate.intro (fun g => ?_) (fun g => ?_) <;> (try subst g))
            ) <;> ((try ((try simp only [front_eq, fronts_nil, fronts_cons, List.getElem?_cons_zero, List.getElem?_cons_succ, List.eraseIdx_cons_zero, List.eraseIdx_cons_succ, List.cons_append, List.nil_append, putL_cons, putL_nil, List.set_cons_zero, List.set_cons_succ, Nat.reduceAdd] at h'); clear h; have h := h'; clear h'; (try have fc := h.ci 0 rfl); (try have fl := h.li 0 rfl); (try have fc := h.ci 1 rfl); (try have fl := h.li 1 rfl); (try have fc := h.ci 2 rfl); (try have fl := h.li 2 rfl); (try have fc := h.ci 3 rfl); (try have fl := h.li 3 rfl); (try have fc := h.ci 4 rfl); (try have fl := h.li 4 rfl); (try have fc := h.ci 5 rfl); (try have fl := h.li 5 rfl); (try have fc := h.ci 6 rfl); (try have fl := h.li 6 rfl); (try have fc := h.ci 7 rfl); (try have fl := h.li 7 rfl); (try have fc := h.ci 8 rfl); (try have fl := h.li 8 rfl); (try have fc := h.ci 9 rfl); (try have fl := h.li 9 rfl); (try have fc := h.ci 10 rfl); (try have fl := h.li 10 rfl); (try have fc := h.ci 11 rfl); (try have fl := h.li 11 rfl); (try (have fs := rStr_of (P := Try.prog) (h.rdsi 0 rfl Rd_own))); (try (have ft := rStr_of (P := Try.prog) (h.rdsi 1 rfl Rd_own))))); ((try simp only [S, TY, reduceCtorEq, Nat.reduceEqDiff, Nat.reduceAdd, Nat.reduceLeDiff, Nat.reduceBEq, Int.reduceBEq, Nat.reduceMul, Int.reduceEq, Int.reduceLT, Int.reduceLE, Int.reduceAdd, Int.reduceSub, Int.reduceMul, Int.reduceToNat, Int.cast_ofNat_Int, *]); (try (simp (disch := omega) only [W2, Int.cast_ofNat_Int]; (try simp only [S, TY, reduceCtorEq, Nat.reduceEqDiff, Nat.reduceAdd, Nat.reduceLeDiff, Nat.reduceBEq, Int.reduceBEq, Nat.reduceMul, Int.reduceEq, Int.reduceLT, Int.reduceLE, Int.reduceAdd, Int.reduceSub, Int.reduceMul, Int.reduceToNat, Int.cast_ofNat_Int, *]))); repeat ((first | (refine cl_drawi 19 D6_19 (List.range 24) (by decide) (by kernel_rfl) ?_; unfold D6_19)); simp only [S, TY, reduceCtorEq, Nat.reduceEqDiff, Nat.reduceAdd, Nat.reduceLeDiff, Nat.reduceBEq, Int.reduceBEq, Nat.reduceMul, Int.reduceEq, Int.reduceLT, Int.reduceLE, Int.reduceAdd, Int.reduceSub, Int.reduceMul, Int.reduceToNat, Int.cast_ofNat_Int, *]; (try (simp (disch := omega) only [W2, Int.cast_ofNat_Int]; (try simp only [S, TY, reduceCtorEq, Nat.reduceEqDiff, Nat.reduceAdd, Nat.reduceLeDiff, Nat.reduceBEq, Int.reduceBEq, Nat.reduceMul, Int.reduceEq, Int.reduceLT, Int.reduceLE, Int.reduceAdd, Int.reduceSub, Int.reduceMul, Int.reduceToNat, Int.cast_ofNat_Int, *]))))))))
      | true =>
        have hdv := enc_dec ⟨h1, h2⟩ h3 h4 k3
        replace hdv : DecV (arpEnc op sha tha spa tpa) = .tuple #[arv op sha tha spa tpa, .int .i64 0] := by
          unfold aright at k3
          rw [decide_eq_true_eq] at k3
          unfold DecV
          rw [if_pos hdv.1, hdv.2]
          simp only [Ad.l, Int.toNat_of_nonneg h1, Int.toNat_of_nonneg h2, Int.toNat_of_nonneg h3.1, Int.toNat_of_nonneg h4.1, Int.toNat_of_nonneg k3.2.2.1]
        refine Con.intro Try.func6 rfl (Nat.le_of_ble_eq_true (by kernel_rfl)) (by kernel_rfl) Try.results6 ?_
        intro H h
        ((try simp only [S, TY, reduceCtorEq, Nat.reduceEqDiff, Nat.reduceAdd, Nat.reduceLeDiff, Nat.reduceBEq, Int.reduceBEq, Nat.reduceMul, Int.reduceEq, Int.reduceLT, Int.reduceLE, Int.reduceAdd, Int.reduceSub, Int.reduceMul, Int.reduceToNat, Int.cast_ofNat_Int, *]); (try (simp (disch := omega) only [W2, Int.cast_ofNat_Int]; (try simp only [S, TY, reduceCtorEq, Nat.reduceEqDiff, Nat.reduceAdd, Nat.reduceLeDiff, Nat.reduceBEq, Int.reduceBEq, Nat.reduceMul, Int.reduceEq, Int.reduceLT, Int.reduceLE, Int.reduceAdd, Int.reduceSub, Int.reduceMul, Int.reduceToNat, Int.cast_ofNat_Int, *]))); repeat ((first | (refine cl_drawi 19 D6_19 (List.range 24) (by decide) (by kernel_rfl) ?_; unfold D6_19)); simp only [S, TY, reduceCtorEq, Nat.reduceEqDiff, Nat.reduceAdd, Nat.reduceLeDiff, Nat.reduceBEq, Int.reduceBEq, Nat.reduceMul, Int.reduceEq, Int.reduceLT, Int.reduceLE, Int.reduceAdd, Int.reduceSub, Int.reduceMul, Int.reduceToNat, Int.cast_ofNat_Int, *]; (try (simp (disch := omega) only [W2, Int.cast_ofNat_Int]; (try simp only [S, TY, reduceCtorEq, Nat.reduceEqDiff, Nat.reduceAdd, Nat.reduceLeDiff, Nat.reduceBEq, Int.reduceBEq, Nat.reduceMul, Int.reduceEq, Int.reduceLT, Int.reduceLE, Int.reduceAdd, Int.reduceSub, Int.reduceMul, Int.reduceToNat, Int.cast_ofNat_Int, *])))))
        repeat' (((first
            | ((with_reducible show CallsH _ _ 38 _ _ _); first | (refine (alive).at_ h [] _ rfl (fun r B H' hr h' => ?_); obtain ⟨rfl, rfl⟩ := hr; skip))
            | ((with_reducible show CallsH _ _ 26 _ _ _); first | (refine (Fits2 _ _ _ hv).at_ h [] _ rfl (fun r B H' hr h' => ?_); obtain ⟨rfl, rfl⟩ := hr; skip))
            | ((with_reducible show CallsH _ _ 39 _ _ _); (with_reducible show CallsH _ _ _ #[Value.agg #[.int .u64 d, _, _, _]] _ _); refine (Announces_ok d s t ht hv (by omega)).at_ h [] _ rfl (fun r B H' hr h' => ?_); obtain ⟨rfl, rfl⟩ := hr; rw [hav]; skip)
            | ((with_reducible show CallsH _ _ 40 _ _ _); first | (refine (dAnnounces_ok d s t hv (by omega)).at_ h [] _ rfl (fun r B H' hr h' => ?_); obtain ⟨rfl, rfl⟩ := hr; rw [hav]; skip))
            | ((with_reducible show CallsH _ _ 45 _ _ _); first | (refine (Of_ok _ _ _ _ _).at_ h [] _ rfl (fun r B H' hr h' => ?_); obtain ⟨rfl, rfl⟩ := hr; skip))
            | ((with_reducible show CallsH _ _ 44 _ _ _); first | (refine (dRight_ok _ _ _ _ _).at_ h [] _ rfl (fun r B H' hr h' => ?_); obtain ⟨rfl, rfl⟩ := hr; skip))
            | ((with_reducible show CallsH _ _ 41 _ _ _); first | (refine (RARP_ok _ hm.1).at_ h [] _ rfl (fun r B H' hr h' => ?_); rw [if_neg k2] at hr; obtain ⟨rfl, rfl⟩ := hr; skip))
            | ((with_reducible show CallsH _ _ 42 _ _ _); first | (refine (dRARP_ok _ hm.1).at_ h [] _ rfl (fun r B H' hr h' => ?_); rw [if_neg k2] at hr; obtain ⟨rfl, rfl⟩ := hr; skip))
            | ((with_reducible show CallsH _ _ 31 _ _ _); first | (refine (dSame _ _ _ _ _ _ (l := []) (m := []) ⟨none, 0, 0, rfl, rfl, Nat.le_refl _, .inl rfl⟩ ⟨none, 0, 0, rfl, rfl, Nat.le_refl _, .inl rfl⟩).at_ h [] _ rfl (fun r B H' hr h' => ?_); obtain ⟨rfl, rfl⟩ := hr; skip))
            | ((with_reducible show CallsH _ _ 39 _ _ _); first | (refine (Announces_ok _ _ _ (by omega) (l := []) ⟨none, 0, 0, rfl, rfl, Nat.le_refl _, .inl rfl⟩ (by simp)).at_ h [] _ rfl (fun r B H' hr h' => ?_); obtain ⟨rfl, rfl⟩ := hr; rw [hA2]; skip))
            | ((with_reducible show CallsH _ _ 43 _ _ _); first | (refine (Arp.Encode_ok _ _ _ _ _ h1 h2 h3 h4).at_ h [] _ rfl (fun r B H' hr h' => ?_); unfold Arp.EncR at hr; rw [if_pos k3] at hr; obtain ⟨u, rfl, rfl⟩ := hr; obtain ⟨ua, un, uc, rfl, _, _⟩ := h'.sl 0 rfl Rd_own; skip))
            | ((with_reducible show CallsH _ _ 46 _ _ _); refine Con.lend_at [] [own 5 1 _ _] h [0] rfl (fun F hF hs => Decode_ok (seps_own hs 0 rfl).left (by rw [enc_len]; omega)) (fun r B H' hr h' => ?_); obtain ⟨rfl, rfl⟩ := hr; rw [hdv]; skip)
            | ((with_reducible show CallsH _ _ 47 _ _ _); first | (refine (dBytes_ok _ _ _ _ _ h1 h2 h3 h4 k3).at_ h [] _ rfl (fun r B H' hr h' => ?_); subst hr; obtain ⟨ua, un, uc, rfl, _, _⟩ := h'.sl 0 rfl Rd_own; skip))
            | ((with_reducible show fin _ _ _); first | (exact fin_take (B := []) h ⟨rfl, rfl⟩))
            | ((with_reducible show New _ _ _); first | (refine New_sl h 1 rfl (fun b H' h' => ?_); skip) | (refine New_qsl h 1 rfl (fun b => rfl) (fun b H' h' => ?_); skip) | (refine New_ob h (fun b H' h' => ?_); skip) | (refine New_qob h (fun b H' h' => ?_); skip))
            | ((with_reducible show St _ _); first | (refine sg.st (h.front 0) rfl rfl (fun H' h' => ?_); skip) | (refine sg.st (h.front 1) rfl rfl (fun H' h' => ?_); skip) | (refine sg.st (h.front 2) rfl rfl (fun H' h' => ?_); skip) | (refine sg.st (h.front 3) rfl rfl (fun H' h' => ?_); skip) | (refine sg.st (h.front 4) rfl rfl (fun H' h' => ?_); skip) | (refine sg.st (h.front 5) rfl rfl (fun H' h' => ?_); skip) | (refine sg.st (h.front 6) rfl rfl (fun H' h' => ?_); skip) | (refine sg.st (h.front 7) rfl rfl (fun H' h' => ?_); skip) | (refine sg.st (h.front 8) rfl rfl (fun H' h' => ?_); skip) | (refine sg.st (h.front 9) rfl rfl (fun H' h' => ?_); skip) | (refine sg.st (h.front 10) rfl rfl (fun H' h' => ?_); skip) | (refine sg.st (h.front 11) rfl rfl (fun H' h' => ?_); skip))
            | ((with_reducible show Gate _ _ _); refine Gate.intro (fun g => ?_) (fun g => ?_) <;> (try subst g))
            ) <;> ((try ((try simp only [front_eq, fronts_nil, fronts_cons, List.getElem?_cons_zero, List.getElem?_cons_succ, List.eraseIdx_cons_zero, List.eraseIdx_cons_succ, List.cons_append, List.nil_append, putL_cons, putL_nil, List.set_cons_zero, List.set_cons_succ, Nat.reduceAdd] at h'); clear h; have h := h'; clear h'; (try have fc := h.ci 0 rfl); (try have fl := h.li 0 rfl); (try have fc := h.ci 1 rfl); (try have fl := h.li 1 rfl); (try have fc := h.ci 2 rfl); (try have fl := h.li 2 rfl); (try have fc := h.ci 3 rfl); (try have fl := h.li 3 rfl); (try have fc := h.ci 4 rfl); (try have fl := h.li 4 rfl); (try have fc := h.ci 5 rfl); (try have fl := h.li 5 rfl); (try have fc := h.ci 6 rfl); (try have fl := h.li 6 rfl); (try have fc := h.ci 7 rfl); (try have fl := h.li 7 rfl); (try have fc := h.ci 8 rfl); (try have fl := h.li 8 rfl); (try have fc := h.ci 9 rfl); (try have fl := h.li 9 rfl); (try have fc := h.ci 10 rfl); (try have fl := h.li 10 rfl); (try have fc := h.ci 11 rfl); (try have fl := h.li 11 rfl); (try (have fs := rStr_of (P := Try.prog) (h.rdsi 0 rfl Rd_own))); (try (have ft := rStr_of (P := Try.prog) (h.rdsi 1 rfl Rd_own))); (try (have fr := rStr_of (P := Try.prog) (h.rdsi 2 rfl Rd_own))))); ((try simp only [S, TY, reduceCtorEq, Nat.reduceEqDiff, Nat.reduceAdd, Nat.reduceLeDiff, Nat.reduceBEq, Int.reduceBEq, Nat.reduceMul, Int.reduceEq, Int.reduceLT, Int.reduceLE, Int.reduceAdd, Int.reduceSub, Int.reduceMul, Int.reduceToNat, Int.cast_ofNat_Int, *]); (try (simp (disch := omega) only [W2, Int.cast_ofNat_Int]; (try simp only [S, TY, reduceCtorEq, Nat.reduceEqDiff, Nat.reduceAdd, Nat.reduceLeDiff, Nat.reduceBEq, Int.reduceBEq, Nat.reduceMul, Int.reduceEq, Int.reduceLT, Int.reduceLE, Int.reduceAdd, Int.reduceSub, Int.reduceMul, Int.reduceToNat, Int.cast_ofNat_Int, *]))); repeat ((first | (refine cl_drawi 19 D6_19 (List.range 24) (by decide) (by kernel_rfl) ?_; unfold D6_19)); simp only [S, TY, reduceCtorEq, Nat.reduceEqDiff, Nat.reduceAdd, Nat.reduceLeDiff, Nat.reduceBEq, Int.reduceBEq, Nat.reduceMul, Int.reduceEq, Int.reduceLT, Int.reduceLE, Int.reduceAdd, Int.reduceSub, Int.reduceMul, Int.reduceToNat, Int.cast_ofNat_Int, *]; (try (simp (disch := omega) only [W2, Int.cast_ofNat_Int]; (try simp only [S, TY, reduceCtorEq, Nat.reduceEqDiff, Nat.reduceAdd, Nat.reduceLeDiff, Nat.reduceBEq, Int.reduceBEq, Nat.reduceMul, Int.reduceEq, Int.reduceLT, Int.reduceLE, Int.reduceAdd, Int.reduceSub, Int.reduceMul, Int.reduceToNat, Int.cast_ofNat_Int, *]))))))))
  · refine Con.intro Try.func6 rfl (Nat.le_of_ble_eq_true (by kernel_rfl)) (by kernel_rfl) Try.results6 ?_
    intro H h
    ((try simp only [S, TY, reduceCtorEq, Nat.reduceEqDiff, Nat.reduceAdd, Nat.reduceLeDiff, Nat.reduceBEq, Int.reduceBEq, Nat.reduceMul, Int.reduceEq, Int.reduceLT, Int.reduceLE, Int.reduceAdd, Int.reduceSub, Int.reduceMul, Int.reduceToNat, Int.cast_ofNat_Int, *]); (try (simp (disch := omega) only [W2, Int.cast_ofNat_Int]; (try simp only [S, TY, reduceCtorEq, Nat.reduceEqDiff, Nat.reduceAdd, Nat.reduceLeDiff, Nat.reduceBEq, Int.reduceBEq, Nat.reduceMul, Int.reduceEq, Int.reduceLT, Int.reduceLE, Int.reduceAdd, Int.reduceSub, Int.reduceMul, Int.reduceToNat, Int.cast_ofNat_Int, *]))); repeat ((first | (refine cl_drawi 19 D6_19 (List.range 24) (by decide) (by kernel_rfl) ?_; unfold D6_19)); simp only [S, TY, reduceCtorEq, Nat.reduceEqDiff, Nat.reduceAdd, Nat.reduceLeDiff, Nat.reduceBEq, Int.reduceBEq, Nat.reduceMul, Int.reduceEq, Int.reduceLT, Int.reduceLE, Int.reduceAdd, Int.reduceSub, Int.reduceMul, Int.reduceToNat, Int.cast_ofNat_Int, *]; (try (simp (disch := omega) only [W2, Int.cast_ofNat_Int]; (try simp only [S, TY, reduceCtorEq, Nat.reduceEqDiff, Nat.reduceAdd, Nat.reduceLeDiff, Nat.reduceBEq, Int.reduceBEq, Nat.reduceMul, Int.reduceEq, Int.reduceLT, Int.reduceLE, Int.reduceAdd, Int.reduceSub, Int.reduceMul, Int.reduceToNat, Int.cast_ofNat_Int, *])))))
    repeat' (((first
        | ((with_reducible show CallsH _ _ 38 _ _ _); first | (refine (alive).at_ h [] _ rfl (fun r B H' hr h' => ?_); obtain ⟨rfl, rfl⟩ := hr; skip))
        | ((with_reducible show CallsH _ _ 26 _ _ _); first | (refine (Fits2 _ _ _ hv).at_ h [] _ rfl (fun r B H' hr h' => ?_); obtain ⟨rfl, rfl⟩ := hr; skip))
        | ((with_reducible show CallsH _ _ 39 _ _ _); (with_reducible show CallsH _ _ _ #[Value.agg #[.int .u64 d, _, _, _]] _ _); refine (Announces_ok d s t ht hv (by omega)).at_ h [] _ rfl (fun r B H' hr h' => ?_); obtain ⟨rfl, rfl⟩ := hr; rw [hav]; skip)
        | ((with_reducible show CallsH _ _ 40 _ _ _); first | (refine (dAnnounces_ok d s t hv (by omega)).at_ h [] _ rfl (fun r B H' hr h' => ?_); obtain ⟨rfl, rfl⟩ := hr; rw [hav]; skip))
        | ((with_reducible show CallsH _ _ 45 _ _ _); first | (refine (Of_ok _ _ _ _ _).at_ h [] _ rfl (fun r B H' hr h' => ?_); obtain ⟨rfl, rfl⟩ := hr; skip))
        | ((with_reducible show CallsH _ _ 44 _ _ _); first | (refine (dRight_ok _ _ _ _ _).at_ h [] _ rfl (fun r B H' hr h' => ?_); obtain ⟨rfl, rfl⟩ := hr; skip))
        | ((with_reducible show fin _ _ _); first | (exact fin_take (B := []) h ⟨rfl, rfl⟩))
        | ((with_reducible show New _ _ _); first | (refine New_sl h 1 rfl (fun b H' h' => ?_); skip) | (refine New_qsl h 1 rfl (fun b => rfl) (fun b H' h' => ?_); skip) | (refine New_ob h (fun b H' h' => ?_); skip) | (refine New_qob h (fun b H' h' => ?_); skip))
        | ((with_reducible show St _ _); first | (refine sg.st (h.front 0) rfl rfl (fun H' h' => ?_); skip) | (refine sg.st (h.front 1) rfl rfl (fun H' h' => ?_); skip) | (refine sg.st (h.front 2) rfl rfl (fun H' h' => ?_); skip) | (refine sg.st (h.front 3) rfl rfl (fun H' h' => ?_); skip) | (refine sg.st (h.front 4) rfl rfl (fun H' h' => ?_); skip) | (refine sg.st (h.front 5) rfl rfl (fun H' h' => ?_); skip) | (refine sg.st (h.front 6) rfl rfl (fun H' h' => ?_); skip) | (refine sg.st (h.front 7) rfl rfl (fun H' h' => ?_); skip) | (refine sg.st (h.front 8) rfl rfl (fun H' h' => ?_); skip) | (refine sg.st (h.front 9) rfl rfl (fun H' h' => ?_); skip) | (refine sg.st (h.front 10) rfl rfl (fun H' h' => ?_); skip) | (refine sg.st (h.front 11) rfl rfl (fun H' h' => ?_); skip))
        | ((with_reducible show Gate _ _ _); refine Gate.intro (fun g => ?_) (fun g => ?_) <;> (try subst g))
        ) <;> ((try ((try simp only [front_eq, fronts_nil, fronts_cons, List.getElem?_cons_zero, List.getElem?_cons_succ, List.eraseIdx_cons_zero, List.eraseIdx_cons_succ, List.cons_append, List.nil_append, putL_cons, putL_nil, List.set_cons_zero, List.set_cons_succ, Nat.reduceAdd] at h'); clear h; have h := h'; clear h'; (try have fc := h.ci 0 rfl); (try have fl := h.li 0 rfl); (try have fc := h.ci 1 rfl); (try have fl := h.li 1 rfl); (try have fc := h.ci 2 rfl); (try have fl := h.li 2 rfl); (try have fc := h.ci 3 rfl); (try have fl := h.li 3 rfl); (try have fc := h.ci 4 rfl); (try have fl := h.li 4 rfl); (try have fc := h.ci 5 rfl); (try have fl := h.li 5 rfl); (try have fc := h.ci 6 rfl); (try have fl := h.li 6 rfl); (try have fc := h.ci 7 rfl); (try have fl := h.li 7 rfl); (try have fc := h.ci 8 rfl); (try have fl := h.li 8 rfl); (try have fc := h.ci 9 rfl); (try have fl := h.li 9 rfl); (try have fc := h.ci 10 rfl); (try have fl := h.li 10 rfl); (try have fc := h.ci 11 rfl); (try have fl := h.li 11 rfl); (try (have fs := rStr_of (P := Try.prog) (h.rdsi 0 rfl Rd_own))); (try (have ft := rStr_of (P := Try.prog) (h.rdsi 1 rfl Rd_own))))); ((try simp only [S, TY, reduceCtorEq, Nat.reduceEqDiff, Nat.reduceAdd, Nat.reduceLeDiff, Nat.reduceBEq, Int.reduceBEq, Nat.reduceMul, Int.reduceEq, Int.reduceLT, Int.reduceLE, Int.reduceAdd, Int.reduceSub, Int.reduceMul, Int.reduceToNat, Int.cast_ofNat_Int, *]); (try (simp (disch := omega) only [W2, Int.cast_ofNat_Int]; (try simp only [S, TY, reduceCtorEq, Nat.reduceEqDiff, Nat.reduceAdd, Nat.reduceLeDiff, Nat.reduceBEq, Int.reduceBEq, Nat.reduceMul, Int.reduceEq, Int.reduceLT, Int.reduceLE, Int.reduceAdd, Int.reduceSub, Int.reduceMul, Int.reduceToNat, Int.cast_ofNat_Int, *]))); repeat ((first | (refine cl_drawi 19 D6_19 (List.range 24) (by decide) (by kernel_rfl) ?_; unfold D6_19)); simp only [S, TY, reduceCtorEq, Nat.reduceEqDiff, Nat.reduceAdd, Nat.reduceLeDiff, Nat.reduceBEq, Int.reduceBEq, Nat.reduceMul, Int.reduceEq, Int.reduceLT, Int.reduceLE, Int.reduceAdd, Int.reduceSub, Int.reduceMul, Int.reduceToNat, Int.cast_ofNat_Int, *]; (try (simp (disch := omega) only [W2, Int.cast_ofNat_Int]; (try simp only [S, TY, reduceCtorEq, Nat.reduceEqDiff, Nat.reduceAdd, Nat.reduceLeDiff, Nat.reduceBEq, Int.reduceBEq, Nat.reduceMul, Int.reduceEq, Int.reduceLT, Int.reduceLE, Int.reduceAdd, Int.reduceSub, Int.reduceMul, Int.reduceToNat, Int.cast_ofNat_Int, *]))))))))
abbrev ART : Ty := .st (.pr (.int .i64) (.pr (.int .u64) (.pr (.int .u64) (.pr (.int .u32) (.pr (.int .u32) .un)))))
abbrev FRT : Ty := .st (.pr (.int .u64) (.pr (.int .u64) (.pr (.int .i64) (.pr .bytes .un))))
theorem tellsV {G : Hp} {v0 v1 v2 : Value} {y0 : ART.den} {y1 : FRT.den} {y2 : (Ty.int .u64).den} (h0 : Ty.V G ART v0 y0) (h1 : Ty.V G FRT v1 y1) (h2 : Ty.V G (.int .u64) v2 y2) :
    Con Try.prog G 6 [v0, v1, v2] [] (fun r B => r = .bool true ∧ B = []) := by
  rcases h0 with ⟨_, cs, rfl, h0⟩ | ⟨h, _⟩
  · rcases h1 with ⟨_, ds, rfl, h1⟩ | ⟨h, _⟩
    · rcases h2 with ⟨h, _⟩ | ⟨_, h2, k6⟩
      · cases h
      cases h2
      obtain ⟨_, _, rfl, _, ⟨rfl, k1⟩, _, _, rfl, _, ⟨rfl, k2⟩, _, _, rfl, _, ⟨rfl, k3⟩, _, _, rfl, _, ⟨rfl, k4⟩, _, _, rfl, _, ⟨rfl, k5⟩, rfl⟩ := h0
      obtain ⟨_, _, rfl, _, ⟨rfl, _⟩, _, _, rfl, _, ⟨rfl, _⟩, _, _, rfl, _, ⟨rfl, k7⟩, _, _, rfl, _, ⟨w, rfl, hw⟩, rfl⟩ := h1
      simp only [Lit.wf, IntKind.min, IntKind.max, IntKind.signed, IntKind.bits, Bool.and_eq_true, decide_eq_true_eq] at k2 k3 k4 k5 k6 k7
      exact tells _ _ _ _ _ _ _ _ _ (by have := k2.1; simpa using this) (by have := k3.1; simpa using this) ⟨by have := k4.1; simpa using this, by have := k4.2; simp at this; omega⟩ ⟨by have := k5.1; simpa using this, by have := k5.2; simp at this; omega⟩
        ⟨by have := k7.1; simp at this; omega, by have := k7.2; simp at this; omega⟩ ⟨by have := k6.1; simp at this; omega, by have := k6.2; simp at this; omega⟩ hw
    · cases h
  · cases h
end Go.Proofs.Ytfdcllpedfifpaa.ArpM
