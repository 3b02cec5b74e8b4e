/- The law on what tables tell: the walk. -/
import Derived.Test.YtfjmejideoklpaaFlL
set_option linter.unusedVariables false
set_option linter.unusedSimpArgs false
set_option maxRecDepth 10000
set_option maxHeartbeats 2000000
namespace Go.Proofs.Ytfjmejideoklpaa.FlM
open Go Go.Sl Go.Proofs Go.Proofs.Ytfjmejideoklpaa.So Go.Proofs.Ytfjmejideoklpaa.SoI Go.Proofs.Ytfjmejideoklpaa.SoR Go.Proofs.Ytfjmejideoklpaa.SoM Go.Proofs.Ytfjmejideoklpaa.SoS Go.Proofs.Ytfjmejideoklpaa.Fl Go.Proofs.Ytfjmejideoklpaa.FlT Go.Proofs.Ytfjmejideoklpaa.FlD Go.Proofs.Ytfjmejideoklpaa.FlL
theorem TY : aggN Try.prog 3 = some none ∧
  aggN Try.prog 4 = some none ∧
  aggN Try.prog 34 = some none ∧
  aggN Try.prog 56 = some none ∧
  aggN Try.prog 58 = some (some 5) ∧
  aggN Try.prog 59 = some none ∧
  aggN Try.prog 63 = some none ∧
  aggN Try.prog 66 = some (some 4) ∧
  aggN Try.prog 69 = some (some 4) ∧
  aggN Try.prog 72 = some (some 5) ∧
  aggN Try.prog 77 = some (some 11) ∧
  aggN Try.prog 80 = some (some 11) ∧
  apI Try.prog 56 = some (80, 11, 88) ∧
  apI Try.prog 63 = some (77, 11, 88) ∧
  bIs Try.prog 58 = true ∧
  bIs Try.prog 66 = true ∧
  bIs Try.prog 69 = true ∧
  bIs Try.prog 72 = true ∧
  bIs Try.prog 77 = true ∧
  bIs Try.prog 80 = true ∧
  boIs Try.prog 4 = true ∧
  csz Try.prog 3 = some 1 ∧
  csz Try.prog 4 = some 1 ∧
  csz Try.prog 34 = some 1 ∧
  csz Try.prog 56 = some 1 ∧
  csz Try.prog 58 = some 5 ∧
  csz Try.prog 59 = some 1 ∧
  csz Try.prog 63 = some 1 ∧
  csz Try.prog 66 = some 4 ∧
  csz Try.prog 69 = some 4 ∧
  csz Try.prog 72 = some 5 ∧
  csz Try.prog 77 = some 11 ∧
  csz Try.prog 80 = some 11 ∧
  eqF Try.prog 58 = some [.i, .i, .i, .i, .i] ∧
  eqF Try.prog 66 = some [.i, .i, .i, .i] ∧
  eqF Try.prog 69 = some [.i, .i, .i, .i] ∧
  eqF Try.prog 72 = some [.i, .i, .i, .i, .i] ∧
  eqF Try.prog 77 = some [.i, .i, .i, .i, .i, .i, .i, .i, .i, .i, .i] ∧
  eqF Try.prog 80 = some [.i, .i, .i, .i, .i, .i, .i, .i, .i, .i, .i] ∧
  goes Try.prog 35 = true ∧
  goes Try.prog 36 = true ∧
  goes Try.prog 37 = true ∧
  goes Try.prog 38 = true ∧
  goes Try.prog 39 = true ∧
  goes Try.prog 40 = true ∧
  goes Try.prog 41 = true ∧
  goes Try.prog 42 = true ∧
  goes Try.prog 43 = true ∧
  goes Try.prog 44 = true ∧
  goes Try.prog 45 = true ∧
  inIs Try.prog 3 = some .i64 ∧
  inIs Try.prog 34 = some .i64 ∧
  plcs Try.prog 58 = [(0, 1), (1, 1), (2, 1), (3, 1), (4, 1)] ∧
  plcs Try.prog 66 = [(0, 1), (1, 1), (2, 1), (3, 1)] ∧
  plcs Try.prog 69 = [(0, 1), (1, 1), (2, 1), (3, 1)] ∧
  plcs Try.prog 72 = [(0, 1), (1, 1), (2, 1), (3, 1), (4, 1)] ∧
  plcs Try.prog 77 = [(0, 1), (1, 1), (2, 1), (3, 1), (4, 1), (5, 1), (6, 1), (7, 4)] ∧
  plcs Try.prog 80 = [(0, 1), (1, 1), (2, 1), (3, 1), (4, 1), (5, 1), (6, 1), (7, 4)] ∧
  ptIs Try.prog 59 = true ∧
  slEl Try.prog 56 = 80 ∧
  slEl Try.prog 63 = 77 ∧
  slIs Try.prog 56 = true ∧
  slIs Try.prog 63 = true ∧
  slSz Try.prog 56 = 11 ∧
  slSz Try.prog 63 = 11 ∧
  zcs Try.prog 58 = [.int .i64 0, .int .u64 0, .int .i64 0, .int .i64 0, .int .i64 0] ∧
  zcs Try.prog 66 = [.int .i64 0, .int .i64 0, .int .i64 0, .int .i64 0] ∧
  zcs Try.prog 69 = [.int .i64 0, .int .i64 0, .int .i64 0, .int .i64 0] ∧
  zcs Try.prog 72 = [.int .i64 0, .int .u64 0, .int .i64 0, .int .i64 0, .int .i64 0] ∧
  zcs Try.prog 77 = [.int .i64 0, .int .i64 0, .int .u64 0, .int .i64 0, .int .i64 0, .int .i64 0, .int .i64 0, .int .i64 0, .int .i64 0, .int .i64 0, .int .i64 0] ∧
  zcs Try.prog 80 = [.int .i64 0, .int .i64 0, .int .u64 0, .int .i64 0, .int .i64 0, .int .i64 0, .int .i64 0, .int .i64 0, .int .i64 0, .int .i64 0, .int .i64 0] ∧
  zro Try.prog 3 = some (.int .i64 0) ∧
  zro Try.prog 4 = some (.bool false) ∧
  zro Try.prog 34 = some (.int .i64 0) ∧
  zro Try.prog 56 = some (.slice none 0 0) ∧
  zro Try.prog 58 = some (.agg #[.int .i64 0, .int .u64 0, .int .i64 0, .int .i64 0, .int .i64 0]) ∧
  zro Try.prog 59 = some (.pointer none) ∧
  zro Try.prog 63 = some (.slice none 0 0) ∧
  zro Try.prog 66 = some (.agg #[.int .i64 0, .int .i64 0, .int .i64 0, .int .i64 0]) ∧
  zro Try.prog 69 = some (.agg #[.int .i64 0, .int .i64 0, .int .i64 0, .int .i64 0]) ∧
  zro Try.prog 72 = some (.agg #[.int .i64 0, .int .u64 0, .int .i64 0, .int .i64 0, .int .i64 0]) ∧
  zro Try.prog 77 = some (.agg #[.int .i64 0, .int .i64 0, .int .u64 0, .int .i64 0, .int .i64 0, .int .i64 0, .int .i64 0, .int .i64 0, .int .i64 0, .int .i64 0, .int .i64 0]) ∧
  zro Try.prog 80 = some (.agg #[.int .i64 0, .int .i64 0, .int .u64 0, .int .i64 0, .int .i64 0, .int .i64 0, .int .i64 0, .int .i64 0, .int .i64 0, .int .i64 0, .int .i64 0]) :=
  ⟨by kernel_rfl, by kernel_rfl, by kernel_rfl, by kernel_rfl, by kernel_rfl, by kernel_rfl, by kernel_rfl, by kernel_rfl, by kernel_rfl, by kernel_rfl, by kernel_rfl, by kernel_rfl, by kernel_rfl, by kernel_rfl, by kernel_rfl, by kernel_rfl, by kernel_rfl, by kernel_rfl, by kernel_rfl, by kernel_rfl, by kernel_rfl, by kernel_rfl, by kernel_rfl, by kernel_rfl, by kernel_rfl, by kernel_rfl, by kernel_rfl, by kernel_rfl, by kernel_rfl, by kernel_rfl, by kernel_rfl, by kernel_rfl, by kernel_rfl, by kernel_rfl, by kernel_rfl, by kernel_rfl, by kernel_rfl, by kernel_rfl, by kernel_rfl, by kernel_rfl, by kernel_rfl, by kernel_rfl, by kernel_rfl, by kernel_rfl, by kernel_rfl, by kernel_rfl, by kernel_rfl, by kernel_rfl, by kernel_rfl, by kernel_rfl, by kernel_rfl, by kernel_rfl, by kernel_rfl, by kernel_rfl, by kernel_rfl, by kernel_rfl, by kernel_rfl, by kernel_rfl, by kernel_rfl, by kernel_rfl, by kernel_rfl, by kernel_rfl, by kernel_rfl, by kernel_rfl, by kernel_rfl, by kernel_rfl, by kernel_rfl, by kernel_rfl, by kernel_rfl, by kernel_rfl, by kernel_rfl, by kernel_rfl, by kernel_rfl, by kernel_rfl, by kernel_rfl, by kernel_rfl, by kernel_rfl, by kernel_rfl, by kernel_rfl, by kernel_rfl, by kernel_rfl, by kernel_rfl, by kernel_rfl⟩
def D6_12 : List Note := Go.Sl.nn [1, 3, 1, 0, 0, 0, 0, 0, 0, 0, 0, 0, 0, 0, 0, 0]
def D6_17 : List Note := Go.Sl.nn [0, 0, 0, 1, 0, 0, 0, 1, 0, 0, 0, 0, 0, 1, 1, 3, 0, 0, 0, 1, 1] ++ ([(3, [19])] ++ (Go.Sl.nn [3, 0, 0]))
theorem rdX {R : Hp} {b off n c i : Nat} {l : List En} (h : rds R 11 (.slice (some ⟨b, off, none⟩) n c) (l.flatMap En.l)) (hi : i < l.length) {x : En} (hx : l[i] = x) : ldl R ⟨b, off + i * 11, none⟩ 0 11 = some x.l := by
  obtain ⟨_, _, z, _, el⟩ := rdI h hi
  cases z
  rw [el, hx]
theorem tells {G : Hp} {v : Value} {l : List En} (k : Ky) (hv : ens G v l) : Con Try.prog G 6 [v, k.v] [] (fun r B => r = .bool true ∧ B = []) := by
  obtain ⟨a, n, c, rfl, e1, e2⟩ := hv.slice
  rw [flat_len En.len] at e1
  obtain rfl : l.length = n := by omega
  clear e1
  by_cases k1 : (400 : Int) < l.length
  · refine Con.intro Try.func6 rfl (Nat.le_of_ble_eq_true (by kernel_rfl)) (by kernel_rfl) Try.results6 ?_
    intro H h
    ((try simp only [S, TY, reduceCtorEq, Nat.reduceEqDiff, Nat.reduceAdd, Nat.reduceLeDiff, Nat.reduceBEq, Int.reduceBEq, Nat.reduceMul, Int.reduceEq, Int.reduceLT, Int.reduceLE, Int.reduceAdd, Int.reduceSub, Int.reduceMul, Int.reduceToNat, Int.cast_ofNat_Int, k1]); (try (simp (disch := omega) only [W2, Int.cast_ofNat_Int]; (try simp only [S, TY, reduceCtorEq, Nat.reduceEqDiff, Nat.reduceAdd, Nat.reduceLeDiff, Nat.reduceBEq, Int.reduceBEq, Nat.reduceMul, Int.reduceEq, Int.reduceLT, Int.reduceLE, Int.reduceAdd, Int.reduceSub, Int.reduceMul, Int.reduceToNat, Int.cast_ofNat_Int, k1]))); repeat ((first | (refine cl_drawi 12 D6_12 (List.range 16) (by decide) (by kernel_rfl) ?_; unfold D6_12) | (refine cl_drawi 17 D6_17 (List.range 25) (by decide) (by kernel_rfl) ?_; unfold D6_17)); simp only [S, TY, reduceCtorEq, Nat.reduceEqDiff, Nat.reduceAdd, Nat.reduceLeDiff, Nat.reduceBEq, Int.reduceBEq, Nat.reduceMul, Int.reduceEq, Int.reduceLT, Int.reduceLE, Int.reduceAdd, Int.reduceSub, Int.reduceMul, Int.reduceToNat, Int.cast_ofNat_Int, k1]; (try (simp (disch := omega) only [W2, Int.cast_ofNat_Int]; (try simp only [S, TY, reduceCtorEq, Nat.reduceEqDiff, Nat.reduceAdd, Nat.reduceLeDiff, Nat.reduceBEq, Int.reduceBEq, Nat.reduceMul, Int.reduceEq, Int.reduceLT, Int.reduceLE, Int.reduceAdd, Int.reduceSub, Int.reduceMul, Int.reduceToNat, Int.cast_ofNat_Int, k1])))))
    repeat' (((first
        | ((with_reducible show CallsH _ _ 35 _ _ _); first | (refine (alive).at_ h [] _ rfl (fun r B H' hr h' => ?_); obtain ⟨rfl, rfl⟩ := hr; skip))
        | ((with_reducible show fin _ _ _); first | (exact fin_take (B := []) h ⟨rfl, rfl⟩))
        | ((with_reducible show New _ _ _); first | (refine New_sl h 11 rfl (fun b H' h' => ?_); skip) | (refine New_qsl h 11 rfl (fun b => rfl) (fun b H' h' => ?_); skip) | (refine New_ob h (fun b H' h' => ?_); skip) | (refine New_qob h (fun b H' h' => ?_); skip))
        | ((with_reducible show St _ _); first | (refine sg.st (h.front 0) rfl rfl (fun H' h' => ?_); skip) | (refine sg.st (h.front 1) rfl rfl (fun H' h' => ?_); skip) | (refine sg.st (h.front 2) rfl rfl (fun H' h' => ?_); skip) | (refine sg.st (h.front 3) rfl rfl (fun H' h' => ?_); skip) | (refine sg.st (h.front 4) rfl rfl (fun H' h' => ?_); skip) | (refine sg.st (h.front 5) rfl rfl (fun H' h' => ?_); skip) | (refine sg.st (h.front 6) rfl rfl (fun H' h' => ?_); skip) | (refine sg.st (h.front 7) rfl rfl (fun H' h' => ?_); skip))
        | ((with_reducible show Gate _ _ _); refine Gate.intro (fun g => ?_) (fun g => ?_) <;> (try subst g))
        ) <;> ((try ((try simp only [row, En.l, Ky.l, Ac.l, front_eq] at h'); (try simp only [front_eq, fronts_nil, fronts_cons, List.getElem?_cons_zero, List.getElem?_cons_succ, List.eraseIdx_cons_zero, List.eraseIdx_cons_succ, List.cons_append, List.nil_append, putL_cons, putL_nil, List.set_cons_zero, List.set_cons_succ, Nat.reduceAdd] at h'); clear h; have h := h'; clear h'; (try have fc := h.ci 0 rfl); (try have fl := h.li 0 rfl); (try have fc := h.ci 1 rfl); (try have fl := h.li 1 rfl); (try have fc := h.ci 2 rfl); (try have fl := h.li 2 rfl); (try have fc := h.ci 3 rfl); (try have fl := h.li 3 rfl); (try have fc := h.ci 4 rfl); (try have fl := h.li 4 rfl); (try have fc := h.ci 5 rfl); (try have fl := h.li 5 rfl); (try have fc := h.ci 6 rfl); (try have fl := h.li 6 rfl); (try have fc := h.ci 7 rfl); (try have fl := h.li 7 rfl))); ((try simp only [S, TY, reduceCtorEq, Nat.reduceEqDiff, Nat.reduceAdd, Nat.reduceLeDiff, Nat.reduceBEq, Int.reduceBEq, Nat.reduceMul, Int.reduceEq, Int.reduceLT, Int.reduceLE, Int.reduceAdd, Int.reduceSub, Int.reduceMul, Int.reduceToNat, Int.cast_ofNat_Int, *]); (try (simp (disch := omega) only [W2, Int.cast_ofNat_Int]; (try simp only [S, TY, reduceCtorEq, Nat.reduceEqDiff, Nat.reduceAdd, Nat.reduceLeDiff, Nat.reduceBEq, Int.reduceBEq, Nat.reduceMul, Int.reduceEq, Int.reduceLT, Int.reduceLE, Int.reduceAdd, Int.reduceSub, Int.reduceMul, Int.reduceToNat, Int.cast_ofNat_Int, *]))); repeat ((first | (refine cl_drawi 12 D6_12 (List.range 16) (by decide) (by kernel_rfl) ?_; unfold D6_12) | (refine cl_drawi 17 D6_17 (List.range 25) (by decide) (by kernel_rfl) ?_; unfold D6_17)); simp only [S, TY, reduceCtorEq, Nat.reduceEqDiff, Nat.reduceAdd, Nat.reduceLeDiff, Nat.reduceBEq, Int.reduceBEq, Nat.reduceMul, Int.reduceEq, Int.reduceLT, Int.reduceLE, Int.reduceAdd, Int.reduceSub, Int.reduceMul, Int.reduceToNat, Int.cast_ofNat_Int, *]; (try (simp (disch := omega) only [W2, Int.cast_ofNat_Int]; (try simp only [S, TY, reduceCtorEq, Nat.reduceEqDiff, Nat.reduceAdd, Nat.reduceLeDiff, Nat.reduceBEq, Int.reduceBEq, Nat.reduceMul, Int.reduceEq, Int.reduceLT, Int.reduceLE, Int.reduceAdd, Int.reduceSub, Int.reduceMul, Int.reduceToNat, Int.cast_ofNat_Int, *]))))))))
  by_cases k2 : (256 : Int) < l.length
  · refine Con.intro Try.func6 rfl (Nat.le_of_ble_eq_true (by kernel_rfl)) (by kernel_rfl) Try.results6 ?_
    intro H h
    ((try simp only [S, TY, reduceCtorEq, Nat.reduceEqDiff, Nat.reduceAdd, Nat.reduceLeDiff, Nat.reduceBEq, Int.reduceBEq, Nat.reduceMul, Int.reduceEq, Int.reduceLT, Int.reduceLE, Int.reduceAdd, Int.reduceSub, Int.reduceMul, Int.reduceToNat, Int.cast_ofNat_Int, k1]); (try (simp (disch := omega) only [W2, Int.cast_ofNat_Int]; (try simp only [S, TY, reduceCtorEq, Nat.reduceEqDiff, Nat.reduceAdd, Nat.reduceLeDiff, Nat.reduceBEq, Int.reduceBEq, Nat.reduceMul, Int.reduceEq, Int.reduceLT, Int.reduceLE, Int.reduceAdd, Int.reduceSub, Int.reduceMul, Int.reduceToNat, Int.cast_ofNat_Int, k1]))); repeat ((first | (refine cl_drawi 12 D6_12 (List.range 16) (by decide) (by kernel_rfl) ?_; unfold D6_12) | (refine cl_drawi 17 D6_17 (List.range 25) (by decide) (by kernel_rfl) ?_; unfold D6_17)); simp only [S, TY, reduceCtorEq, Nat.reduceEqDiff, Nat.reduceAdd, Nat.reduceLeDiff, Nat.reduceBEq, Int.reduceBEq, Nat.reduceMul, Int.reduceEq, Int.reduceLT, Int.reduceLE, Int.reduceAdd, Int.reduceSub, Int.reduceMul, Int.reduceToNat, Int.cast_ofNat_Int, k1]; (try (simp (disch := omega) only [W2, Int.cast_ofNat_Int]; (try simp only [S, TY, reduceCtorEq, Nat.reduceEqDiff, Nat.reduceAdd, Nat.reduceLeDiff, Nat.reduceBEq, Int.reduceBEq, Nat.reduceMul, Int.reduceEq, Int.reduceLT, Int.reduceLE, Int.reduceAdd, Int.reduceSub, Int.reduceMul, Int.reduceToNat, Int.cast_ofNat_Int, k1])))))
    repeat' (((first
        | ((with_reducible show CallsH _ _ 36 _ _ _); refine (New_ok hk1 hv (by omega)).at_ h [] _ rfl (fun r B H' hr h' => ?_); obtain ⟨rfl, rfl⟩ := NewR_no (by omega) hr; clear hr; skip)
        | ((with_reducible show CallsH _ _ 35 _ _ _); first | (refine (alive).at_ h [] _ rfl (fun r B H' hr h' => ?_); obtain ⟨rfl, rfl⟩ := hr; skip))
        | ((with_reducible show CallsH _ _ 37 _ _ _); first | (refine (May_ok _).at_ h [] _ rfl (fun r B H' hr h' => ?_); obtain ⟨rfl, rfl⟩ := hr; simp only [k2, if_true, if_false]; skip))
        | ((with_reducible show fin _ _ _); first | (exact fin_take (B := []) h ⟨rfl, rfl⟩))
        | ((with_reducible show New _ _ _); first | (refine New_sl h 11 rfl (fun b H' h' => ?_); skip) | (refine New_qsl h 11 rfl (fun b => rfl) (fun b H' h' => ?_); skip) | (refine New_ob h (fun b H' h' => ?_); skip) | (refine New_qob h (fun b H' h' => ?_); skip))
        | ((with_reducible show St _ _); first | (refine sg.st (h.front 0) rfl rfl (fun H' h' => ?_); skip) | (refine sg.st (h.front 1) rfl rfl (fun H' h' => ?_); skip) | (refine sg.st (h.front 2) rfl rfl (fun H' h' => ?_); skip) | (refine sg.st (h.front 3) rfl rfl (fun H' h' => ?_); skip) | (refine sg.st (h.front 4) rfl rfl (fun H' h' => ?_); skip) | (refine sg.st (h.front 5) rfl rfl (fun H' h' => ?_); skip) | (refine sg.st (h.front 6) rfl rfl (fun H' h' => ?_); skip) | (refine sg.st (h.front 7) rfl rfl (fun H' h' => ?_); skip))
        | ((with_reducible show Gate _ _ _); refine Gate.intro (fun g => ?_) (fun g => ?_) <;> (try subst g))
        ) <;> ((try ((try simp only [row, En.l, Ky.l, Ac.l, front_eq] at h'); (try simp only [front_eq, fronts_nil, fronts_cons, List.getElem?_cons_zero, List.getElem?_cons_succ, List.eraseIdx_cons_zero, List.eraseIdx_cons_succ, List.cons_append, List.nil_append, putL_cons, putL_nil, List.set_cons_zero, List.set_cons_succ, Nat.reduceAdd] at h'); clear h; have h := h'; clear h'; (try have fc := h.ci 0 rfl); (try have fl := h.li 0 rfl); (try have fc := h.ci 1 rfl); (try have fl := h.li 1 rfl); (try have fc := h.ci 2 rfl); (try have fl := h.li 2 rfl); (try have fc := h.ci 3 rfl); (try have fl := h.li 3 rfl); (try have fc := h.ci 4 rfl); (try have fl := h.li 4 rfl); (try have fc := h.ci 5 rfl); (try have fl := h.li 5 rfl); (try have fc := h.ci 6 rfl); (try have fl := h.li 6 rfl); (try have fc := h.ci 7 rfl); (try have fl := h.li 7 rfl))); ((try simp only [S, TY, reduceCtorEq, Nat.reduceEqDiff, Nat.reduceAdd, Nat.reduceLeDiff, Nat.reduceBEq, Int.reduceBEq, Nat.reduceMul, Int.reduceEq, Int.reduceLT, Int.reduceLE, Int.reduceAdd, Int.reduceSub, Int.reduceMul, Int.reduceToNat, Int.cast_ofNat_Int, *]); (try (simp (disch := omega) only [W2, Int.cast_ofNat_Int]; (try simp only [S, TY, reduceCtorEq, Nat.reduceEqDiff, Nat.reduceAdd, Nat.reduceLeDiff, Nat.reduceBEq, Int.reduceBEq, Nat.reduceMul, Int.reduceEq, Int.reduceLT, Int.reduceLE, Int.reduceAdd, Int.reduceSub, Int.reduceMul, Int.reduceToNat, Int.cast_ofNat_Int, *]))); repeat ((first | (refine cl_drawi 12 D6_12 (List.range 16) (by decide) (by kernel_rfl) ?_; unfold D6_12) | (refine cl_drawi 17 D6_17 (List.range 25) (by decide) (by kernel_rfl) ?_; unfold D6_17)); simp only [S, TY, reduceCtorEq, Nat.reduceEqDiff, Nat.reduceAdd, Nat.reduceLeDiff, Nat.reduceBEq, Int.reduceBEq, Nat.reduceMul, Int.reduceEq, Int.reduceLT, Int.reduceLE, Int.reduceAdd, Int.reduceSub, Int.reduceMul, Int.reduceToNat, Int.cast_ofNat_Int, *]; (try (simp (disch := omega) only [W2, Int.cast_ofNat_Int]; (try simp only [S, TY, reduceCtorEq, Nat.reduceEqDiff, Nat.reduceAdd, Nat.reduceLeDiff, Nat.reduceBEq, Int.reduceBEq, Nat.reduceMul, Int.reduceEq, Int.reduceLT, Int.reduceLE, Int.reduceAdd, Int.reduceSub, Int.reduceMul, Int.reduceToNat, Int.cast_ofNat_Int, *]))))))))
  refine Con.intro Try.func6 rfl (Nat.le_of_ble_eq_true (by kernel_rfl)) (by kernel_rfl) Try.results6 ?_
  intro H h
  ((try simp only [S, TY, reduceCtorEq, Nat.reduceEqDiff, Nat.reduceAdd, Nat.reduceLeDiff, Nat.reduceBEq, Int.reduceBEq, Nat.reduceMul, Int.reduceEq, Int.reduceLT, Int.reduceLE, Int.reduceAdd, Int.reduceSub, Int.reduceMul, Int.reduceToNat, Int.cast_ofNat_Int, k1]); (try (simp (disch := omega) only [W2, Int.cast_ofNat_Int]; (try simp only [S, TY, reduceCtorEq, Nat.reduceEqDiff, Nat.reduceAdd, Nat.reduceLeDiff, Nat.reduceBEq, Int.reduceBEq, Nat.reduceMul, Int.reduceEq, Int.reduceLT, Int.reduceLE, Int.reduceAdd, Int.reduceSub, Int.reduceMul, Int.reduceToNat, Int.cast_ofNat_Int, k1]))); repeat ((first | (refine cl_drawi 12 D6_12 (List.range 16) (by decide) (by kernel_rfl) ?_; unfold D6_12) | (refine cl_drawi 17 D6_17 (List.range 25) (by decide) (by kernel_rfl) ?_; unfold D6_17)); simp only [S, TY, reduceCtorEq, Nat.reduceEqDiff, Nat.reduceAdd, Nat.reduceLeDiff, Nat.reduceBEq, Int.reduceBEq, Nat.reduceMul, Int.reduceEq, Int.reduceLT, Int.reduceLE, Int.reduceAdd, Int.reduceSub, Int.reduceMul, Int.reduceToNat, Int.cast_ofNat_Int, k1]; (try (simp (disch := omega) only [W2, Int.cast_ofNat_Int]; (try simp only [S, TY, reduceCtorEq, Nat.reduceEqDiff, Nat.reduceAdd, Nat.reduceLeDiff, Nat.reduceBEq, Int.reduceBEq, Nat.reduceMul, Int.reduceEq, Int.reduceLT, Int.reduceLE, Int.reduceAdd, Int.reduceSub, Int.reduceMul, Int.reduceToNat, Int.cast_ofNat_Int, k1])))))
  obtain ⟨⟨k1, k2', k3, k4, k5⟩, hkk⟩ : ∃ q, k = q := ⟨_, rfl⟩
  subst hkk
  obtain ⟨⟨⟨a1, a2, a3, a4⟩, ab⟩, ha⟩ : ∃ r, lookT ⟨k1, k2', k3, k4, k5⟩ l = r := ⟨_, rfl⟩
  repeat' (((first
      | ((with_reducible show CallsH _ _ 36 _ _ _); refine (New_ok hk1 hv (by omega)).at_ h [] _ rfl (fun r B H' hr h' => ?_); obtain ⟨p, rfl, rfl⟩ := NewR_yes (by omega) hr; clear hr; skip)
      | ((with_reducible show CallsH _ _ 38 _ _ _); (with_reducible show CallsH _ _ _ #[Value.slice a _ _] _ _); refine (Of_ok hv (by omega)).at_ h [] _ rfl (fun r B H' hr h' => ?_); subst hr; obtain ⟨ma, mn, mc, rfl, hmn, _⟩ := h'.sl 0 rfl Rd_own; rw [flat_len En.len] at hmn; obtain rfl : l.length = mn := (by omega); clear hmn; skip)
      | ((with_reducible show CallsH _ _ 39 _ _ _); refine (Look_ok (l := l) hk2 ⟨k1, k2', k3, k4, k5⟩ (by omega)).at_ h [1] _ rfl (fun r B H' hr h' => ?_); obtain ⟨rfl, rfl⟩ := hr; rw [ha]; skip)
      | ((with_reducible show CallsH _ _ 41 _ _ _); first | (refine (key_ok ⟨_, _, _, _, _⟩).at_ h [] _ rfl (fun r B H' hr h' => ?_); obtain ⟨rfl, rfl⟩ := hr; skip))
      | ((with_reducible show CallsH _ _ 43 _ _ _); first | (refine (Act_ok ⟨_, _, _, _⟩).at_ h [] _ rfl (fun r B H' hr h' => ?_); obtain ⟨rfl, rfl⟩ := hr; skip))
      | ((with_reducible show CallsH _ _ 40 _ _ _); refine Con.lend_at [] [own 77 11 _ (l.flatMap En.l)] h [2] rfl (fun F hF hs => dLook_ok (seps_own hs 0 rfl).left (by omega) ⟨k1, k2', k3, k4, k5⟩) (fun r B H' hr h' => ?_); obtain ⟨rfl, rfl⟩ := hr; rw [ha]; skip)
      | ((with_reducible show CallsH _ _ 42 _ _ _); refine (Entries_ok (l := l) (by omega)).at_ h [3] _ rfl (fun r B H' hr h' => ?_); subst hr; obtain ⟨ra, rn, rc, rfl, _, _⟩ := h'.sl 0 rfl Rd_own; skip)
      | ((with_reducible show CallsH _ _ 38 _ _ _); refine Con.lend_at [] [own 80 11 _ (l.flatMap En.l)] h [0] rfl (fun F hF hs => Of_ok (seps_own hs 0 rfl).left (by omega)) (fun r B H' hr h' => ?_); subst hr; obtain ⟨ga, gn, gc, rfl, hgn, _⟩ := h'.sl 0 rfl Rd_own; rw [flat_len En.len] at hgn; obtain rfl : l.length = gn := (by omega); clear hgn; skip)
      | ((with_reducible show CallsH _ _ 35 _ _ _); first | (refine (alive).at_ h [] _ rfl (fun r B H' hr h' => ?_); obtain ⟨rfl, rfl⟩ := hr; skip))
      | ((with_reducible show CallsH _ _ 37 _ _ _); first | (refine (May_ok _).at_ h [] _ rfl (fun r B H' hr h' => ?_); obtain ⟨rfl, rfl⟩ := hr; simp only [k2, if_true, if_false]; skip))
      | ((with_reducible show fin _ _ _); first | (exact fin_take (B := []) h ⟨rfl, rfl⟩))
      | ((with_reducible show New _ _ _); first | (refine New_sl h 11 rfl (fun b H' h' => ?_); skip) | (refine New_qsl h 11 rfl (fun b => rfl) (fun b H' h' => ?_); skip) | (refine New_ob h (fun b H' h' => ?_); skip) | (refine New_qob h (fun b H' h' => ?_); skip))
      | ((with_reducible show St _ _); first | (refine sg.st (h.front 0) rfl rfl (fun H' h' => ?_); skip) | (refine sg.st (h.front 1) rfl rfl (fun H' h' => ?_); skip) | (refine sg.st (h.front 2) rfl rfl (fun H' h' => ?_); skip) | (refine sg.st (h.front 3) rfl rfl (fun H' h' => ?_); skip) | (refine sg.st (h.front 4) rfl rfl (fun H' h' => ?_); skip) | (refine sg.st (h.front 5) rfl rfl (fun H' h' => ?_); skip) | (refine sg.st (h.front 6) rfl rfl (fun H' h' => ?_); skip) | (refine sg.st (h.front 7) rfl rfl (fun H' h' => ?_); skip))
      | ((with_reducible show Gate _ _ _); refine Gate.intro (fun g => ?_) (fun g => ?_) <;> (try subst g))
      ) <;> ((try ((try simp only [row, En.l, Ky.l, Ac.l, front_eq] at h'); (try simp only [front_eq, fronts_nil, fronts_cons, List.getElem?_cons_zero, List.getElem?_cons_succ, List.eraseIdx_cons_zero, List.eraseIdx_cons_succ, List.cons_append, List.nil_append, putL_cons, putL_nil, List.set_cons_zero, List.set_cons_succ, Nat.reduceAdd] at h'); clear h; have h := h'; clear h'; (try have fc := h.ci 0 rfl); (try have fl := h.li 0 rfl); (try have fc := h.ci 1 rfl); (try have fl := h.li 1 rfl); (try have fc := h.ci 2 rfl); (try have fl := h.li 2 rfl); (try have fc := h.ci 3 rfl); (try have fl := h.li 3 rfl); (try have fc := h.ci 4 rfl); (try have fl := h.li 4 rfl); (try have fc := h.ci 5 rfl); (try have fl := h.li 5 rfl); (try have fc := h.ci 6 rfl); (try have fl := h.li 6 rfl); (try have fc := h.ci 7 rfl); (try have fl := h.li 7 rfl))); ((try simp only [S, TY, reduceCtorEq, Nat.reduceEqDiff, Nat.reduceAdd, Nat.reduceLeDiff, Nat.reduceBEq, Int.reduceBEq, Nat.reduceMul, Int.reduceEq, Int.reduceLT, Int.reduceLE, Int.reduceAdd, Int.reduceSub, Int.reduceMul, Int.reduceToNat, Int.cast_ofNat_Int, *]); (try (simp (disch := omega) only [W2, Int.cast_ofNat_Int]; (try simp only [S, TY, reduceCtorEq, Nat.reduceEqDiff, Nat.reduceAdd, Nat.reduceLeDiff, Nat.reduceBEq, Int.reduceBEq, Nat.reduceMul, Int.reduceEq, Int.reduceLT, Int.reduceLE, Int.reduceAdd, Int.reduceSub, Int.reduceMul, Int.reduceToNat, Int.cast_ofNat_Int, *]))); repeat ((first | (refine cl_drawi 12 D6_12 (List.range 16) (by decide) (by kernel_rfl) ?_; unfold D6_12) | (refine cl_drawi 17 D6_17 (List.range 25) (by decide) (by kernel_rfl) ?_; unfold D6_17)); simp only [S, TY, reduceCtorEq, Nat.reduceEqDiff, Nat.reduceAdd, Nat.reduceLeDiff, Nat.reduceBEq, Int.reduceBEq, Nat.reduceMul, Int.reduceEq, Int.reduceLT, Int.reduceLE, Int.reduceAdd, Int.reduceSub, Int.reduceMul, Int.reduceToNat, Int.cast_ofNat_Int, *]; (try (simp (disch := omega) only [W2, Int.cast_ofNat_Int]; (try simp only [S, TY, reduceCtorEq, Nat.reduceEqDiff, Nat.reduceAdd, Nat.reduceLeDiff, Nat.reduceBEq, Int.reduceBEq, Nat.reduceMul, Int.reduceEq, Int.reduceLT, Int.reduceLE, Int.reduceAdd, Int.reduceSub, Int.reduceMul, Int.reduceToNat, Int.cast_ofNat_Int, *]))))))))
  have h := (h.fronts [0, 3, 4]).three
  refine cl_loop (fun i e H => i ≤ l.length ∧ e 0 = .slice a l.length c ∧ e 7 = .slice ma l.length mc ∧ e 12 = .slice ga l.length gc ∧ e 13 = .int .i64 (i : Nat) ∧ ∃ q, e 3 = .pointer (some ⟨q, 0, none⟩) ∧
    sg G [own 77 11 (.slice ga l.length gc) (l.flatMap En.l), own 77 11 (.slice ma l.length mc) (l.flatMap En.l), ob q (.cells (⟨k1, k2', k3, k4, k5⟩ : Ky).l.toArray 58 (0, 0))] H) (fun i : Nat => l.length - i) 0
    ⟨by omega, rfl, rfl, rfl, rfl, _, rfl, h⟩ ?_
  clear h
  rintro i e H ⟨q1, q0, q7, q12, q13, q, q3, h⟩
  by_cases g1 : (i : Int) < l.length
  · have hi : i < l.length := by omega
    obtain ⟨b1, o1, rfl, -, el1⟩ := rdI (h.rdsi 0 rfl Rd_own) hi
    obtain ⟨b2, o2, rfl, -, el2⟩ := rdI (h.rdsi 1 rfl Rd_own) hi
    obtain ⟨b3, o3, rfl, -, el3⟩ := rdI (h.ro hv) hi
    have g0 : (0 : Int) ≤ i ∧ (i : Int) < l.length := ⟨by omega, g1⟩
    have fk := h.li 2 rfl
    obtain ⟨x, hx⟩ : ∃ x, l[i] = x := ⟨_, rfl⟩
    rw [hx] at el1 el2 el3
    obtain ⟨x1, x2, x3, x4, x5, x6, x7, x8, x9, x10, x11⟩ := x
    obtain ⟨fb, hfb⟩ : ∃ b, fits ⟨k1, k2', k3, k4, k5⟩ ⟨x1, x2, x3, x4, x5, x6, x7, x8, x9, x10, x11⟩ = b := ⟨_, rfl⟩
    ((try simp only [S, TY, reduceCtorEq, Nat.reduceEqDiff, Nat.reduceAdd, Nat.reduceLeDiff, Nat.reduceBEq, Int.reduceBEq, Nat.reduceMul, Int.reduceEq, Int.reduceLT, Int.reduceLE, Int.reduceAdd, Int.reduceSub, Int.reduceMul, Int.reduceToNat, Int.cast_ofNat_Int, q0, q3, q7, q12, q13, g1, g0, el1, el2, el3, fk]); (try (simp (disch := omega) only [W2, Int.cast_ofNat_Int]; (try simp only [S, TY, reduceCtorEq, Nat.reduceEqDiff, Nat.reduceAdd, Nat.reduceLeDiff, Nat.reduceBEq, Int.reduceBEq, Nat.reduceMul, Int.reduceEq, Int.reduceLT, Int.reduceLE, Int.reduceAdd, Int.reduceSub, Int.reduceMul, Int.reduceToNat, Int.cast_ofNat_Int, q0, q3, q7, q12, q13, g1, g0, el1, el2, el3, fk]))); repeat ((first | (refine cl_drawi 12 D6_12 (List.range 16) (by decide) (by kernel_rfl) ?_; unfold D6_12) | (refine cl_drawi 17 D6_17 (List.range 25) (by decide) (by kernel_rfl) ?_; unfold D6_17)); simp only [S, TY, reduceCtorEq, Nat.reduceEqDiff, Nat.reduceAdd, Nat.reduceLeDiff, Nat.reduceBEq, Int.reduceBEq, Nat.reduceMul, Int.reduceEq, Int.reduceLT, Int.reduceLE, Int.reduceAdd, Int.reduceSub, Int.reduceMul, Int.reduceToNat, Int.cast_ofNat_Int, q0, q3, q7, q12, q13, g1, g0, el1, el2, el3, fk]; (try (simp (disch := omega) only [W2, Int.cast_ofNat_Int]; (try simp only [S, TY, reduceCtorEq, Nat.reduceEqDiff, Nat.reduceAdd, Nat.reduceLeDiff, Nat.reduceBEq, Int.reduceBEq, Nat.reduceMul, Int.reduceEq, Int.reduceLT, Int.reduceLE, Int.reduceAdd, Int.reduceSub, Int.reduceMul, Int.reduceToNat, Int.cast_ofNat_Int, q0, q3, q7, q12, q13, g1, g0, el1, el2, el3, fk])))))
    repeat' (((first
        | (((with_reducible show Go.Sl.Inv _ _ _ _ _); exact .go (i + 1) (by omega) ⟨by omega, q0, q7, q12, rfl, q, q3, h⟩))
        | ((with_reducible show CallsH _ _ 41 _ _ _); first | (refine (key_ok ⟨_, _, _, _, _⟩).at_ h [] _ rfl (fun r B H' hr h' => ?_); obtain ⟨rfl, rfl⟩ := hr; skip))
        | ((with_reducible show CallsH _ _ 44 _ _ _); refine (Fits_ok ⟨x1, x2, x3, x4, x5, x6, x7, x8, x9, x10, x11⟩ ⟨k1, k2', k3, k4, k5⟩).at_ h [] _ rfl (fun r B H' hr h' => ?_); obtain ⟨rfl, rfl⟩ := hr; rw [hfb]; skip)
        | ((with_reducible show CallsH _ _ 45 _ _ _); refine (dFits_ok ⟨x1, x2, x3, x4, x5, x6, x7, x8, x9, x10, x11⟩ ⟨k1, k2', k3, k4, k5⟩).at_ h [] _ rfl (fun r B H' hr h' => ?_); obtain ⟨rfl, rfl⟩ := hr; rw [hfb]; skip)
        | ((with_reducible show New _ _ _); first | (refine New_sl h 11 rfl (fun b H' h' => ?_); skip) | (refine New_qsl h 11 rfl (fun b => rfl) (fun b H' h' => ?_); skip) | (refine New_ob h (fun b H' h' => ?_); skip) | (refine New_qob h (fun b H' h' => ?_); skip))
        | ((with_reducible show St _ _); first | (refine sg.st (h.front 0) rfl rfl (fun H' h' => ?_); skip) | (refine sg.st (h.front 1) rfl rfl (fun H' h' => ?_); skip) | (refine sg.st (h.front 2) rfl rfl (fun H' h' => ?_); skip) | (refine sg.st (h.front 3) rfl rfl (fun H' h' => ?_); skip) | (refine sg.st (h.front 4) rfl rfl (fun H' h' => ?_); skip) | (refine sg.st (h.front 5) rfl rfl (fun H' h' => ?_); skip) | (refine sg.st (h.front 6) rfl rfl (fun H' h' => ?_); skip) | (refine sg.st (h.front 7) rfl rfl (fun H' h' => ?_); skip))
        | ((with_reducible show Gate _ _ _); refine Gate.intro (fun g => ?_) (fun g => ?_) <;> (try subst g))
        ) <;> ((try ((try simp only [row, En.l, Ky.l, Ac.l, front_eq] at h'); (try simp only [front_eq, fronts_nil, fronts_cons, List.getElem?_cons_zero, List.getElem?_cons_succ, List.eraseIdx_cons_zero, List.eraseIdx_cons_succ, List.cons_append, List.nil_append, putL_cons, putL_nil, List.set_cons_zero, List.set_cons_succ, Nat.reduceAdd] at h'); clear h; have h := h'; clear h'; (try have fc := h.ci 0 rfl); (try have fl := h.li 0 rfl); (try have fc := h.ci 1 rfl); (try have fl := h.li 1 rfl); (try have fc := h.ci 2 rfl); (try have fl := h.li 2 rfl); (try have fc := h.ci 3 rfl); (try have fl := h.li 3 rfl); (try have fc := h.ci 4 rfl); (try have fl := h.li 4 rfl); (try have fc := h.ci 5 rfl); (try have fl := h.li 5 rfl); (try have fc := h.ci 6 rfl); (try have fl := h.li 6 rfl); (try have fc := h.ci 7 rfl); (try have fl := h.li 7 rfl); (try (have el1 := rdX (h.rdsi 0 rfl Rd_own) hi hx)); (try (have el2 := rdX (h.rdsi 1 rfl Rd_own) hi hx)); (try (have el3 := rdX (h.ro hv) hi hx)))); ((try simp only [S, TY, reduceCtorEq, Nat.reduceEqDiff, Nat.reduceAdd, Nat.reduceLeDiff, Nat.reduceBEq, Int.reduceBEq, Nat.reduceMul, Int.reduceEq, Int.reduceLT, Int.reduceLE, Int.reduceAdd, Int.reduceSub, Int.reduceMul, Int.reduceToNat, Int.cast_ofNat_Int, q0, q3, q7, q12, q13, *]); (try (simp (disch := omega) only [W2, Int.cast_ofNat_Int]; (try simp only [S, TY, reduceCtorEq, Nat.reduceEqDiff, Nat.reduceAdd, Nat.reduceLeDiff, Nat.reduceBEq, Int.reduceBEq, Nat.reduceMul, Int.reduceEq, Int.reduceLT, Int.reduceLE, Int.reduceAdd, Int.reduceSub, Int.reduceMul, Int.reduceToNat, Int.cast_ofNat_Int, q0, q3, q7, q12, q13, *]))); repeat ((first | (refine cl_drawi 12 D6_12 (List.range 16) (by decide) (by kernel_rfl) ?_; unfold D6_12) | (refine cl_drawi 17 D6_17 (List.range 25) (by decide) (by kernel_rfl) ?_; unfold D6_17)); simp only [S, TY, reduceCtorEq, Nat.reduceEqDiff, Nat.reduceAdd, Nat.reduceLeDiff, Nat.reduceBEq, Int.reduceBEq, Nat.reduceMul, Int.reduceEq, Int.reduceLT, Int.reduceLE, Int.reduceAdd, Int.reduceSub, Int.reduceMul, Int.reduceToNat, Int.cast_ofNat_Int, q0, q3, q7, q12, q13, *]; (try (simp (disch := omega) only [W2, Int.cast_ofNat_Int]; (try simp only [S, TY, reduceCtorEq, Nat.reduceEqDiff, Nat.reduceAdd, Nat.reduceLeDiff, Nat.reduceBEq, Int.reduceBEq, Nat.reduceMul, Int.reduceEq, Int.reduceLT, Int.reduceLE, Int.reduceAdd, Int.reduceSub, Int.reduceMul, Int.reduceToNat, Int.cast_ofNat_Int, q0, q3, q7, q12, q13, *]))))))))
  · have fk := h.li 2 rfl
    ((try simp only [S, TY, reduceCtorEq, Nat.reduceEqDiff, Nat.reduceAdd, Nat.reduceLeDiff, Nat.reduceBEq, Int.reduceBEq, Nat.reduceMul, Int.reduceEq, Int.reduceLT, Int.reduceLE, Int.reduceAdd, Int.reduceSub, Int.reduceMul, Int.reduceToNat, Int.cast_ofNat_Int, q0, q3, q7, q12, q13, g1, fk]); (try (simp (disch := omega) only [W2, Int.cast_ofNat_Int]; (try simp only [S, TY, reduceCtorEq, Nat.reduceEqDiff, Nat.reduceAdd, Nat.reduceLeDiff, Nat.reduceBEq, Int.reduceBEq, Nat.reduceMul, Int.reduceEq, Int.reduceLT, Int.reduceLE, Int.reduceAdd, Int.reduceSub, Int.reduceMul, Int.reduceToNat, Int.cast_ofNat_Int, q0, q3, q7, q12, q13, g1, fk]))); repeat ((first | (refine cl_drawi 12 D6_12 (List.range 16) (by decide) (by kernel_rfl) ?_; unfold D6_12) | (refine cl_drawi 17 D6_17 (List.range 25) (by decide) (by kernel_rfl) ?_; unfold D6_17)); simp only [S, TY, reduceCtorEq, Nat.reduceEqDiff, Nat.reduceAdd, Nat.reduceLeDiff, Nat.reduceBEq, Int.reduceBEq, Nat.reduceMul, Int.reduceEq, Int.reduceLT, Int.reduceLE, Int.reduceAdd, Int.reduceSub, Int.reduceMul, Int.reduceToNat, Int.cast_ofNat_Int, q0, q3, q7, q12, q13, g1, fk]; (try (simp (disch := omega) only [W2, Int.cast_ofNat_Int]; (try simp only [S, TY, reduceCtorEq, Nat.reduceEqDiff, Nat.reduceAdd, Nat.reduceLeDiff, Nat.reduceBEq, Int.reduceBEq, Nat.reduceMul, Int.reduceEq, Int.reduceLT, Int.reduceLE, Int.reduceAdd, Int.reduceSub, Int.reduceMul, Int.reduceToNat, Int.cast_ofNat_Int, q0, q3, q7, q12, q13, g1, fk])))))
    repeat' (((first
        | ((with_reducible show CallsH _ _ 39 _ _ _); refine (Look_nil ⟨k1, k2', k3, k4, k5⟩).at_ h [] _ rfl (fun r B H' hr h' => ?_); obtain ⟨rfl, rfl⟩ := hr; skip)
        | ((with_reducible show CallsH _ _ 42 _ _ _); first | (refine (Entries_nil).at_ h [] _ rfl (fun r B H' hr h' => ?_); obtain ⟨rfl, rfl⟩ := hr; skip))
        | ((with_reducible show CallsH _ _ 35 _ _ _); first | (refine (alive).at_ h [] _ rfl (fun r B H' hr h' => ?_); obtain ⟨rfl, rfl⟩ := hr; skip))
        | ((with_reducible show CallsH _ _ 37 _ _ _); first | (refine (May_ok _).at_ h [] _ rfl (fun r B H' hr h' => ?_); obtain ⟨rfl, rfl⟩ := hr; simp only [k2, if_true, if_false]; skip))
        | ((with_reducible show fin _ _ _); first | (exact fin_take (B := []) h ⟨rfl, rfl⟩))
        | ((with_reducible show New _ _ _); first | (refine New_sl h 11 rfl (fun b H' h' => ?_); skip) | (refine New_qsl h 11 rfl (fun b => rfl) (fun b H' h' => ?_); skip) | (refine New_ob h (fun b H' h' => ?_); skip) | (refine New_qob h (fun b H' h' => ?_); skip))
        | ((with_reducible show St _ _); first | (refine sg.st (h.front 0) rfl rfl (fun H' h' => ?_); skip) | (refine sg.st (h.front 1) rfl rfl (fun H' h' => ?_); skip) | (refine sg.st (h.front 2) rfl rfl (fun H' h' => ?_); skip) | (refine sg.st (h.front 3) rfl rfl (fun H' h' => ?_); skip) | (refine sg.st (h.front 4) rfl rfl (fun H' h' => ?_); skip) | (refine sg.st (h.front 5) rfl rfl (fun H' h' => ?_); skip) | (refine sg.st (h.front 6) rfl rfl (fun H' h' => ?_); skip) | (refine sg.st (h.front 7) rfl rfl (fun H' h' => ?_); skip))
        | ((with_reducible show Gate _ _ _); refine Gate.intro (fun g => ?_) (fun g => ?_) <;> (try subst g))
        ) <;> ((try ((try simp only [row, En.l, Ky.l, Ac.l, front_eq] at h'); (try simp only [front_eq, fronts_nil, fronts_cons, List.getElem?_cons_zero, List.getElem?_cons_succ, List.eraseIdx_cons_zero, List.eraseIdx_cons_succ, List.cons_append, List.nil_append, putL_cons, putL_nil, List.set_cons_zero, List.set_cons_succ, Nat.reduceAdd] at h'); clear h; have h := h'; clear h'; (try have fc := h.ci 0 rfl); (try have fl := h.li 0 rfl); (try have fc := h.ci 1 rfl); (try have fl := h.li 1 rfl); (try have fc := h.ci 2 rfl); (try have fl := h.li 2 rfl); (try have fc := h.ci 3 rfl); (try have fl := h.li 3 rfl); (try have fc := h.ci 4 rfl); (try have fl := h.li 4 rfl); (try have fc := h.ci 5 rfl); (try have fl := h.li 5 rfl); (try have fc := h.ci 6 rfl); (try have fl := h.li 6 rfl); (try have fc := h.ci 7 rfl); (try have fl := h.li 7 rfl))); ((try simp only [S, TY, reduceCtorEq, Nat.reduceEqDiff, Nat.reduceAdd, Nat.reduceLeDiff, Nat.reduceBEq, Int.reduceBEq, Nat.reduceMul, Int.reduceEq, Int.reduceLT, Int.reduceLE, Int.reduceAdd, Int.reduceSub, Int.reduceMul, Int.reduceToNat, Int.cast_ofNat_Int, q0, q3, q7, q12, q13, *]); (try (simp (disch := omega) only [W2, Int.cast_ofNat_Int]; (try simp only [S, TY, reduceCtorEq, Nat.reduceEqDiff, Nat.reduceAdd, Nat.reduceLeDiff, Nat.reduceBEq, Int.reduceBEq, Nat.reduceMul, Int.reduceEq, Int.reduceLT, Int.reduceLE, Int.reduceAdd, Int.reduceSub, Int.reduceMul, Int.reduceToNat, Int.cast_ofNat_Int, q0, q3, q7, q12, q13, *]))); repeat ((first | (refine cl_drawi 12 D6_12 (List.range 16) (by decide) (by kernel_rfl) ?_; unfold D6_12) | (refine cl_drawi 17 D6_17 (List.range 25) (by decide) (by kernel_rfl) ?_; unfold D6_17)); simp only [S, TY, reduceCtorEq, Nat.reduceEqDiff, Nat.reduceAdd, Nat.reduceLeDiff, Nat.reduceBEq, Int.reduceBEq, Nat.reduceMul, Int.reduceEq, Int.reduceLT, Int.reduceLE, Int.reduceAdd, Int.reduceSub, Int.reduceMul, Int.reduceToNat, Int.cast_ofNat_Int, q0, q3, q7, q12, q13, *]; (try (simp (disch := omega) only [W2, Int.cast_ofNat_Int]; (try simp only [S, TY, reduceCtorEq, Nat.reduceEqDiff, Nat.reduceAdd, Nat.reduceLeDiff, Nat.reduceBEq, Int.reduceBEq, Nat.reduceMul, Int.reduceEq, Int.reduceLT, Int.reduceLE, Int.reduceAdd, Int.reduceSub, Int.reduceMul, Int.reduceToNat, Int.cast_ofNat_Int, q0, q3, q7, q12, q13, *]))))))))
end Go.Proofs.Ytfjmejideoklpaa.FlM
