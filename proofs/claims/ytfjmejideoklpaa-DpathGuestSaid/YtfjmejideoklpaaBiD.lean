/- Rows bound at a chassis: the table of rows; the document's first row, and rows that stand; the laws' live question. -/
import Derived.Test.YtfjmejideoklpaaBiP
set_option linter.unusedVariables false
set_option linter.unusedSimpArgs false
set_option maxRecDepth 10000
set_option maxHeartbeats 2000000
namespace Go.Proofs.Ytfjmejideoklpaa.BiD
open Nat renaming reduceEqDiff → nq0, reduceAdd → nq1, reduceLeDiff → nq2, reduceBEq → nq3, reduceMul → nq4
open Int renaming reduceBEq → iq0, reduceEq → iq1, reduceLT → iq2, reduceLE → iq3, reduceAdd → iq4, reduceSub → iq5, reduceMul → iq6, reduceToNat → iq7, cast_ofNat_Int → iq8
open Go Go.Sl Go.Proofs Go.Proofs.Ytfjmejideoklpaa.So Go.Proofs.Ytfjmejideoklpaa.SoI Go.Proofs.Ytfjmejideoklpaa.SoM Go.Proofs.Ytfjmejideoklpaa.Fl Go.Proofs.Ytfjmejideoklpaa.FlT Go.Proofs.Ytfjmejideoklpaa.FlD Go.Proofs.Ytfjmejideoklpaa.FlL Go.Proofs.Ytfjmejideoklpaa.Ph Go.Proofs.Ytfjmejideoklpaa.Bi Go.Proofs.Ytfjmejideoklpaa.BiC Go.Proofs.Ytfjmejideoklpaa.BiP
theorem TY : aggN Try.prog 3 = some none ∧
  aggN Try.prog 25 = some (some 9) ∧
  aggN Try.prog 34 = some none ∧
  aggN Try.prog 56 = some none ∧
  aggN Try.prog 58 = some (some 5) ∧
  aggN Try.prog 59 = some none ∧
  aggN Try.prog 66 = some (some 4) ∧
  aggN Try.prog 69 = some (some 4) ∧
  aggN Try.prog 72 = some (some 5) ∧
  aggN Try.prog 80 = some (some 11) ∧
  aggN Try.prog 118 = some none ∧
  apI Try.prog 56 = some (80, 11, 88) ∧
  apI Try.prog 118 = some (25, 9, 72) ∧
  bIs Try.prog 25 = true ∧
  bIs Try.prog 58 = true ∧
  bIs Try.prog 66 = true ∧
  bIs Try.prog 69 = true ∧
  bIs Try.prog 72 = true ∧
  bIs Try.prog 80 = true ∧
  csz Try.prog 3 = some 1 ∧
  csz Try.prog 25 = some 9 ∧
  csz Try.prog 34 = some 1 ∧
  csz Try.prog 56 = some 1 ∧
  csz Try.prog 58 = some 5 ∧
  csz Try.prog 59 = some 1 ∧
  csz Try.prog 66 = some 4 ∧
  csz Try.prog 69 = some 4 ∧
  csz Try.prog 72 = some 5 ∧
  csz Try.prog 80 = some 11 ∧
  csz Try.prog 118 = some 1 ∧
  eqF Try.prog 25 = some [.i, .i, .i, .i, .i, .i, .i, .i, .i] ∧
  eqF Try.prog 58 = some [.i, .i, .i, .i, .i] ∧
  eqF Try.prog 66 = some [.i, .i, .i, .i] ∧
  eqF Try.prog 69 = some [.i, .i, .i, .i] ∧
  eqF Try.prog 72 = some [.i, .i, .i, .i, .i] ∧
  eqF Try.prog 80 = some [.i, .i, .i, .i, .i, .i, .i, .i, .i, .i, .i] ∧
  fIs Try.prog 25 0 = true ∧
  fIs Try.prog 66 0 = true ∧
  fIs Try.prog 66 2 = true ∧
  fIs Try.prog 69 0 = true ∧
  fOff Try.prog 25 0 = 0 ∧
  fOff Try.prog 66 0 = 0 ∧
  fOff Try.prog 66 2 = 2 ∧
  fOff Try.prog 69 0 = 0 ∧
  fTy Try.prog 25 0 = 3 ∧
  fTy Try.prog 66 0 = 3 ∧
  fTy Try.prog 66 2 = 3 ∧
  fTy Try.prog 69 0 = 3 ∧
  goes Try.prog 20 = true ∧
  goes Try.prog 36 = true ∧
  goes Try.prog 39 = true ∧
  goes Try.prog 67 = true ∧
  goes Try.prog 69 = true ∧
  goes Try.prog 73 = true ∧
  goes Try.prog 75 = true ∧
  inIs Try.prog 3 = some .i64 ∧
  inIs Try.prog 34 = some .i64 ∧
  plcs Try.prog 25 = [(0, 1), (1, 1), (2, 1), (3, 1), (4, 1), (5, 1), (6, 1), (7, 1), (8, 1)] ∧
  plcs Try.prog 58 = [(0, 1), (1, 1), (2, 1), (3, 1), (4, 1)] ∧
  plcs Try.prog 66 = [(0, 1), (1, 1), (2, 1), (3, 1)] ∧
  plcs Try.prog 69 = [(0, 1), (1, 1), (2, 1), (3, 1)] ∧
  plcs Try.prog 72 = [(0, 1), (1, 1), (2, 1), (3, 1), (4, 1)] ∧
  plcs Try.prog 80 = [(0, 1), (1, 1), (2, 1), (3, 1), (4, 1), (5, 1), (6, 1), (7, 4)] ∧
  ptIs Try.prog 59 = true ∧
  slEl Try.prog 56 = 80 ∧
  slEl Try.prog 118 = 25 ∧
  slIs Try.prog 56 = true ∧
  slIs Try.prog 118 = true ∧
  slSz Try.prog 56 = 11 ∧
  slSz Try.prog 118 = 9 ∧
  zcs Try.prog 25 = [.int .i64 0, .int .u64 0, .int .i64 0, .int .i64 0, .int .i64 0, .int .i64 0, .int .i64 0, .int .i64 0, .int .i64 0] ∧
  zcs Try.prog 58 = [.int .i64 0, .int .u64 0, .int .i64 0, .int .i64 0, .int .i64 0] ∧
  zcs Try.prog 66 = [.int .i64 0, .int .i64 0, .int .i64 0, .int .i64 0] ∧
  zcs Try.prog 69 = [.int .i64 0, .int .i64 0, .int .i64 0, .int .i64 0] ∧
  zcs Try.prog 72 = [.int .i64 0, .int .u64 0, .int .i64 0, .int .i64 0, .int .i64 0] ∧
  zcs Try.prog 80 = [.int .i64 0, .int .i64 0, .int .u64 0, .int .i64 0, .int .i64 0, .int .i64 0, .int .i64 0, .int .i64 0, .int .i64 0, .int .i64 0, .int .i64 0] ∧
  zro Try.prog 3 = some (.int .i64 0) ∧
  zro Try.prog 25 = some (.agg #[.int .i64 0, .int .u64 0, .int .i64 0, .int .i64 0, .int .i64 0, .int .i64 0, .int .i64 0, .int .i64 0, .int .i64 0]) ∧
  zro Try.prog 34 = some (.int .i64 0) ∧
  zro Try.prog 56 = some (.slice none 0 0) ∧
  zro Try.prog 58 = some (.agg #[.int .i64 0, .int .u64 0, .int .i64 0, .int .i64 0, .int .i64 0]) ∧
  zro Try.prog 59 = some (.pointer none) ∧
  zro Try.prog 66 = some (.agg #[.int .i64 0, .int .i64 0, .int .i64 0, .int .i64 0]) ∧
  zro Try.prog 69 = some (.agg #[.int .i64 0, .int .i64 0, .int .i64 0, .int .i64 0]) ∧
  zro Try.prog 72 = some (.agg #[.int .i64 0, .int .u64 0, .int .i64 0, .int .i64 0, .int .i64 0]) ∧
  zro Try.prog 80 = some (.agg #[.int .i64 0, .int .i64 0, .int .u64 0, .int .i64 0, .int .i64 0, .int .i64 0, .int .i64 0, .int .i64 0, .int .i64 0, .int .i64 0, .int .i64 0]) ∧
  zro Try.prog 118 = some (.slice none 0 0) :=
  ⟨by kernel_rfl, by kernel_rfl, by kernel_rfl, by kernel_rfl, by kernel_rfl, by kernel_rfl, by kernel_rfl, by kernel_rfl, by kernel_rfl, by kernel_rfl, by kernel_rfl, by kernel_rfl, by kernel_rfl, by kernel_rfl, by kernel_rfl, by kernel_rfl, by kernel_rfl, by kernel_rfl, by kernel_rfl, by kernel_rfl, by kernel_rfl, by kernel_rfl, by kernel_rfl, by kernel_rfl, by kernel_rfl, by kernel_rfl, by kernel_rfl, by kernel_rfl, by kernel_rfl, by kernel_rfl, by kernel_rfl, by kernel_rfl, by kernel_rfl, by kernel_rfl, by kernel_rfl, by kernel_rfl, by kernel_rfl, by kernel_rfl, by kernel_rfl, by kernel_rfl, by kernel_rfl, by kernel_rfl, by kernel_rfl, by kernel_rfl, by kernel_rfl, by kernel_rfl, by kernel_rfl, by kernel_rfl, by kernel_rfl, by kernel_rfl, by kernel_rfl, by kernel_rfl, by kernel_rfl, by kernel_rfl, by kernel_rfl, by kernel_rfl, by kernel_rfl, by kernel_rfl, by kernel_rfl, by kernel_rfl, by kernel_rfl, by kernel_rfl, by kernel_rfl, by kernel_rfl, by kernel_rfl, by kernel_rfl, by kernel_rfl, by kernel_rfl, by kernel_rfl, by kernel_rfl, by kernel_rfl, by kernel_rfl, by kernel_rfl, by kernel_rfl, by kernel_rfl, by kernel_rfl, by kernel_rfl, by kernel_rfl, by kernel_rfl, by kernel_rfl, by kernel_rfl, by kernel_rfl, by kernel_rfl, by kernel_rfl, by kernel_rfl, by kernel_rfl, by kernel_rfl⟩
def D71_10 : List Note := Go.Sl.nn [0, 0, 0, 0, 1, 0, 0, 0, 0, 1, 0]
def D74_4 : List Note := Go.Sl.nn [0, 0, 0, 1, 0, 1, 3, 2, 3]
theorem Table_ok {G : Hp} {v : Value} {l : List Rw} (c : Int) (hv : rws G v l) (hll : l.length ≤ 100) : Con Try.prog G 73 [.int .i64 c, v] [] (fun r B => ∃ p, r = .tuple #[.pointer (some ⟨p, 0, none⟩), .int .i64 0] ∧ B = [tb p (l.flatMap (comp c))]) := by
  have hl := comp_len c l
  refine Con.intro Try.func73 rfl (Nat.le_of_ble_eq_true (by kernel_rfl)) (by kernel_rfl) Try.results73 ?_
  intro H h
  ((try simp only [S, TY, reduceCtorEq, nq0, nq1, nq2, nq3, nq4, iq0, iq1, iq2, iq3, iq4, iq5, iq6, iq7, iq8]); (try (simp (disch := omega) only [W2, Int.cast_ofNat_Int]; (try simp only [S, TY, reduceCtorEq, nq0, nq1, nq2, nq3, nq4, iq0, iq1, iq2, iq3, iq4, iq5, iq6, iq7, iq8]))))
  refine (Compile_ok c hv (by omega)).at_ h [] _ rfl (fun r B H2 hr h2 => ?_)
  subst hr
  ((try simp only [S, TY, reduceCtorEq, nq0, nq1, nq2, nq3, nq4, iq0, iq1, iq2, iq3, iq4, iq5, iq6, iq7, iq8]); (try (simp (disch := omega) only [W2, Int.cast_ofNat_Int]; (try simp only [S, TY, reduceCtorEq, nq0, nq1, nq2, nq3, nq4, iq0, iq1, iq2, iq3, iq4, iq5, iq6, iq7, iq8]))))
  refine Con.lend_at [] [own 80 11 _ ((l.flatMap (comp c)).flatMap En.l)] h2 [0] rfl (fun F hF hs => New_ok hk1 (seps_own hs 0 rfl).left (by omega)) (fun r B H' hr h' => ?_)
  obtain ⟨p, rfl, rfl⟩ := NewR_yes (by omega) hr
  ((try simp only [S, TY, reduceCtorEq, nq0, nq1, nq2, nq3, nq4, iq0, iq1, iq2, iq3, iq4, iq5, iq6, iq7, iq8]); (try (simp (disch := omega) only [W2, Int.cast_ofNat_Int]; (try simp only [S, TY, reduceCtorEq, nq0, nq1, nq2, nq3, nq4, iq0, iq1, iq2, iq3, iq4, iq5, iq6, iq7, iq8]))))
  exact fin_take (B := [_]) h' ⟨p, rfl, rfl⟩
theorem dFirst_ok {G : Hp} {v : Value} {l : List Rw} (c : Int) (k : Ky) (hv : rws G v l) (hll : l.length ≤ 1000) : Con Try.prog G 74 [v, .int .i64 c, k.v] [] (fun r B => r = .tuple #[(first l c k).1.v, .bool (first l c k).2] ∧ B = []) := by
  obtain ⟨a, n, cc, rfl, e1, e2⟩ := hv.slice
  rw [flat_len Rw.len] at e1
  obtain rfl : l.length = n := by omega
  clear e1
  refine Con.intro Try.func74 rfl (Nat.le_of_ble_eq_true (by kernel_rfl)) (by kernel_rfl) Try.results74 ?_
  intro H h
  ((try simp only [S, TY, reduceCtorEq, nq0, nq1, nq2, nq3, nq4, iq0, iq1, iq2, iq3, iq4, iq5, iq6, iq7, iq8]); (try (simp (disch := omega) only [W2, Int.cast_ofNat_Int]; (try simp only [S, TY, reduceCtorEq, nq0, nq1, nq2, nq3, nq4, iq0, iq1, iq2, iq3, iq4, iq5, iq6, iq7, iq8]))); repeat ((first | (refine cl_drawi 4 D74_4 (List.range 9) (by decide) (by kernel_rfl) ?_; unfold D74_4)); simp only [S, TY, reduceCtorEq, nq0, nq1, nq2, nq3, nq4, iq0, iq1, iq2, iq3, iq4, iq5, iq6, iq7, iq8]; (try (simp (disch := omega) only [W2, Int.cast_ofNat_Int]; (try simp only [S, TY, reduceCtorEq, nq0, nq1, nq2, nq3, nq4, iq0, iq1, iq2, iq3, iq4, iq5, iq6, iq7, iq8])))))
  iterate 2 (all_goals (try ((first
      | ((with_reducible show New _ _ _); first | (refine New_sl h 9 rfl (fun b H' h' => ?_); skip) | (refine New_qsl h 9 rfl (fun b => rfl) (fun b H' h' => ?_); skip) | (refine New_ob h (fun b H' h' => ?_); skip) | (refine New_qob h (fun b H' h' => ?_); skip))
      | ((with_reducible show St _ _); first | (refine sg.st (h.front 0) rfl rfl (fun H' h' => ?_); skip) | (refine sg.st (h.front 1) rfl rfl (fun H' h' => ?_); skip) | (refine sg.st (h.front 2) rfl rfl (fun H' h' => ?_); skip) | (refine sg.st (h.front 3) rfl rfl (fun H' h' => ?_); skip) | (refine sg.st (h.front 4) rfl rfl (fun H' h' => ?_); skip) | (refine sg.st (h.front 5) rfl rfl (fun H' h' => ?_); skip) | (refine sg.st (h.front 6) rfl rfl (fun H' h' => ?_); skip) | (refine sg.st (h.front 7) rfl rfl (fun H' h' => ?_); skip))
      | ((with_reducible show Gate _ _ _); refine Gate.intro (fun g => ?_) (fun g => ?_) <;> (try subst g))
      ) <;> ((try ((try simp only [row, En.l, Ky.l, Ac.l, Rw.l, front_eq] at h'); (try simp only [front_eq, fronts_nil, fronts_cons, List.getElem?_cons_zero, List.getElem?_cons_succ, List.eraseIdx_cons_zero, List.eraseIdx_cons_succ, List.cons_append, List.nil_append, putL_cons, putL_nil, List.set_cons_zero, List.set_cons_succ, Nat.reduceAdd] at h'); clear h; have h := h'; clear h'; (try have fc := h.ci 0 rfl); (try have fl := h.li 0 rfl); (try have fc := h.ci 1 rfl); (try have fl := h.li 1 rfl); (try have fc := h.ci 2 rfl); (try have fl := h.li 2 rfl); (try have fc := h.ci 3 rfl); (try have fl := h.li 3 rfl); (try have fc := h.ci 4 rfl); (try have fl := h.li 4 rfl); (try have fc := h.ci 5 rfl); (try have fl := h.li 5 rfl); (try have fc := h.ci 6 rfl); (try have fl := h.li 6 rfl); (try have fc := h.ci 7 rfl); (try have fl := h.li 7 rfl))); ((try simp only [S, TY, reduceCtorEq, nq0, nq1, nq2, nq3, nq4, iq0, iq1, iq2, iq3, iq4, iq5, iq6, iq7, iq8, *]); (try (simp (disch := omega) only [W2, Int.cast_ofNat_Int]; (try simp only [S, TY, reduceCtorEq, nq0, nq1, nq2, nq3, nq4, iq0, iq1, iq2, iq3, iq4, iq5, iq6, iq7, iq8, *]))); repeat ((first | (refine cl_drawi 4 D74_4 (List.range 9) (by decide) (by kernel_rfl) ?_; unfold D74_4)); simp only [S, TY, reduceCtorEq, nq0, nq1, nq2, nq3, nq4, iq0, iq1, iq2, iq3, iq4, iq5, iq6, iq7, iq8, *]; (try (simp (disch := omega) only [W2, Int.cast_ofNat_Int]; (try simp only [S, TY, reduceCtorEq, nq0, nq1, nq2, nq3, nq4, iq0, iq1, iq2, iq3, iq4, iq5, iq6, iq7, iq8, *])))))))))
  refine cl_loop (fun i e H => i ≤ l.length ∧ e 0 = .slice a l.length cc ∧ e 1 = .int .i64 c ∧ e 8 = .int .i64 (i : Nat) ∧ (l.take i).find? (fun r => decide ((means r c k).kind ≠ 0)) = none ∧
    ∃ p q, e 6 = .pointer (some ⟨p, 0, none⟩) ∧ e 5 = .pointer (some ⟨q, 0, none⟩) ∧ sg G [ob p (.cells (⟨0, 0, 0, 0⟩ : Ac).l.toArray 69 (0, 0)), ob q (.cells k.l.toArray 72 (0, 0))] H) (fun i : Nat => l.length - i) 0
    ⟨by omega, rfl, rfl, rfl, rfl, _, _, rfl, rfl, h⟩ ?_
  clear h
  rintro i e H ⟨q1, q0, qc, q8, qf, p, q, q6, q5, h⟩
  by_cases g1 : (i : Int) < l.length
  · obtain ⟨b, off, hl, rfl, hc, hld⟩ := hv.el Rw.len (i := i) (by omega) (by omega)
    have g0 : (0 : Int) ≤ i ∧ (i : Int) < l.length := ⟨by omega, g1⟩
    have el := h.rold hld
    have hs : l.take (i + 1) = l.take i ++ [l[i]] := by rw [List.take_add_one, List.getElem?_eq_getElem hl]; rfl
    have fk := h.li 1 rfl
    clear hc hld
    ((try simp only [S, TY, reduceCtorEq, nq0, nq1, nq2, nq3, nq4, iq0, iq1, iq2, iq3, iq4, iq5, iq6, iq7, iq8, q0, qc, q5, q6, q8, g1, g0, el, fk]); (try (simp (disch := omega) only [W2, Int.cast_ofNat_Int]; (try simp only [S, TY, reduceCtorEq, nq0, nq1, nq2, nq3, nq4, iq0, iq1, iq2, iq3, iq4, iq5, iq6, iq7, iq8, q0, qc, q5, q6, q8, g1, g0, el, fk]))); repeat ((first | (refine cl_drawi 4 D74_4 (List.range 9) (by decide) (by kernel_rfl) ?_; unfold D74_4)); simp only [S, TY, reduceCtorEq, nq0, nq1, nq2, nq3, nq4, iq0, iq1, iq2, iq3, iq4, iq5, iq6, iq7, iq8, q0, qc, q5, q6, q8, g1, g0, el, fk]; (try (simp (disch := omega) only [W2, Int.cast_ofNat_Int]; (try simp only [S, TY, reduceCtorEq, nq0, nq1, nq2, nq3, nq4, iq0, iq1, iq2, iq3, iq4, iq5, iq6, iq7, iq8, q0, qc, q5, q6, q8, g1, g0, el, fk])))))
    refine (dMeans_ok l[i] c k).at_ h [] _ rfl (fun r B H' hr h' => ?_)
    obtain ⟨rfl, rfl⟩ := hr
    obtain ⟨⟨m1, m2, m3, m4⟩, hm⟩ : ∃ m, means l[i] c k = m := ⟨_, rfl⟩
    rw [hm]
    clear el fk h
    have h := h'
    clear h'
    by_cases g2 : m1 = 0
    · subst g2
      ((try simp only [S, TY, reduceCtorEq, nq0, nq1, nq2, nq3, nq4, iq0, iq1, iq2, iq3, iq4, iq5, iq6, iq7, iq8, q0, qc, q5, q6, q8]); (try (simp (disch := omega) only [W2, Int.cast_ofNat_Int]; (try simp only [S, TY, reduceCtorEq, nq0, nq1, nq2, nq3, nq4, iq0, iq1, iq2, iq3, iq4, iq5, iq6, iq7, iq8, q0, qc, q5, q6, q8]))); repeat ((first | (refine cl_drawi 4 D74_4 (List.range 9) (by decide) (by kernel_rfl) ?_; unfold D74_4)); simp only [S, TY, reduceCtorEq, nq0, nq1, nq2, nq3, nq4, iq0, iq1, iq2, iq3, iq4, iq5, iq6, iq7, iq8, q0, qc, q5, q6, q8]; (try (simp (disch := omega) only [W2, Int.cast_ofNat_Int]; (try simp only [S, TY, reduceCtorEq, nq0, nq1, nq2, nq3, nq4, iq0, iq1, iq2, iq3, iq4, iq5, iq6, iq7, iq8, q0, qc, q5, q6, q8])))))
      iterate 3 (all_goals (try ((first
          | ((with_reducible show New _ _ _); first | (refine New_sl h 9 rfl (fun b H' h' => ?_); skip) | (refine New_qsl h 9 rfl (fun b => rfl) (fun b H' h' => ?_); skip) | (refine New_ob h (fun b H' h' => ?_); skip) | (refine New_qob h (fun b H' h' => ?_); skip))
          | ((with_reducible show St _ _); first | (refine sg.st (h.front 0) rfl rfl (fun H' h' => ?_); skip) | (refine sg.st (h.front 1) rfl rfl (fun H' h' => ?_); skip) | (refine sg.st (h.front 2) rfl rfl (fun H' h' => ?_); skip) | (refine sg.st (h.front 3) rfl rfl (fun H' h' => ?_); skip) | (refine sg.st (h.front 4) rfl rfl (fun H' h' => ?_); skip) | (refine sg.st (h.front 5) rfl rfl (fun H' h' => ?_); skip) | (refine sg.st (h.front 6) rfl rfl (fun H' h' => ?_); skip) | (refine sg.st (h.front 7) rfl rfl (fun H' h' => ?_); skip))
          | ((with_reducible show Gate _ _ _); refine Gate.intro (fun g => ?_) (fun g => ?_) <;> (try subst g))
          ) <;> ((try ((try simp only [row, En.l, Ky.l, Ac.l, Rw.l, front_eq] at h'); (try simp only [front_eq, fronts_nil, fronts_cons, List.getElem?_cons_zero, List.getElem?_cons_succ, List.eraseIdx_cons_zero, List.eraseIdx_cons_succ, List.cons_append, List.nil_append, putL_cons, putL_nil, List.set_cons_zero, List.set_cons_succ, Nat.reduceAdd] at h'); clear h; have h := h'; clear h'; (try have fc := h.ci 0 rfl); (try have fl := h.li 0 rfl); (try have fc := h.ci 1 rfl); (try have fl := h.li 1 rfl); (try have fc := h.ci 2 rfl); (try have fl := h.li 2 rfl); (try have fc := h.ci 3 rfl); (try have fl := h.li 3 rfl); (try have fc := h.ci 4 rfl); (try have fl := h.li 4 rfl); (try have fc := h.ci 5 rfl); (try have fl := h.li 5 rfl); (try have fc := h.ci 6 rfl); (try have fl := h.li 6 rfl); (try have fc := h.ci 7 rfl); (try have fl := h.li 7 rfl))); ((try simp only [S, TY, reduceCtorEq, nq0, nq1, nq2, nq3, nq4, iq0, iq1, iq2, iq3, iq4, iq5, iq6, iq7, iq8, q0, qc, q5, q6, q8, *]); (try (simp (disch := omega) only [W2, Int.cast_ofNat_Int]; (try simp only [S, TY, reduceCtorEq, nq0, nq1, nq2, nq3, nq4, iq0, iq1, iq2, iq3, iq4, iq5, iq6, iq7, iq8, q0, qc, q5, q6, q8, *]))); repeat ((first | (refine cl_drawi 4 D74_4 (List.range 9) (by decide) (by kernel_rfl) ?_; unfold D74_4)); simp only [S, TY, reduceCtorEq, nq0, nq1, nq2, nq3, nq4, iq0, iq1, iq2, iq3, iq4, iq5, iq6, iq7, iq8, q0, qc, q5, q6, q8, *]; (try (simp (disch := omega) only [W2, Int.cast_ofNat_Int]; (try simp only [S, TY, reduceCtorEq, nq0, nq1, nq2, nq3, nq4, iq0, iq1, iq2, iq3, iq4, iq5, iq6, iq7, iq8, q0, qc, q5, q6, q8, *])))))))))
      refine .go (i + 1) (by omega) ⟨by omega, q0, qc, rfl, ?_, p, q, q6, q5, (h.fronts [1, 1]).pair⟩
      rw [hs, List.find?_append, qf, List.find?_cons_of_neg (by rw [hm]; simp)]; rfl
    · have hfirst : first l c k = (⟨m1, m2, m3, m4⟩, true) := by
        have : l = l.take i ++ (l[i] :: l.drop (i + 1)) := by rw [← List.drop_eq_getElem_cons hl, List.take_append_drop]
        have : l.find? (fun r => decide ((means r c k).kind ≠ 0)) = some l[i] := by
          conv => lhs; rw [this]
          rw [List.find?_append, qf, List.find?_cons_of_pos (by rw [hm]; simpa using g2)]; rfl
        unfold first
        rw [this]; simp only [hm]
      rw [hfirst]
      ((try simp only [S, TY, reduceCtorEq, nq0, nq1, nq2, nq3, nq4, iq0, iq1, iq2, iq3, iq4, iq5, iq6, iq7, iq8, q0, qc, q5, q6, q8, g2]); (try (simp (disch := omega) only [W2, Int.cast_ofNat_Int]; (try simp only [S, TY, reduceCtorEq, nq0, nq1, nq2, nq3, nq4, iq0, iq1, iq2, iq3, iq4, iq5, iq6, iq7, iq8, q0, qc, q5, q6, q8, g2]))); repeat ((first | (refine cl_drawi 4 D74_4 (List.range 9) (by decide) (by kernel_rfl) ?_; unfold D74_4)); simp only [S, TY, reduceCtorEq, nq0, nq1, nq2, nq3, nq4, iq0, iq1, iq2, iq3, iq4, iq5, iq6, iq7, iq8, q0, qc, q5, q6, q8, g2]; (try (simp (disch := omega) only [W2, Int.cast_ofNat_Int]; (try simp only [S, TY, reduceCtorEq, nq0, nq1, nq2, nq3, nq4, iq0, iq1, iq2, iq3, iq4, iq5, iq6, iq7, iq8, q0, qc, q5, q6, q8, g2])))))
      repeat' (((first
          | ((with_reducible show fin _ _ _); first | (exact fin_take (B := []) h ⟨rfl, rfl⟩))
          | ((with_reducible show New _ _ _); first | (refine New_sl h 9 rfl (fun b H' h' => ?_); skip) | (refine New_qsl h 9 rfl (fun b => rfl) (fun b H' h' => ?_); skip) | (refine New_ob h (fun b H' h' => ?_); skip) | (refine New_qob h (fun b H' h' => ?_); skip))
          | ((with_reducible show St _ _); first | (refine sg.st (h.front 0) rfl rfl (fun H' h' => ?_); skip) | (refine sg.st (h.front 1) rfl rfl (fun H' h' => ?_); skip) | (refine sg.st (h.front 2) rfl rfl (fun H' h' => ?_); skip) | (refine sg.st (h.front 3) rfl rfl (fun H' h' => ?_); skip) | (refine sg.st (h.front 4) rfl rfl (fun H' h' => ?_); skip) | (refine sg.st (h.front 5) rfl rfl (fun H' h' => ?_); skip) | (refine sg.st (h.front 6) rfl rfl (fun H' h' => ?_); skip) | (refine sg.st (h.front 7) rfl rfl (fun H' h' => ?_); skip))
          | ((with_reducible show Gate _ _ _); refine Gate.intro (fun g => ?_) (fun g => ?_) <;> (try subst g))
          ) <;> ((try ((try simp only [row, En.l, Ky.l, Ac.l, Rw.l, front_eq] at h'); (try simp only [front_eq, fronts_nil, fronts_cons, List.getElem?_cons_zero, List.getElem?_cons_succ, List.eraseIdx_cons_zero, List.eraseIdx_cons_succ, List.cons_append, List.nil_append, putL_cons, putL_nil, List.set_cons_zero, List.set_cons_succ, Nat.reduceAdd] at h'); clear h; have h := h'; clear h'; (try have fc := h.ci 0 rfl); (try have fl := h.li 0 rfl); (try have fc := h.ci 1 rfl); (try have fl := h.li 1 rfl); (try have fc := h.ci 2 rfl); (try have fl := h.li 2 rfl); (try have fc := h.ci 3 rfl); (try have fl := h.li 3 rfl); (try have fc := h.ci 4 rfl); (try have fl := h.li 4 rfl); (try have fc := h.ci 5 rfl); (try have fl := h.li 5 rfl); (try have fc := h.ci 6 rfl); (try have fl := h.li 6 rfl); (try have fc := h.ci 7 rfl); (try have fl := h.li 7 rfl))); ((try simp only [S, TY, reduceCtorEq, nq0, nq1, nq2, nq3, nq4, iq0, iq1, iq2, iq3, iq4, iq5, iq6, iq7, iq8, q0, qc, q5, q6, q8, g2, *]); (try (simp (disch := omega) only [W2, Int.cast_ofNat_Int]; (try simp only [S, TY, reduceCtorEq, nq0, nq1, nq2, nq3, nq4, iq0, iq1, iq2, iq3, iq4, iq5, iq6, iq7, iq8, q0, qc, q5, q6, q8, g2, *]))); repeat ((first | (refine cl_drawi 4 D74_4 (List.range 9) (by decide) (by kernel_rfl) ?_; unfold D74_4)); simp only [S, TY, reduceCtorEq, nq0, nq1, nq2, nq3, nq4, iq0, iq1, iq2, iq3, iq4, iq5, iq6, iq7, iq8, q0, qc, q5, q6, q8, g2, *]; (try (simp (disch := omega) only [W2, Int.cast_ofNat_Int]; (try simp only [S, TY, reduceCtorEq, nq0, nq1, nq2, nq3, nq4, iq0, iq1, iq2, iq3, iq4, iq5, iq6, iq7, iq8, q0, qc, q5, q6, q8, g2, *]))))))))
  · rw [List.take_of_length_le (by omega)] at qf
    have hfirst : first l c k = (⟨0, 0, 0, 0⟩, false) := by unfold first; rw [qf]
    rw [hfirst]
    ((try simp only [S, TY, reduceCtorEq, nq0, nq1, nq2, nq3, nq4, iq0, iq1, iq2, iq3, iq4, iq5, iq6, iq7, iq8, q0, qc, q5, q6, q8, g1]); (try (simp (disch := omega) only [W2, Int.cast_ofNat_Int]; (try simp only [S, TY, reduceCtorEq, nq0, nq1, nq2, nq3, nq4, iq0, iq1, iq2, iq3, iq4, iq5, iq6, iq7, iq8, q0, qc, q5, q6, q8, g1]))); repeat ((first | (refine cl_drawi 4 D74_4 (List.range 9) (by decide) (by kernel_rfl) ?_; unfold D74_4)); simp only [S, TY, reduceCtorEq, nq0, nq1, nq2, nq3, nq4, iq0, iq1, iq2, iq3, iq4, iq5, iq6, iq7, iq8, q0, qc, q5, q6, q8, g1]; (try (simp (disch := omega) only [W2, Int.cast_ofNat_Int]; (try simp only [S, TY, reduceCtorEq, nq0, nq1, nq2, nq3, nq4, iq0, iq1, iq2, iq3, iq4, iq5, iq6, iq7, iq8, q0, qc, q5, q6, q8, g1])))))
    repeat' (((first
        | ((with_reducible show fin _ _ _); first | (exact fin_take (B := []) h ⟨rfl, rfl⟩))
        | ((with_reducible show New _ _ _); first | (refine New_sl h 9 rfl (fun b H' h' => ?_); skip) | (refine New_qsl h 9 rfl (fun b => rfl) (fun b H' h' => ?_); skip) | (refine New_ob h (fun b H' h' => ?_); skip) | (refine New_qob h (fun b H' h' => ?_); skip))
        | ((with_reducible show St _ _); first | (refine sg.st (h.front 0) rfl rfl (fun H' h' => ?_); skip) | (refine sg.st (h.front 1) rfl rfl (fun H' h' => ?_); skip) | (refine sg.st (h.front 2) rfl rfl (fun H' h' => ?_); skip) | (refine sg.st (h.front 3) rfl rfl (fun H' h' => ?_); skip) | (refine sg.st (h.front 4) rfl rfl (fun H' h' => ?_); skip) | (refine sg.st (h.front 5) rfl rfl (fun H' h' => ?_); skip) | (refine sg.st (h.front 6) rfl rfl (fun H' h' => ?_); skip) | (refine sg.st (h.front 7) rfl rfl (fun H' h' => ?_); skip))
        | ((with_reducible show Gate _ _ _); refine Gate.intro (fun g => ?_) (fun g => ?_) <;> (try subst g))
        ) <;> ((try ((try simp only [row, En.l, Ky.l, Ac.l, Rw.l, front_eq] at h'); (try simp only [front_eq, fronts_nil, fronts_cons, List.getElem?_cons_zero, List.getElem?_cons_succ, List.eraseIdx_cons_zero, List.eraseIdx_cons_succ, List.cons_append, List.nil_append, putL_cons, putL_nil, List.set_cons_zero, List.set_cons_succ, Nat.reduceAdd] at h'); clear h; have h := h'; clear h'; (try have fc := h.ci 0 rfl); (try have fl := h.li 0 rfl); (try have fc := h.ci 1 rfl); (try have fl := h.li 1 rfl); (try have fc := h.ci 2 rfl); (try have fl := h.li 2 rfl); (try have fc := h.ci 3 rfl); (try have fl := h.li 3 rfl); (try have fc := h.ci 4 rfl); (try have fl := h.li 4 rfl); (try have fc := h.ci 5 rfl); (try have fl := h.li 5 rfl); (try have fc := h.ci 6 rfl); (try have fl := h.li 6 rfl); (try have fc := h.ci 7 rfl); (try have fl := h.li 7 rfl))); ((try simp only [S, TY, reduceCtorEq, nq0, nq1, nq2, nq3, nq4, iq0, iq1, iq2, iq3, iq4, iq5, iq6, iq7, iq8, q0, qc, q5, q6, q8, *]); (try (simp (disch := omega) only [W2, Int.cast_ofNat_Int]; (try simp only [S, TY, reduceCtorEq, nq0, nq1, nq2, nq3, nq4, iq0, iq1, iq2, iq3, iq4, iq5, iq6, iq7, iq8, q0, qc, q5, q6, q8, *]))); repeat ((first | (refine cl_drawi 4 D74_4 (List.range 9) (by decide) (by kernel_rfl) ?_; unfold D74_4)); simp only [S, TY, reduceCtorEq, nq0, nq1, nq2, nq3, nq4, iq0, iq1, iq2, iq3, iq4, iq5, iq6, iq7, iq8, q0, qc, q5, q6, q8, *]; (try (simp (disch := omega) only [W2, Int.cast_ofNat_Int]; (try simp only [S, TY, reduceCtorEq, nq0, nq1, nq2, nq3, nq4, iq0, iq1, iq2, iq3, iq4, iq5, iq6, iq7, iq8, q0, qc, q5, q6, q8, *]))))))))
theorem Stand_ok {G : Hp} {v : Value} {l : List Rw} (hv : rws G v l) (hll : l.length ≤ 1000) : Con Try.prog G 71 [v] [] (fun r B => r = .bool (decide (Std l)) ∧ B = []) := by
  obtain ⟨a, n, cc, rfl, e1, e2⟩ := hv.slice
  rw [flat_len Rw.len] at e1
  obtain rfl : l.length = n := by omega
  clear e1
  refine Con.intro Try.func71 rfl (Nat.le_of_ble_eq_true (by kernel_rfl)) (by kernel_rfl) Try.results71 ?_
  intro H h
  ((try simp only [S, TY, reduceCtorEq, nq0, nq1, nq2, nq3, nq4, iq0, iq1, iq2, iq3, iq4, iq5, iq6, iq7, iq8]); (try (simp (disch := omega) only [W2, Int.cast_ofNat_Int]; (try simp only [S, TY, reduceCtorEq, nq0, nq1, nq2, nq3, nq4, iq0, iq1, iq2, iq3, iq4, iq5, iq6, iq7, iq8]))); repeat ((first | (refine cl_drawi 10 D71_10 (List.range 11) (by decide) (by kernel_rfl) ?_; unfold D71_10)); simp only [S, TY, reduceCtorEq, nq0, nq1, nq2, nq3, nq4, iq0, iq1, iq2, iq3, iq4, iq5, iq6, iq7, iq8]; (try (simp (disch := omega) only [W2, Int.cast_ofNat_Int]; (try simp only [S, TY, reduceCtorEq, nq0, nq1, nq2, nq3, nq4, iq0, iq1, iq2, iq3, iq4, iq5, iq6, iq7, iq8])))))
  refine cl_loop (fun i e H => i ≤ l.length ∧ e 0 = .slice a l.length cc ∧ e 3 = .int .i64 (i : Nat) ∧ Std (l.take i) ∧ sg G [] H) (fun i : Nat => l.length - i) 0
    ⟨by omega, rfl, rfl, ⟨by simp, by simp⟩, h⟩ ?_
  clear h
  rintro i e H ⟨q1, q0, q3, qs, h⟩
  by_cases g1 : (i : Int) < l.length
  · obtain ⟨b, off, hl, rfl, hc, hld⟩ := hv.el Rw.len (i := i) (by omega) (by omega)
    have g0 : (0 : Int) ≤ i ∧ (i : Int) < l.length := ⟨by omega, g1⟩
    have el := h.rold hld
    have c0 := hc 0 (by decide)
    simp only [Nat.add_zero, List.getElem?_cons_zero] at c0
    have hs : l.take (i + 1) = l.take i ++ [l[i]] := by rw [List.take_add_one, List.getElem?_eq_getElem hl]; rfl
    clear hc hld
    ((try simp only [S, TY, reduceCtorEq, nq0, nq1, nq2, nq3, nq4, iq0, iq1, iq2, iq3, iq4, iq5, iq6, iq7, iq8, q0, q3, g1, g0, el]); (try (simp (disch := omega) only [W2, Int.cast_ofNat_Int]; (try simp only [S, TY, reduceCtorEq, nq0, nq1, nq2, nq3, nq4, iq0, iq1, iq2, iq3, iq4, iq5, iq6, iq7, iq8, q0, q3, g1, g0, el]))); repeat ((first | (refine cl_drawi 10 D71_10 (List.range 11) (by decide) (by kernel_rfl) ?_; unfold D71_10)); simp only [S, TY, reduceCtorEq, nq0, nq1, nq2, nq3, nq4, iq0, iq1, iq2, iq3, iq4, iq5, iq6, iq7, iq8, q0, q3, g1, g0, el]; (try (simp (disch := omega) only [W2, Int.cast_ofNat_Int]; (try simp only [S, TY, reduceCtorEq, nq0, nq1, nq2, nq3, nq4, iq0, iq1, iq2, iq3, iq4, iq5, iq6, iq7, iq8, q0, q3, g1, g0, el])))))
    refine (dRow_ok l[i]).at_ h [] _ rfl (fun r B H' hr h' => ?_)
    obtain ⟨rfl, rfl⟩ := hr
    clear h el
    have h := h'
    clear h'
    cases hok : l[i].ok with
    | false =>
      have hne : ¬ Std l := fun z => by have := z.1 _ (List.getElem_mem hl); rw [hok] at this; cases this
      ((try simp only [S, TY, reduceCtorEq, nq0, nq1, nq2, nq3, nq4, iq0, iq1, iq2, iq3, iq4, iq5, iq6, iq7, iq8, q0, q3, hok]); (try (simp (disch := omega) only [W2, Int.cast_ofNat_Int]; (try simp only [S, TY, reduceCtorEq, nq0, nq1, nq2, nq3, nq4, iq0, iq1, iq2, iq3, iq4, iq5, iq6, iq7, iq8, q0, q3, hok]))); repeat ((first | (refine cl_drawi 10 D71_10 (List.range 11) (by decide) (by kernel_rfl) ?_; unfold D71_10)); simp only [S, TY, reduceCtorEq, nq0, nq1, nq2, nq3, nq4, iq0, iq1, iq2, iq3, iq4, iq5, iq6, iq7, iq8, q0, q3, hok]; (try (simp (disch := omega) only [W2, Int.cast_ofNat_Int]; (try simp only [S, TY, reduceCtorEq, nq0, nq1, nq2, nq3, nq4, iq0, iq1, iq2, iq3, iq4, iq5, iq6, iq7, iq8, q0, q3, hok])))))
      exact fin_take (B := []) h ⟨by rw [decide_eq_false hne], rfl⟩
    | true =>
      ((try simp only [S, TY, reduceCtorEq, nq0, nq1, nq2, nq3, nq4, iq0, iq1, iq2, iq3, iq4, iq5, iq6, iq7, iq8, q0, q3, hok]); (try (simp (disch := omega) only [W2, Int.cast_ofNat_Int]; (try simp only [S, TY, reduceCtorEq, nq0, nq1, nq2, nq3, nq4, iq0, iq1, iq2, iq3, iq4, iq5, iq6, iq7, iq8, q0, q3, hok]))); repeat ((first | (refine cl_drawi 10 D71_10 (List.range 11) (by decide) (by kernel_rfl) ?_; unfold D71_10)); simp only [S, TY, reduceCtorEq, nq0, nq1, nq2, nq3, nq4, iq0, iq1, iq2, iq3, iq4, iq5, iq6, iq7, iq8, q0, q3, hok]; (try (simp (disch := omega) only [W2, Int.cast_ofNat_Int]; (try simp only [S, TY, reduceCtorEq, nq0, nq1, nq2, nq3, nq4, iq0, iq1, iq2, iq3, iq4, iq5, iq6, iq7, iq8, q0, q3, hok])))))
      refine cl_loop (fun k e H => k ≤ i ∧ e 0 = .slice (some ⟨b, off, none⟩) l.length cc ∧ e 3 = .int .i64 (i : Nat) ∧ e 5 = .int .i64 (k : Nat) ∧ (∀ x ∈ l.take k, x.port ≠ l[i].port) ∧ sg G [] H) (fun k : Nat => i - k) 0
        ⟨by omega, q0, q3, rfl, by simp, h⟩ ?_
      clear h q0 q3
      rintro k e H ⟨q2, q0, q3, q5, qp, h⟩
      by_cases g2 : (k : Int) < i
      · obtain ⟨b', off', hl', z, hc, -⟩ := hv.el Rw.len (i := k) (by omega) (by omega)
        cases z
        have c1 := hc 0 (by decide)
        simp only [Nat.add_zero, List.getElem?_cons_zero] at c1
        have f0 := h.roc c0
        have f1 := h.roc c1
        have g3 : (0 : Int) ≤ k ∧ (k : Int) < l.length := by omega
        have hs2 : l.take (k + 1) = l.take k ++ [l[k]] := by rw [List.take_add_one, List.getElem?_eq_getElem hl']; rfl
        by_cases g4 : l[k].port = l[i].port
        · have hne : ¬ Std l := fun z => List.pairwise_iff_getElem.1 z.2 k i hl' hl (by omega) g4
          ((try simp only [S, TY, reduceCtorEq, nq0, nq1, nq2, nq3, nq4, iq0, iq1, iq2, iq3, iq4, iq5, iq6, iq7, iq8, q0, q3, q5, g2, g0, g3, f0, f1, g4]); (try (simp (disch := omega) only [W2, Int.cast_ofNat_Int]; (try simp only [S, TY, reduceCtorEq, nq0, nq1, nq2, nq3, nq4, iq0, iq1, iq2, iq3, iq4, iq5, iq6, iq7, iq8, q0, q3, q5, g2, g0, g3, f0, f1, g4]))); repeat ((first | (refine cl_drawi 10 D71_10 (List.range 11) (by decide) (by kernel_rfl) ?_; unfold D71_10)); simp only [S, TY, reduceCtorEq, nq0, nq1, nq2, nq3, nq4, iq0, iq1, iq2, iq3, iq4, iq5, iq6, iq7, iq8, q0, q3, q5, g2, g0, g3, f0, f1, g4]; (try (simp (disch := omega) only [W2, Int.cast_ofNat_Int]; (try simp only [S, TY, reduceCtorEq, nq0, nq1, nq2, nq3, nq4, iq0, iq1, iq2, iq3, iq4, iq5, iq6, iq7, iq8, q0, q3, q5, g2, g0, g3, f0, f1, g4])))))
          exact fin_take (B := []) h ⟨by rw [decide_eq_false hne], rfl⟩
        · ((try simp only [S, TY, reduceCtorEq, nq0, nq1, nq2, nq3, nq4, iq0, iq1, iq2, iq3, iq4, iq5, iq6, iq7, iq8, q0, q3, q5, g2, g0, g3, f0, f1, g4]); (try (simp (disch := omega) only [W2, Int.cast_ofNat_Int]; (try simp only [S, TY, reduceCtorEq, nq0, nq1, nq2, nq3, nq4, iq0, iq1, iq2, iq3, iq4, iq5, iq6, iq7, iq8, q0, q3, q5, g2, g0, g3, f0, f1, g4]))); repeat ((first | (refine cl_drawi 10 D71_10 (List.range 11) (by decide) (by kernel_rfl) ?_; unfold D71_10)); simp only [S, TY, reduceCtorEq, nq0, nq1, nq2, nq3, nq4, iq0, iq1, iq2, iq3, iq4, iq5, iq6, iq7, iq8, q0, q3, q5, g2, g0, g3, f0, f1, g4]; (try (simp (disch := omega) only [W2, Int.cast_ofNat_Int]; (try simp only [S, TY, reduceCtorEq, nq0, nq1, nq2, nq3, nq4, iq0, iq1, iq2, iq3, iq4, iq5, iq6, iq7, iq8, q0, q3, q5, g2, g0, g3, f0, f1, g4])))))
          refine .go (k + 1) (by omega) ⟨by omega, q0, q3, rfl, ?_, h⟩
          intro x hx
          rw [hs2] at hx
          rcases List.mem_append.1 hx with hx | hx
          · exact qp x hx
          · rw [List.mem_singleton] at hx; subst hx; exact g4
      · ((try simp only [S, TY, reduceCtorEq, nq0, nq1, nq2, nq3, nq4, iq0, iq1, iq2, iq3, iq4, iq5, iq6, iq7, iq8, q0, q3, q5, g2]); (try (simp (disch := omega) only [W2, Int.cast_ofNat_Int]; (try simp only [S, TY, reduceCtorEq, nq0, nq1, nq2, nq3, nq4, iq0, iq1, iq2, iq3, iq4, iq5, iq6, iq7, iq8, q0, q3, q5, g2]))); repeat ((first | (refine cl_drawi 10 D71_10 (List.range 11) (by decide) (by kernel_rfl) ?_; unfold D71_10)); simp only [S, TY, reduceCtorEq, nq0, nq1, nq2, nq3, nq4, iq0, iq1, iq2, iq3, iq4, iq5, iq6, iq7, iq8, q0, q3, q5, g2]; (try (simp (disch := omega) only [W2, Int.cast_ofNat_Int]; (try simp only [S, TY, reduceCtorEq, nq0, nq1, nq2, nq3, nq4, iq0, iq1, iq2, iq3, iq4, iq5, iq6, iq7, iq8, q0, q3, q5, g2])))))
        obtain rfl : k = i := by omega
        refine .go (k + 1) (by omega) ⟨by omega, q0, rfl, ?_, h⟩
        rw [hs]
        refine ⟨?_, List.pairwise_append.2 ⟨qs.2, List.pairwise_singleton _ _, ?_⟩⟩
        · intro x hx
          rcases List.mem_append.1 hx with hx | hx
          · exact qs.1 x hx
          · rw [List.mem_singleton] at hx; subst hx; exact hok
        · intro x hx y hy
          rw [List.mem_singleton] at hy; subst hy; exact qp x hx
  · rw [List.take_of_length_le (by omega)] at qs
    ((try simp only [S, TY, reduceCtorEq, nq0, nq1, nq2, nq3, nq4, iq0, iq1, iq2, iq3, iq4, iq5, iq6, iq7, iq8, q0, q3, g1]); (try (simp (disch := omega) only [W2, Int.cast_ofNat_Int]; (try simp only [S, TY, reduceCtorEq, nq0, nq1, nq2, nq3, nq4, iq0, iq1, iq2, iq3, iq4, iq5, iq6, iq7, iq8, q0, q3, g1]))); repeat ((first | (refine cl_drawi 10 D71_10 (List.range 11) (by decide) (by kernel_rfl) ?_; unfold D71_10)); simp only [S, TY, reduceCtorEq, nq0, nq1, nq2, nq3, nq4, iq0, iq1, iq2, iq3, iq4, iq5, iq6, iq7, iq8, q0, q3, g1]; (try (simp (disch := omega) only [W2, Int.cast_ofNat_Int]; (try simp only [S, TY, reduceCtorEq, nq0, nq1, nq2, nq3, nq4, iq0, iq1, iq2, iq3, iq4, iq5, iq6, iq7, iq8, q0, q3, g1])))))
    exact fin_take (B := []) h ⟨by rw [decide_eq_true qs], rfl⟩
abbrev ra : Rw := ⟨3, 7, 2, -1, 1, 5, 2, 9, 0⟩
theorem alive {G : Hp} : Con Try.prog G 68 [] [] (fun r B => r = .bool true ∧ B = []) := by
  have e1 : lookT ⟨0, 7, 0, 0, -1⟩ ([ra].flatMap (comp 1)) = (⟨2, 3, 2, 5⟩, true) := by decide
  have e2 : lookT ⟨1, 0, 3, 5, 4⟩ ([ra].flatMap (comp 1)) = (⟨2, 3, 2, 5⟩, true) := by decide
  have e3 : lookT ⟨1, 0, 3, 5, 2⟩ ([ra].flatMap (comp 1)) = (⟨0, 0, 0, 0⟩, false) := by decide
  have e4 : lookT ⟨2, 0, 3, 5, 4⟩ ([ra].flatMap (comp 1)) = (⟨0, 0, 0, 0⟩, false) := by decide
  have e5 : means ra 2 ⟨2, 0, 3, 5, 0⟩ = ⟨1, 3, 2, 5⟩ := by decide
  have e6 : means ra 2 ⟨2, 0, 3, 6, 0⟩ = ⟨0, 0, 0, 0⟩ := by decide
  refine Con.intro Try.func68 rfl (Nat.le_of_ble_eq_true (by kernel_rfl)) (by kernel_rfl) Try.results68 ?_
  intro H h
  ((try simp only [S, TY, reduceCtorEq, nq0, nq1, nq2, nq3, nq4, iq0, iq1, iq2, iq3, iq4, iq5, iq6, iq7, iq8]); (try (simp (disch := omega) only [W2, Int.cast_ofNat_Int]; (try simp only [S, TY, reduceCtorEq, nq0, nq1, nq2, nq3, nq4, iq0, iq1, iq2, iq3, iq4, iq5, iq6, iq7, iq8]))))
  iterate 40 (all_goals (try ((first
      | ((with_reducible show CallsH _ _ 73 _ _ _); refine Con.lend_at [] [own 25 9 _ ([ra].flatMap Rw.l)] h [0] rfl (fun F hF hs => Table_ok 1 (seps_own hs 0 rfl).left (by decide)) (fun r B H' hr h' => ?_); obtain ⟨p, rfl, rfl⟩ := hr; skip)
      | ((with_reducible show CallsH _ _ 39 _ _ _); (with_reducible show CallsH _ _ _ #[_, Value.agg #[.int .i64 0, _, _, .int .i64 0, .int .i64 (-1)]] _ _); refine (Look_ok (l := [ra].flatMap (comp 1)) hk2 ⟨0, 7, 0, 0, -1⟩ (by decide)).at_ h [0] _ rfl (fun r B H' hr h' => ?_); obtain ⟨rfl, rfl⟩ := hr; rw [e1]; skip)
      | ((with_reducible show CallsH _ _ 39 _ _ _); (with_reducible show CallsH _ _ _ #[_, Value.agg #[.int .i64 1, _, _, .int .i64 5, .int .i64 4]] _ _); refine (Look_ok (l := [ra].flatMap (comp 1)) hk2 ⟨1, 0, 3, 5, 4⟩ (by decide)).at_ h [1] _ rfl (fun r B H' hr h' => ?_); obtain ⟨rfl, rfl⟩ := hr; rw [e2]; skip)
      | ((with_reducible show CallsH _ _ 39 _ _ _); (with_reducible show CallsH _ _ _ #[_, Value.agg #[.int .i64 1, _, _, .int .i64 5, .int .i64 2]] _ _); refine (Look_ok (l := [ra].flatMap (comp 1)) hk2 ⟨1, 0, 3, 5, 2⟩ (by decide)).at_ h [1] _ rfl (fun r B H' hr h' => ?_); obtain ⟨rfl, rfl⟩ := hr; rw [e3]; skip)
      | ((with_reducible show CallsH _ _ 39 _ _ _); (with_reducible show CallsH _ _ _ #[_, Value.agg #[.int .i64 2, _, _, .int .i64 5, .int .i64 4]] _ _); refine (Look_ok (l := [ra].flatMap (comp 1)) hk2 ⟨2, 0, 3, 5, 4⟩ (by decide)).at_ h [1] _ rfl (fun r B H' hr h' => ?_); obtain ⟨rfl, rfl⟩ := hr; rw [e4]; skip)
      | ((with_reducible show CallsH _ _ 67 _ _ _); first | ((with_reducible show CallsH _ _ _ #[_, _, Value.agg #[_, _, _, .int .i64 5, _]] _ _); refine (Means_ok ra 2 ⟨2, 0, 3, 5, 0⟩).at_ h [] _ rfl (fun r B H' hr h' => ?_); obtain ⟨rfl, rfl⟩ := hr; rw [e5]; skip) | ((with_reducible show CallsH _ _ _ #[_, _, Value.agg #[_, _, _, .int .i64 6, _]] _ _); refine (Means_ok ra 2 ⟨2, 0, 3, 6, 0⟩).at_ h [] _ rfl (fun r B H' hr h' => ?_); obtain ⟨rfl, rfl⟩ := hr; rw [e6]; skip))
      | ((with_reducible show fin _ _ _); first | (exact fin_take (B := []) h ⟨rfl, rfl⟩))
      | ((with_reducible show New _ _ _); first | (refine New_sl h 9 rfl (fun b H' h' => ?_); skip) | (refine New_qsl h 9 rfl (fun b => rfl) (fun b H' h' => ?_); skip) | (refine New_ob h (fun b H' h' => ?_); skip) | (refine New_qob h (fun b H' h' => ?_); skip))
      | ((with_reducible show St _ _); first | (refine sg.st (h.front 0) rfl rfl (fun H' h' => ?_); skip) | (refine sg.st (h.front 1) rfl rfl (fun H' h' => ?_); skip) | (refine sg.st (h.front 2) rfl rfl (fun H' h' => ?_); skip) | (refine sg.st (h.front 3) rfl rfl (fun H' h' => ?_); skip) | (refine sg.st (h.front 4) rfl rfl (fun H' h' => ?_); skip) | (refine sg.st (h.front 5) rfl rfl (fun H' h' => ?_); skip) | (refine sg.st (h.front 6) rfl rfl (fun H' h' => ?_); skip) | (refine sg.st (h.front 7) rfl rfl (fun H' h' => ?_); skip))
      | ((with_reducible show Gate _ _ _); refine Gate.intro (fun g => ?_) (fun g => ?_) <;> (try subst g))
      ) <;> ((try ((try simp only [row, En.l, Ky.l, Ac.l, Rw.l, front_eq] at h'); (try simp only [front_eq, fronts_nil, fronts_cons, List.getElem?_cons_zero, List.getElem?_cons_succ, List.eraseIdx_cons_zero, List.eraseIdx_cons_succ, List.cons_append, List.nil_append, putL_cons, putL_nil, List.set_cons_zero, List.set_cons_succ, Nat.reduceAdd] at h'); clear h; have h := h'; clear h'; (try have fc := h.ci 0 rfl); (try have fl := h.li 0 rfl); (try have fc := h.ci 1 rfl); (try have fl := h.li 1 rfl); (try have fc := h.ci 2 rfl); (try have fl := h.li 2 rfl); (try have fc := h.ci 3 rfl); (try have fl := h.li 3 rfl); (try have fc := h.ci 4 rfl); (try have fl := h.li 4 rfl); (try have fc := h.ci 5 rfl); (try have fl := h.li 5 rfl); (try have fc := h.ci 6 rfl); (try have fl := h.li 6 rfl); (try have fc := h.ci 7 rfl); (try have fl := h.li 7 rfl))); ((try simp only [S, TY, reduceCtorEq, nq0, nq1, nq2, nq3, nq4, iq0, iq1, iq2, iq3, iq4, iq5, iq6, iq7, iq8, *]); (try (simp (disch := omega) only [W2, Int.cast_ofNat_Int]; (try simp only [S, TY, reduceCtorEq, nq0, nq1, nq2, nq3, nq4, iq0, iq1, iq2, iq3, iq4, iq5, iq6, iq7, iq8, *]))))))))
end Go.Proofs.Ytfjmejideoklpaa.BiD
