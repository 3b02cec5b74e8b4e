/- Rows bound at a chassis: the table of rows; the document's first row, and rows that stand; the laws' live question. -/
import Derived.Test.YtanhmbdcdbcfmaaBiP
set_option linter.unusedVariables false
set_option linter.unusedSimpArgs false
set_option maxRecDepth 10000
set_option maxHeartbeats 2000000
namespace Go.Proofs.Ytanhmbdcdbcfmaa.BiD
open Nat renaming reduceEqDiff → nq0, reduceAdd → nq1, reduceLeDiff → nq2, reduceBEq → nq3, reduceMul → nq4
open Int renaming reduceBEq → iq0, reduceEq → iq1, reduceLT → iq2, reduceLE → iq3, reduceAdd → iq4, reduceSub → iq5, reduceMul → iq6, reduceToNat → iq7, cast_ofNat_Int → iq8
open Go Go.Sl Go.Proofs Go.Proofs.Ytanhmbdcdbcfmaa.So Go.Proofs.Ytanhmbdcdbcfmaa.SoI Go.Proofs.Ytanhmbdcdbcfmaa.SoM Go.Proofs.Ytanhmbdcdbcfmaa.Fl Go.Proofs.Ytanhmbdcdbcfmaa.FlT Go.Proofs.Ytanhmbdcdbcfmaa.FlD Go.Proofs.Ytanhmbdcdbcfmaa.FlL Go.Proofs.Ytanhmbdcdbcfmaa.Ph Go.Proofs.Ytanhmbdcdbcfmaa.Bi Go.Proofs.Ytanhmbdcdbcfmaa.BiC Go.Proofs.Ytanhmbdcdbcfmaa.BiP
theorem TY : aggN Try.prog 3 = some none ∧
  aggN Try.prog 22 = some none ∧
  aggN Try.prog 46 = some none ∧
  aggN Try.prog 191 = some (some 9) ∧
  aggN Try.prog 196 = some (some 11) ∧
  apI Try.prog 22 = some (196, 11, 88) ∧
  apI Try.prog 46 = some (191, 9, 72) ∧
  bIs Try.prog 191 = true ∧
  bIs Try.prog 196 = true ∧
  csz Try.prog 3 = some 1 ∧
  csz Try.prog 22 = some 1 ∧
  csz Try.prog 46 = some 1 ∧
  csz Try.prog 191 = some 9 ∧
  csz Try.prog 196 = some 11 ∧
  eqF Try.prog 191 = some [.i, .i, .i, .i, .i, .i, .i, .i, .i] ∧
  eqF Try.prog 196 = some [.i, .i, .i, .i, .i, .i, .i, .i, .i, .i, .i] ∧
  fIs Try.prog 191 0 = true ∧
  fOff Try.prog 191 0 = 0 ∧
  fTy Try.prog 191 0 = 3 ∧
  goes Try.prog 17 = true ∧
  goes Try.prog 113 = true ∧
  goes Try.prog 115 = true ∧
  inIs Try.prog 3 = some .i64 ∧
  plcs Try.prog 191 = [(0, 1), (1, 1), (2, 1), (3, 1), (4, 1), (5, 1), (6, 1), (7, 1), (8, 1)] ∧
  plcs Try.prog 196 = [(0, 1), (1, 1), (2, 1), (3, 1), (4, 1), (5, 1), (6, 1), (7, 4)] ∧
  slEl Try.prog 22 = 196 ∧
  slEl Try.prog 46 = 191 ∧
  slIs Try.prog 22 = true ∧
  slIs Try.prog 46 = true ∧
  slSz Try.prog 22 = 11 ∧
  slSz Try.prog 46 = 9 ∧
  zcs Try.prog 191 = [.int .i64 0, .int .u64 0, .int .i64 0, .int .i64 0, .int .i64 0, .int .i64 0, .int .i64 0, .int .i64 0, .int .i64 0] ∧
  zcs Try.prog 196 = [.int .i64 0, .int .i64 0, .int .u64 0, .int .i64 0, .int .i64 0, .int .i64 0, .int .i64 0, .int .i64 0, .int .i64 0, .int .i64 0, .int .i64 0] ∧
  zro Try.prog 3 = some (.int .i64 0) ∧
  zro Try.prog 22 = some (.slice none 0 0) ∧
  zro Try.prog 46 = some (.slice none 0 0) ∧
  zro Try.prog 191 = some (.agg #[.int .i64 0, .int .u64 0, .int .i64 0, .int .i64 0, .int .i64 0, .int .i64 0, .int .i64 0, .int .i64 0, .int .i64 0]) ∧
  zro Try.prog 196 = some (.agg #[.int .i64 0, .int .i64 0, .int .u64 0, .int .i64 0, .int .i64 0, .int .i64 0, .int .i64 0, .int .i64 0, .int .i64 0, .int .i64 0, .int .i64 0]) :=
  ⟨by kernel_rfl, by kernel_rfl, by kernel_rfl, by kernel_rfl, by kernel_rfl, by kernel_rfl, by kernel_rfl, by kernel_rfl, by kernel_rfl, by kernel_rfl, by kernel_rfl, by kernel_rfl, by kernel_rfl, by kernel_rfl, by kernel_rfl, by kernel_rfl, by kernel_rfl, by kernel_rfl, by kernel_rfl, by kernel_rfl, by kernel_rfl, by kernel_rfl, by kernel_rfl, by kernel_rfl, by kernel_rfl, by kernel_rfl, by kernel_rfl, by kernel_rfl, by kernel_rfl, by kernel_rfl, by kernel_rfl, by kernel_rfl, by kernel_rfl, by kernel_rfl, by kernel_rfl, by kernel_rfl, by kernel_rfl, by kernel_rfl⟩
def D25_10 : List Note := Go.Sl.nn [0, 0, 0, 0, 1, 0, 0, 0, 0, 1, 0]
theorem Table_ok {G : Hp} {v : Value} {l : List Rw} (c : Int) (hv : rws G v l) (hll : l.length ≤ 100) : Con Try.prog G 27 [.int .i64 c, v] [] (fun r B => ∃ p, r = .tuple #[.pointer (some ⟨p, 0, none⟩), .int .i64 0] ∧ B = [tb p (l.flatMap (comp c))]) := by
  have hl := comp_len c l
  refine Con.intro Try.func27 rfl (Nat.le_of_ble_eq_true (by kernel_rfl)) (by kernel_rfl) Try.results27 ?_
  intro H h
  ((try simp only [S, TY, reduceCtorEq, nq0, nq1, nq2, nq3, nq4, iq0, iq1, iq2, iq3, iq4, iq5, iq6, iq7, iq8]); (try (simp (disch := omega) only [W2, Int.cast_ofNat_Int]; (try simp only [S, TY, reduceCtorEq, nq0, nq1, nq2, nq3, nq4, iq0, iq1, iq2, iq3, iq4, iq5, iq6, iq7, iq8]))))
  refine (Compile_ok c hv (by omega)).at_ h [] _ rfl (fun r B H2 hr h2 => ?_)
  subst hr
  ((try simp only [S, TY, reduceCtorEq, nq0, nq1, nq2, nq3, nq4, iq0, iq1, iq2, iq3, iq4, iq5, iq6, iq7, iq8]); (try (simp (disch := omega) only [W2, Int.cast_ofNat_Int]; (try simp only [S, TY, reduceCtorEq, nq0, nq1, nq2, nq3, nq4, iq0, iq1, iq2, iq3, iq4, iq5, iq6, iq7, iq8]))))
  refine Con.lend_at [] [own 196 11 _ ((l.flatMap (comp c)).flatMap En.l)] h2 [0] rfl (fun F hF hs => New_ok hk1 (seps_own hs 0 rfl).left (by omega)) (fun r B H' hr h' => ?_)
  obtain ⟨p, rfl, rfl⟩ := NewR_yes (by omega) hr
  ((try simp only [S, TY, reduceCtorEq, nq0, nq1, nq2, nq3, nq4, iq0, iq1, iq2, iq3, iq4, iq5, iq6, iq7, iq8]); (try (simp (disch := omega) only [W2, Int.cast_ofNat_Int]; (try simp only [S, TY, reduceCtorEq, nq0, nq1, nq2, nq3, nq4, iq0, iq1, iq2, iq3, iq4, iq5, iq6, iq7, iq8]))))
  exact fin_take (B := [_]) h' ⟨p, rfl, rfl⟩
theorem Stand_ok {G : Hp} {v : Value} {l : List Rw} (hv : rws G v l) (hll : l.length ≤ 1000) : Con Try.prog G 25 [v] [] (fun r B => r = .bool (decide (Std l)) ∧ B = []) := by
  obtain ⟨a, n, cc, rfl, e1, e2⟩ := hv.slice
  rw [flat_len Rw.len] at e1
  obtain rfl : l.length = n := by omega
  clear e1
  refine Con.intro Try.func25 rfl (Nat.le_of_ble_eq_true (by kernel_rfl)) (by kernel_rfl) Try.results25 ?_
  intro H h
  ((try simp only [S, TY, reduceCtorEq, nq0, nq1, nq2, nq3, nq4, iq0, iq1, iq2, iq3, iq4, iq5, iq6, iq7, iq8]); (try (simp (disch := omega) only [W2, Int.cast_ofNat_Int]; (try simp only [S, TY, reduceCtorEq, nq0, nq1, nq2, nq3, nq4, iq0, iq1, iq2, iq3, iq4, iq5, iq6, iq7, iq8]))); repeat ((first | (refine cl_drawi 10 D25_10 (List.range 11) (by decide) (by kernel_rfl) ?_; unfold D25_10)); simp only [S, TY, reduceCtorEq, nq0, nq1, nq2, nq3, nq4, iq0, iq1, iq2, iq3, iq4, iq5, iq6, iq7, iq8]; (try (simp (disch := omega) only [W2, Int.cast_ofNat_Int]; (try simp only [S, TY, reduceCtorEq, nq0, nq1, nq2, nq3, nq4, iq0, iq1, iq2, iq3, iq4, iq5, iq6, iq7, iq8])))))
  refine cl_loop (fun i e H => i ≤ l.length ∧ e 0 = .slice a l.length cc ∧ e 3 = .int .i64 (i : Nat) ∧ Std (l.take i) ∧ sg G [] H) (fun i : Nat => l.length - i) 0
    ⟨by omega, rfl, rfl, ⟨by simp, by simp⟩, h⟩ ?_
  clear h
  rintro i e H ⟨q1, q0, q3, qs, h⟩
  by_cases g1 : (i : Int) < l.length
  · obtain ⟨b, off, hl, rfl, hc, hld⟩ := hv.el Rw.len (i := i) (by omega) (by omega)
    have g0 : (0 : Int) ≤ i ∧ (i : Int) < l.length := ⟨by omega, g1⟩
    have el := h.rold hld
    have c0 := hc 0 (by decide)
    simp only [Nat.add_zero, List.getElem?_cons_zero] at c0
    have hs : l.take (i + 1) = l.take i ++ [l[i]] := by rw [List.take_add_one, List.getElem?_eq_getElem hl]; rfl
    clear hc hld
    ((try simp only [S, TY, reduceCtorEq, nq0, nq1, nq2, nq3, nq4, iq0, iq1, iq2, iq3, iq4, iq5, iq6, iq7, iq8, q0, q3, g1, g0, el]); (try (simp (disch := omega) only [W2, Int.cast_ofNat_Int]; (try simp only [S, TY, reduceCtorEq, nq0, nq1, nq2, nq3, nq4, iq0, iq1, iq2, iq3, iq4, iq5, iq6, iq7, iq8, q0, q3, g1, g0, el]))); repeat ((first | (refine cl_drawi 10 D25_10 (List.range 11) (by decide) (by kernel_rfl) ?_; unfold D25_10)); simp only [S, TY, reduceCtorEq, nq0, nq1, nq2, nq3, nq4, iq0, iq1, iq2, iq3, iq4, iq5, iq6, iq7, iq8, q0, q3, g1, g0, el]; (try (simp (disch := omega) only [W2, Int.cast_ofNat_Int]; (try simp only [S, TY, reduceCtorEq, nq0, nq1, nq2, nq3, nq4, iq0, iq1, iq2, iq3, iq4, iq5, iq6, iq7, iq8, q0, q3, g1, g0, el])))))
    refine (dRow_ok l[i]).at_ h [] _ rfl (fun r B H' hr h' => ?_)
    obtain ⟨rfl, rfl⟩ := hr
    clear h el
    have h := h'
    clear h'
    cases hok : l[i].ok with
    | false =>
      have hne : ¬ Std l := fun z => by have := z.1 _ (List.getElem_mem hl); rw [hok] at this; cases this
      ((try simp only [S, TY, reduceCtorEq, nq0, nq1, nq2, nq3, nq4, iq0, iq1, iq2, iq3, iq4, iq5, iq6, iq7, iq8, q0, q3, hok]); (try (simp (disch := omega) only [W2, Int.cast_ofNat_Int]; (try simp only [S, TY, reduceCtorEq, nq0, nq1, nq2, nq3, nq4, iq0, iq1, iq2, iq3, iq4, iq5, iq6, iq7, iq8, q0, q3, hok]))); repeat ((first | (refine cl_drawi 10 D25_10 (List.range 11) (by decide) (by kernel_rfl) ?_; unfold D25_10)); simp only [S, TY, reduceCtorEq, nq0, nq1, nq2, nq3, nq4, iq0, iq1, iq2, iq3, iq4, iq5, iq6, iq7, iq8, q0, q3, hok]; (try (simp (disch := omega) only [W2, Int.cast_ofNat_Int]; (try simp only [S, TY, reduceCtorEq, nq0, nq1, nq2, nq3, nq4, iq0, iq1, iq2, iq3, iq4, iq5, iq6, iq7, iq8, q0, q3, hok])))))
      exact fin_take (B := []) h ⟨by rw [decide_eq_false hne], rfl⟩
    | true =>
      ((try simp only [S, TY, reduceCtorEq, nq0, nq1, nq2, nq3, nq4, iq0, iq1, iq2, iq3, iq4, iq5, iq6, iq7, iq8, q0, q3, hok]); (try (simp (disch := omega) only [W2, Int.cast_ofNat_Int]; (try simp only [S, TY, reduceCtorEq, nq0, nq1, nq2, nq3, nq4, iq0, iq1, iq2, iq3, iq4, iq5, iq6, iq7, iq8, q0, q3, hok]))); repeat ((first | (refine cl_drawi 10 D25_10 (List.range 11) (by decide) (by kernel_rfl) ?_; unfold D25_10)); simp only [S, TY, reduceCtorEq, nq0, nq1, nq2, nq3, nq4, iq0, iq1, iq2, iq3, iq4, iq5, iq6, iq7, iq8, q0, q3, hok]; (try (simp (disch := omega) only [W2, Int.cast_ofNat_Int]; (try simp only [S, TY, reduceCtorEq, nq0, nq1, nq2, nq3, nq4, iq0, iq1, iq2, iq3, iq4, iq5, iq6, iq7, iq8, q0, q3, hok])))))
      refine cl_loop (fun k e H => k ≤ i ∧ e 0 = .slice (some ⟨b, off, none⟩) l.length cc ∧ e 3 = .int .i64 (i : Nat) ∧ e 5 = .int .i64 (k : Nat) ∧ (∀ x ∈ l.take k, x.port ≠ l[i].port) ∧ sg G [] H) (fun k : Nat => i - k) 0
        ⟨by omega, q0, q3, rfl, by simp, h⟩ ?_
      clear h q0 q3
      rintro k e H ⟨q2, q0, q3, q5, qp, h⟩
      by_cases g2 : (k : Int) < i
      · obtain ⟨b', off', hl', z, hc, -⟩ := hv.el Rw.len (i := k) (by omega) (by omega)
        cases z
        have c1 := hc 0 (by decide)
        simp only [Nat.add_zero, List.getElem?_cons_zero] at c1
        have f0 := h.roc c0
        have f1 := h.roc c1
        have g3 : (0 : Int) ≤ k ∧ (k : Int) < l.length := by omega
        have hs2 : l.take (k + 1) = l.take k ++ [l[k]] := by rw [List.take_add_one, List.getElem?_eq_getElem hl']; rfl
        by_cases g4 : l[k].port = l[i].port
        · have hne : ¬ Std l := fun z => List.pairwise_iff_getElem.1 z.2 k i hl' hl (by omega) g4
          ((try simp only [S, TY, reduceCtorEq, nq0, nq1, nq2, nq3, nq4, iq0, iq1, iq2, iq3, iq4, iq5, iq6, iq7, iq8, q0, q3, q5, g2, g0, g3, f0, f1, g4]); (try (simp (disch := omega) only [W2, Int.cast_ofNat_Int]; (try simp only [S, TY, reduceCtorEq, nq0, nq1, nq2, nq3, nq4, iq0, iq1, iq2, iq3, iq4, iq5, iq6, iq7, iq8, q0, q3, q5, g2, g0, g3, f0, f1, g4]))); repeat ((first | (refine cl_drawi 10 D25_10 (List.range 11) (by decide) (by kernel_rfl) ?_; unfold D25_10)); simp only [S, TY, reduceCtorEq, nq0, nq1, nq2, nq3, nq4, iq0, iq1, iq2, iq3, iq4, iq5, iq6, iq7, iq8, q0, q3, q5, g2, g0, g3, f0, f1, g4]; (try (simp (disch := omega) only [W2, Int.cast_ofNat_Int]; (try simp only [S, TY, reduceCtorEq, nq0, nq1, nq2, nq3, nq4, iq0, iq1, iq2, iq3, iq4, iq5, iq6, iq7, iq8, q0, q3, q5, g2, g0, g3, f0, f1, g4])))))
          exact fin_take (B := []) h ⟨by rw [decide_eq_false hne], rfl⟩
        · ((try simp only [S, TY, reduceCtorEq, nq0, nq1, nq2, nq3, nq4, iq0, iq1, iq2, iq3, iq4, iq5, iq6, iq7, iq8, q0, q3, q5, g2, g0, g3, f0, f1, g4]); (try (simp (disch := omega) only [W2, Int.cast_ofNat_Int]; (try simp only [S, TY, reduceCtorEq, nq0, nq1, nq2, nq3, nq4, iq0, iq1, iq2, iq3, iq4, iq5, iq6, iq7, iq8, q0, q3, q5, g2, g0, g3, f0, f1, g4]))); repeat ((first | (refine cl_drawi 10 D25_10 (List.range 11) (by decide) (by kernel_rfl) ?_; unfold D25_10)); simp only [S, TY, reduceCtorEq, nq0, nq1, nq2, nq3, nq4, iq0, iq1, iq2, iq3, iq4, iq5, iq6, iq7, iq8, q0, q3, q5, g2, g0, g3, f0, f1, g4]; (try (simp (disch := omega) only [W2, Int.cast_ofNat_Int]; (try simp only [S, TY, reduceCtorEq, nq0, nq1, nq2, nq3, nq4, iq0, iq1, iq2, iq3, iq4, iq5, iq6, iq7, iq8, q0, q3, q5, g2, g0, g3, f0, f1, g4])))))
          refine .go (k + 1) (by omega) ⟨by omega, q0, q3, rfl, ?_, h⟩
          intro x hx
          rw [hs2] at hx
          rcases List.mem_append.1 hx with hx | hx
          · exact qp x hx
          · rw [List.mem_singleton] at hx; subst hx; exact g4
      · ((try simp only [S, TY, reduceCtorEq, nq0, nq1, nq2, nq3, nq4, iq0, iq1, iq2, iq3, iq4, iq5, iq6, iq7, iq8, q0, q3, q5, g2]); (try (simp (disch := omega) only [W2, Int.cast_ofNat_Int]; (try simp only [S, TY, reduceCtorEq, nq0, nq1, nq2, nq3, nq4, iq0, iq1, iq2, iq3, iq4, iq5, iq6, iq7, iq8, q0, q3, q5, g2]))); repeat ((first | (refine cl_drawi 10 D25_10 (List.range 11) (by decide) (by kernel_rfl) ?_; unfold D25_10)); simp only [S, TY, reduceCtorEq, nq0, nq1, nq2, nq3, nq4, iq0, iq1, iq2, iq3, iq4, iq5, iq6, iq7, iq8, q0, q3, q5, g2]; (try (simp (disch := omega) only [W2, Int.cast_ofNat_Int]; (try simp only [S, TY, reduceCtorEq, nq0, nq1, nq2, nq3, nq4, iq0, iq1, iq2, iq3, iq4, iq5, iq6, iq7, iq8, q0, q3, q5, g2])))))
        obtain rfl : k = i := by omega
        refine .go (k + 1) (by omega) ⟨by omega, q0, rfl, ?_, h⟩
        rw [hs]
        refine ⟨?_, List.pairwise_append.2 ⟨qs.2, List.pairwise_singleton _ _, ?_⟩⟩
        · intro x hx
          rcases List.mem_append.1 hx with hx | hx
          · exact qs.1 x hx
          · rw [List.mem_singleton] at hx; subst hx; exact hok
        · intro x hx y hy
          rw [List.mem_singleton] at hy; subst hy; exact qp x hx
  · rw [List.take_of_length_le (by omega)] at qs
    ((try simp only [S, TY, reduceCtorEq, nq0, nq1, nq2, nq3, nq4, iq0, iq1, iq2, iq3, iq4, iq5, iq6, iq7, iq8, q0, q3, g1]); (try (simp (disch := omega) only [W2, Int.cast_ofNat_Int]; (try simp only [S, TY, reduceCtorEq, nq0, nq1, nq2, nq3, nq4, iq0, iq1, iq2, iq3, iq4, iq5, iq6, iq7, iq8, q0, q3, g1]))); repeat ((first | (refine cl_drawi 10 D25_10 (List.range 11) (by decide) (by kernel_rfl) ?_; unfold D25_10)); simp only [S, TY, reduceCtorEq, nq0, nq1, nq2, nq3, nq4, iq0, iq1, iq2, iq3, iq4, iq5, iq6, iq7, iq8, q0, q3, g1]; (try (simp (disch := omega) only [W2, Int.cast_ofNat_Int]; (try simp only [S, TY, reduceCtorEq, nq0, nq1, nq2, nq3, nq4, iq0, iq1, iq2, iq3, iq4, iq5, iq6, iq7, iq8, q0, q3, g1])))))
    exact fin_take (B := []) h ⟨by rw [decide_eq_true qs], rfl⟩
abbrev ra : Rw := ⟨3, 7, 2, -1, 1, 5, 2, 9, 0⟩
end Go.Proofs.Ytanhmbdcdbcfmaa.BiD
