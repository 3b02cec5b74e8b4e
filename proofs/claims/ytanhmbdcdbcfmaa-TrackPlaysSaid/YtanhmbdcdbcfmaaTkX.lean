/- Flows that are tracked: the law on acts. -/
import Derived.Test.YtanhmbdcdbcfmaaTkL
set_option linter.unusedVariables false
set_option linter.unusedSimpArgs false
set_option maxRecDepth 10000
set_option maxHeartbeats 2000000
namespace Go.Proofs.Ytanhmbdcdbcfmaa.TkX
open Nat renaming reduceEqDiff → nq0, reduceAdd → nq1, reduceLeDiff → nq2, reduceBEq → nq3, reduceMul → nq4
open Int renaming reduceBEq → iq0, reduceEq → iq1, reduceLT → iq2, reduceLE → iq3, reduceAdd → iq4, reduceSub → iq5, reduceMul → iq6, reduceToNat → iq7, cast_ofNat_Int → iq8
open Go Go.Sl Go.Proofs Go.Proofs.Ytanhmbdcdbcfmaa.SoI Go.Proofs.Ytanhmbdcdbcfmaa.Tk Go.Proofs.Ytanhmbdcdbcfmaa.TkO Go.Proofs.Ytanhmbdcdbcfmaa.TkP Go.Proofs.Ytanhmbdcdbcfmaa.TkQ Go.Proofs.Ytanhmbdcdbcfmaa.TkD Go.Proofs.Ytanhmbdcdbcfmaa.TkE Go.Proofs.Ytanhmbdcdbcfmaa.TkL
theorem TY : aggN Try.prog 3 = some none ∧
  aggN Try.prog 4 = some none ∧
  aggN Try.prog 5 = some none ∧
  aggN Try.prog 30 = some none ∧
  aggN Try.prog 164 = some none ∧
  aggN Try.prog 166 = some none ∧
  aggN Try.prog 169 = some none ∧
  aggN Try.prog 170 = some none ∧
  aggN Try.prog 172 = some (some 2) ∧
  aggN Try.prog 175 = some (some 5) ∧
  aggN Try.prog 177 = some (some 8) ∧
  aggN Try.prog 187 = some (some 6) ∧
  apI Try.prog 164 = some (177, 8, 72) ∧
  apI Try.prog 170 = some (187, 6, 40) ∧
  bIs Try.prog 172 = true ∧
  bIs Try.prog 175 = true ∧
  bIs Try.prog 177 = true ∧
  bIs Try.prog 187 = true ∧
  boIs Try.prog 4 = true ∧
  csz Try.prog 3 = some 1 ∧
  csz Try.prog 4 = some 1 ∧
  csz Try.prog 5 = some 1 ∧
  csz Try.prog 30 = some 1 ∧
  csz Try.prog 164 = some 1 ∧
  csz Try.prog 166 = some 1 ∧
  csz Try.prog 169 = some 1 ∧
  csz Try.prog 170 = some 1 ∧
  csz Try.prog 172 = some 2 ∧
  csz Try.prog 175 = some 5 ∧
  csz Try.prog 177 = some 8 ∧
  csz Try.prog 187 = some 6 ∧
  eqF Try.prog 175 = some [.i, .i, .i, .i, .i] ∧
  eqF Try.prog 187 = some [.i, .i, .i, .i, .i, .i] ∧
  fIs Try.prog 177 0 = true ∧
  fIs Try.prog 177 1 = true ∧
  fIs Try.prog 177 2 = true ∧
  fIs Try.prog 177 3 = true ∧
  fOff Try.prog 177 0 = 0 ∧
  fOff Try.prog 177 1 = 1 ∧
  fOff Try.prog 177 2 = 6 ∧
  fOff Try.prog 177 3 = 7 ∧
  fTy Try.prog 177 0 = 5 ∧
  fTy Try.prog 177 1 = 175 ∧
  fTy Try.prog 177 2 = 3 ∧
  fTy Try.prog 177 3 = 170 ∧
  goes Try.prog 83 = true ∧
  goes Try.prog 84 = true ∧
  goes Try.prog 85 = true ∧
  goes Try.prog 86 = true ∧
  goes Try.prog 87 = true ∧
  goes Try.prog 88 = true ∧
  goes Try.prog 89 = true ∧
  goes Try.prog 90 = true ∧
  goes Try.prog 91 = true ∧
  goes Try.prog 92 = true ∧
  goes Try.prog 93 = true ∧
  goes Try.prog 94 = true ∧
  inIs Try.prog 3 = some .i64 ∧
  inIs Try.prog 5 = some .u8 ∧
  inIs Try.prog 30 = some .i64 ∧
  plcs Try.prog 172 = [(0, 1), (1, 1)] ∧
  plcs Try.prog 175 = [(0, 1), (1, 1), (2, 1), (3, 1), (4, 1)] ∧
  plcs Try.prog 177 = [(0, 1), (1, 5), (6, 1), (7, 1)] ∧
  plcs Try.prog 187 = [(0, 5), (5, 1)] ∧
  ptIs Try.prog 166 = true ∧
  ptIs Try.prog 169 = true ∧
  slEl Try.prog 164 = 177 ∧
  slEl Try.prog 170 = 187 ∧
  slIs Try.prog 164 = true ∧
  slIs Try.prog 170 = true ∧
  slSz Try.prog 164 = 8 ∧
  slSz Try.prog 170 = 6 ∧
  zcs Try.prog 172 = [.int .i64 0, .slice none 0 0] ∧
  zcs Try.prog 175 = [.int .i64 0, .int .u32 0, .int .u32 0, .int .i64 0, .int .i64 0] ∧
  zcs Try.prog 177 = [.int .u8 0, .int .i64 0, .int .u32 0, .int .u32 0, .int .i64 0, .int .i64 0, .int .i64 0, .slice none 0 0] ∧
  zcs Try.prog 187 = [.int .i64 0, .int .u32 0, .int .u32 0, .int .i64 0, .int .i64 0, .int .i64 0] ∧
  zro Try.prog 3 = some (.int .i64 0) ∧
  zro Try.prog 4 = some (.bool false) ∧
  zro Try.prog 5 = some (.int .u8 0) ∧
  zro Try.prog 30 = some (.int .i64 0) ∧
  zro Try.prog 164 = some (.slice none 0 0) ∧
  zro Try.prog 166 = some (.pointer none) ∧
  zro Try.prog 169 = some (.pointer none) ∧
  zro Try.prog 170 = some (.slice none 0 0) ∧
  zro Try.prog 172 = some (.agg #[.int .i64 0, .slice none 0 0]) ∧
  zro Try.prog 175 = some (.agg #[.int .i64 0, .int .u32 0, .int .u32 0, .int .i64 0, .int .i64 0]) ∧
  zro Try.prog 177 = some (.agg #[.int .u8 0, .int .i64 0, .int .u32 0, .int .u32 0, .int .i64 0, .int .i64 0, .int .i64 0, .slice none 0 0]) ∧
  zro Try.prog 187 = some (.agg #[.int .i64 0, .int .u32 0, .int .u32 0, .int .i64 0, .int .i64 0, .int .i64 0]) :=
  ⟨by kernel_rfl, by kernel_rfl, by kernel_rfl, by kernel_rfl, by kernel_rfl, by kernel_rfl, by kernel_rfl, by kernel_rfl, by kernel_rfl, by kernel_rfl, by kernel_rfl, by kernel_rfl, by kernel_rfl, by kernel_rfl, by kernel_rfl, by kernel_rfl, by kernel_rfl, by kernel_rfl, by kernel_rfl, by kernel_rfl, by kernel_rfl, by kernel_rfl, by kernel_rfl, by kernel_rfl, by kernel_rfl, by kernel_rfl, by kernel_rfl, by kernel_rfl, by kernel_rfl, by kernel_rfl, by kernel_rfl, by kernel_rfl, by kernel_rfl, by kernel_rfl, by kernel_rfl, by kernel_rfl, by kernel_rfl, by kernel_rfl, by kernel_rfl, by kernel_rfl, by kernel_rfl, by kernel_rfl, by kernel_rfl, by kernel_rfl, by kernel_rfl, by kernel_rfl, by kernel_rfl, by kernel_rfl, by kernel_rfl, by kernel_rfl, by kernel_rfl, by kernel_rfl, by kernel_rfl, by kernel_rfl, by kernel_rfl, by kernel_rfl, by kernel_rfl, by kernel_rfl, by kernel_rfl, by kernel_rfl, by kernel_rfl, by kernel_rfl, by kernel_rfl, by kernel_rfl, by kernel_rfl, by kernel_rfl, by kernel_rfl, by kernel_rfl, by kernel_rfl, by kernel_rfl, by kernel_rfl, by kernel_rfl, by kernel_rfl, by kernel_rfl, by kernel_rfl, by kernel_rfl, by kernel_rfl, by kernel_rfl, by kernel_rfl, by kernel_rfl, by kernel_rfl, by kernel_rfl, by kernel_rfl, by kernel_rfl, by kernel_rfl, by kernel_rfl, by kernel_rfl, by kernel_rfl⟩
def D13_21 : List Note := Go.Sl.nn [0, 0, 0, 0, 0, 0, 0, 0, 0, 1, 0, 3, 0, 0, 1, 0, 3, 0, 0]
theorem playsLaw {G : Hp} (life look : Int) {v : Value} {l : List AT.den} (hv : Acts G v l) : Con Try.prog G 13 [.int .i64 life, v, .int .i64 look] [] (fun r B => r = .bool true ∧ B = []) := by
  have hv0 := hv
  obtain ⟨a, n, c, rfl, e1, e2⟩ := hv.shape (by decide)
  refine Con.intro Try.func13 rfl (Nat.le_of_ble_eq_true (by kernel_rfl)) (by kernel_rfl) Try.results13 ?_
  intro H hH
  ((try simp only [S, TY, reduceCtorEq, nq0, nq1, nq2, nq3, nq4, iq0, iq1, iq2, iq3, iq4, iq5, iq6, iq7, iq8]); (try (simp (disch := omega) only [W2, Int.cast_ofNat_Int]; (try simp only [S, TY, reduceCtorEq, nq0, nq1, nq2, nq3, nq4, iq0, iq1, iq2, iq3, iq4, iq5, iq6, iq7, iq8]))); repeat ((first | (refine cl_drawi 21 D13_21 (List.range 19) (by decide) (by kernel_rfl) ?_; unfold D13_21)); simp only [S, TY, reduceCtorEq, nq0, nq1, nq2, nq3, nq4, iq0, iq1, iq2, iq3, iq4, iq5, iq6, iq7, iq8]; (try (simp (disch := omega) only [W2, Int.cast_ofNat_Int]; (try simp only [S, TY, reduceCtorEq, nq0, nq1, nq2, nq3, nq4, iq0, iq1, iq2, iq3, iq4, iq5, iq6, iq7, iq8])))))
  refine (fits hv0).at_ hH [] _ rfl fun r B H1 hr h1 => ?_
  obtain ⟨ok, rfl, rfl, hok⟩ := hr
  cases ok with
  | false =>
    ((try simp only [S, TY, reduceCtorEq, nq0, nq1, nq2, nq3, nq4, iq0, iq1, iq2, iq3, iq4, iq5, iq6, iq7, iq8]); (try (simp (disch := omega) only [W2, Int.cast_ofNat_Int]; (try simp only [S, TY, reduceCtorEq, nq0, nq1, nq2, nq3, nq4, iq0, iq1, iq2, iq3, iq4, iq5, iq6, iq7, iq8]))); repeat ((first | (refine cl_drawi 21 D13_21 (List.range 19) (by decide) (by kernel_rfl) ?_; unfold D13_21)); simp only [S, TY, reduceCtorEq, nq0, nq1, nq2, nq3, nq4, iq0, iq1, iq2, iq3, iq4, iq5, iq6, iq7, iq8]; (try (simp (disch := omega) only [W2, Int.cast_ofNat_Int]; (try simp only [S, TY, reduceCtorEq, nq0, nq1, nq2, nq3, nq4, iq0, iq1, iq2, iq3, iq4, iq5, iq6, iq7, iq8])))))
    refine alive.at_ h1 [] _ rfl fun r B H2 hr h2 => ?_
    obtain ⟨rfl, rfl⟩ := hr
    ((try simp only [S, TY, reduceCtorEq, nq0, nq1, nq2, nq3, nq4, iq0, iq1, iq2, iq3, iq4, iq5, iq6, iq7, iq8]); (try (simp (disch := omega) only [W2, Int.cast_ofNat_Int]; (try simp only [S, TY, reduceCtorEq, nq0, nq1, nq2, nq3, nq4, iq0, iq1, iq2, iq3, iq4, iq5, iq6, iq7, iq8]))); repeat ((first | (refine cl_drawi 21 D13_21 (List.range 19) (by decide) (by kernel_rfl) ?_; unfold D13_21)); simp only [S, TY, reduceCtorEq, nq0, nq1, nq2, nq3, nq4, iq0, iq1, iq2, iq3, iq4, iq5, iq6, iq7, iq8]; (try (simp (disch := omega) only [W2, Int.cast_ofNat_Int]; (try simp only [S, TY, reduceCtorEq, nq0, nq1, nq2, nq3, nq4, iq0, iq1, iq2, iq3, iq4, iq5, iq6, iq7, iq8])))))
    exact fin_take (B := []) h2 ⟨rfl, rfl⟩
  | true =>
    have hn := (hok rfl).1
    ((try simp only [S, TY, reduceCtorEq, nq0, nq1, nq2, nq3, nq4, iq0, iq1, iq2, iq3, iq4, iq5, iq6, iq7, iq8]); (try (simp (disch := omega) only [W2, Int.cast_ofNat_Int]; (try simp only [S, TY, reduceCtorEq, nq0, nq1, nq2, nq3, nq4, iq0, iq1, iq2, iq3, iq4, iq5, iq6, iq7, iq8]))); repeat ((first | (refine cl_drawi 21 D13_21 (List.range 19) (by decide) (by kernel_rfl) ?_; unfold D13_21)); simp only [S, TY, reduceCtorEq, nq0, nq1, nq2, nq3, nq4, iq0, iq1, iq2, iq3, iq4, iq5, iq6, iq7, iq8]; (try (simp (disch := omega) only [W2, Int.cast_ofNat_Int]; (try simp only [S, TY, reduceCtorEq, nq0, nq1, nq2, nq3, nq4, iq0, iq1, iq2, iq3, iq4, iq5, iq6, iq7, iq8])))))
    by_cases gl : 1 ≤ life ∧ life ≤ 2147483648
    · refine (New_ok life gl.1 gl.2).at_ h1 [] _ rfl fun r B H2 hr h2 => ?_
      obtain ⟨p, rfl, rfl⟩ := hr
      have g1 : ¬ life < 1 := by omega
      have g2 : ¬ (2147483648 : Int) < life := by omega
      ((try simp only [S, TY, reduceCtorEq, nq0, nq1, nq2, nq3, nq4, iq0, iq1, iq2, iq3, iq4, iq5, iq6, iq7, iq8, g1, g2]); (try (simp (disch := omega) only [W2, Int.cast_ofNat_Int]; (try simp only [S, TY, reduceCtorEq, nq0, nq1, nq2, nq3, nq4, iq0, iq1, iq2, iq3, iq4, iq5, iq6, iq7, iq8, g1, g2]))); repeat ((first | (refine cl_drawi 21 D13_21 (List.range 19) (by decide) (by kernel_rfl) ?_; unfold D13_21)); simp only [S, TY, reduceCtorEq, nq0, nq1, nq2, nq3, nq4, iq0, iq1, iq2, iq3, iq4, iq5, iq6, iq7, iq8, g1, g2]; (try (simp (disch := omega) only [W2, Int.cast_ofNat_Int]; (try simp only [S, TY, reduceCtorEq, nq0, nq1, nq2, nq3, nq4, iq0, iq1, iq2, iq3, iq4, iq5, iq6, iq7, iq8, g1, g2])))))
      intro mq hq hg
      have h3 := dT_shut (l := []) (((h2.nil_ 187 6)).new hq hg (.cells #[.int .i64 life, .slice none 0 0] 172 (0, 0)))
      ((try simp only [S, TY, reduceCtorEq, nq0, nq1, nq2, nq3, nq4, iq0, iq1, iq2, iq3, iq4, iq5, iq6, iq7, iq8, g1, g2]); (try (simp (disch := omega) only [W2, Int.cast_ofNat_Int]; (try simp only [S, TY, reduceCtorEq, nq0, nq1, nq2, nq3, nq4, iq0, iq1, iq2, iq3, iq4, iq5, iq6, iq7, iq8, g1, g2]))); repeat ((first | (refine cl_drawi 21 D13_21 (List.range 19) (by decide) (by kernel_rfl) ?_; unfold D13_21)); simp only [S, TY, reduceCtorEq, nq0, nq1, nq2, nq3, nq4, iq0, iq1, iq2, iq3, iq4, iq5, iq6, iq7, iq8, g1, g2]; (try (simp (disch := omega) only [W2, Int.cast_ofNat_Int]; (try simp only [S, TY, reduceCtorEq, nq0, nq1, nq2, nq3, nq4, iq0, iq1, iq2, iq3, iq4, iq5, iq6, iq7, iq8, g1, g2])))))
      refine cl_loop (fun i e H => i ≤ n ∧ e 0 = .int .i64 life ∧ e 1 = .slice a n c ∧ e 2 = .int .i64 look ∧ e 8 = .pointer (some ⟨p, 0, none⟩) ∧ e 10 = .pointer (some ⟨mq, 0, none⟩) ∧ e 11 = .int .i64 (i : Nat) ∧
          ∃ l' : List Rc, l'.length ≤ 16 ∧ sg G [tT p life l', dT mq life l'] H) (fun i : Nat => n - i) 0
        ⟨by omega, rfl, rfl, rfl, rfl, rfl, rfl, [], by simp, ⟨h3.1, seps_take (B := [_, _]) (h3.fronts [1, 0]).2⟩⟩ ?_
      clear h1 h2 h3
      rintro i e H ⟨q1, q0, q1', q2, q8, q10, q11, l', h16, h⟩
      by_cases g3 : (i : Int) < n
      · obtain ⟨b, off, cs, hl, rfl, hQ, _, hc, hld⟩ := hv0.at (by decide) (i := i) (by omega)
        have hlen := (hok rfl).2 _ (List.getElem_mem hl)
        obtain ⟨k, f, now, w, m, rfl, hb, hml⟩ := act_l hQ
        rw [← hml] at hlen
        have hb0 := hb
        obtain ⟨wa, wn, wc, rfl, f1, f2⟩ := hb.slice
        have g0 : (0 : Int) ≤ i ∧ (i : Int) < n := ⟨by omega, g3⟩
        have el := h.rold hld
        have n6 : ¬ (6 : Int) = 0 := by decide
        ((try simp only [S, TY, reduceCtorEq, nq0, nq1, nq2, nq3, nq4, iq0, iq1, iq2, iq3, iq4, iq5, iq6, iq7, iq8, q0, q1', q2, q8, q10, q11, g0, g3, el]); (try (simp (disch := omega) only [W2, Int.cast_ofNat_Int]; (try simp only [S, TY, reduceCtorEq, nq0, nq1, nq2, nq3, nq4, iq0, iq1, iq2, iq3, iq4, iq5, iq6, iq7, iq8, q0, q1', q2, q8, q10, q11, g0, g3, el]))); repeat ((first | (refine cl_drawi 21 D13_21 (List.range 19) (by decide) (by kernel_rfl) ?_; unfold D13_21)); simp only [S, TY, reduceCtorEq, nq0, nq1, nq2, nq3, nq4, iq0, iq1, iq2, iq3, iq4, iq5, iq6, iq7, iq8, q0, q1', q2, q8, q10, q11, g0, g3, el]; (try (simp (disch := omega) only [W2, Int.cast_ofNat_Int]; (try simp only [S, TY, reduceCtorEq, nq0, nq1, nq2, nq3, nq4, iq0, iq1, iq2, iq3, iq4, iq5, iq6, iq7, iq8, q0, q1', q2, q8, q10, q11, g0, g3, el])))))
        intro ab hab hga
        have h1 := h.new hab hga (.cells #[.int .u8 0, .int .i64 0, .int .u32 0, .int .u32 0, .int .i64 0, .int .i64 0, .int .i64 0, .slice none 0 0] 177 (0, 0))
        ((try simp only [S, TY, reduceCtorEq, nq0, nq1, nq2, nq3, nq4, iq0, iq1, iq2, iq3, iq4, iq5, iq6, iq7, iq8, q0, q1', q2, q8, q10, q11]); (try (simp (disch := omega) only [W2, Int.cast_ofNat_Int]; (try simp only [S, TY, reduceCtorEq, nq0, nq1, nq2, nq3, nq4, iq0, iq1, iq2, iq3, iq4, iq5, iq6, iq7, iq8, q0, q1', q2, q8, q10, q11]))); repeat ((first | (refine cl_drawi 21 D13_21 (List.range 19) (by decide) (by kernel_rfl) ?_; unfold D13_21)); simp only [S, TY, reduceCtorEq, nq0, nq1, nq2, nq3, nq4, iq0, iq1, iq2, iq3, iq4, iq5, iq6, iq7, iq8, q0, q1', q2, q8, q10, q11]; (try (simp (disch := omega) only [W2, Int.cast_ofNat_Int]; (try simp only [S, TY, reduceCtorEq, nq0, nq1, nq2, nq3, nq4, iq0, iq1, iq2, iq3, iq4, iq5, iq6, iq7, iq8, q0, q1', q2, q8, q10, q11])))))
        refine sg.st h1 rfl rfl fun H2 h2 => ?_
        simp only [front_eq, fronts_nil, fronts_cons, List.getElem?_cons_zero, List.getElem?_cons_succ, List.eraseIdx_cons_zero, List.eraseIdx_cons_succ, List.cons_append, List.nil_append, putL_cons, putL_nil, List.set_cons_zero, List.set_cons_succ, Nat.reduceAdd] at h2
        have c2 := h2.c0
        have w2 := h2.li 0 rfl
        by_cases g4 : k.tmod 6 < 4
        · ((try simp only [S, TY, reduceCtorEq, nq0, nq1, nq2, nq3, nq4, iq0, iq1, iq2, iq3, iq4, iq5, iq6, iq7, iq8, q0, q1', q2, q8, q10, q11, c2, w2, n6, g4]); (try (simp (disch := omega) only [W2, Int.cast_ofNat_Int]; (try simp only [S, TY, reduceCtorEq, nq0, nq1, nq2, nq3, nq4, iq0, iq1, iq2, iq3, iq4, iq5, iq6, iq7, iq8, q0, q1', q2, q8, q10, q11, c2, w2, n6, g4]))); repeat ((first | (refine cl_drawi 21 D13_21 (List.range 19) (by decide) (by kernel_rfl) ?_; unfold D13_21)); simp only [S, TY, reduceCtorEq, nq0, nq1, nq2, nq3, nq4, iq0, iq1, iq2, iq3, iq4, iq5, iq6, iq7, iq8, q0, q1', q2, q8, q10, q11, c2, w2, n6, g4]; (try (simp (disch := omega) only [W2, Int.cast_ofNat_Int]; (try simp only [S, TY, reduceCtorEq, nq0, nq1, nq2, nq3, nq4, iq0, iq1, iq2, iq3, iq4, iq5, iq6, iq7, iq8, q0, q1', q2, q8, q10, q11, c2, w2, n6, g4])))))
          refine (Note_ok f now gl.1 gl.2 (by omega)).at_ h2 [1] _ rfl fun r B H4 hr h4 => ?_
          obtain ⟨rfl, rfl⟩ := hr
          simp only [front_eq, fronts_nil, fronts_cons, List.getElem?_cons_zero, List.getElem?_cons_succ, List.eraseIdx_cons_zero, List.eraseIdx_cons_succ, List.cons_append, List.nil_append, putL_cons, putL_nil, List.set_cons_zero, List.set_cons_succ, Nat.reduceAdd] at h4
          have c4 := (h4.front 1).c0
          have w4 := h4.li 1 rfl
          ((try simp only [S, TY, reduceCtorEq, nq0, nq1, nq2, nq3, nq4, iq0, iq1, iq2, iq3, iq4, iq5, iq6, iq7, iq8, q0, q1', q2, q8, q10, q11, c4, w4]); (try (simp (disch := omega) only [W2, Int.cast_ofNat_Int]; (try simp only [S, TY, reduceCtorEq, nq0, nq1, nq2, nq3, nq4, iq0, iq1, iq2, iq3, iq4, iq5, iq6, iq7, iq8, q0, q1', q2, q8, q10, q11, c4, w4]))); repeat ((first | (refine cl_drawi 21 D13_21 (List.range 19) (by decide) (by kernel_rfl) ?_; unfold D13_21)); simp only [S, TY, reduceCtorEq, nq0, nq1, nq2, nq3, nq4, iq0, iq1, iq2, iq3, iq4, iq5, iq6, iq7, iq8, q0, q1', q2, q8, q10, q11, c4, w4]; (try (simp (disch := omega) only [W2, Int.cast_ofNat_Int]; (try simp only [S, TY, reduceCtorEq, nq0, nq1, nq2, nq3, nq4, iq0, iq1, iq2, iq3, iq4, iq5, iq6, iq7, iq8, q0, q1', q2, q8, q10, q11, c4, w4])))))
          refine (dNote_ok f now gl.1 gl.2 (by omega)).at_ h4 [2] _ rfl fun r B H6 hr h6 => ?_
          obtain ⟨rfl, rfl⟩ := hr
          obtain ⟨l2, hl2⟩ : ∃ l2, (note life l' f now).1 = l2 := ⟨_, rfl⟩
          have h16' : l2.length ≤ 16 := by rw [← hl2]; exact note_16 life f now h16
          rw [hl2] at h6
          simp only [front_eq, fronts_nil, fronts_cons, List.getElem?_cons_zero, List.getElem?_cons_succ, List.eraseIdx_cons_zero, List.eraseIdx_cons_succ, List.cons_append, List.nil_append, putL_cons, putL_nil, List.set_cons_zero, List.set_cons_succ, Nat.reduceAdd] at h6
          ((try simp only [S, TY, reduceCtorEq, nq0, nq1, nq2, nq3, nq4, iq0, iq1, iq2, iq3, iq4, iq5, iq6, iq7, iq8, q0, q1', q2, q8, q10, q11]); (try (simp (disch := omega) only [W2, Int.cast_ofNat_Int]; (try simp only [S, TY, reduceCtorEq, nq0, nq1, nq2, nq3, nq4, iq0, iq1, iq2, iq3, iq4, iq5, iq6, iq7, iq8, q0, q1', q2, q8, q10, q11]))); repeat ((first | (refine cl_drawi 21 D13_21 (List.range 19) (by decide) (by kernel_rfl) ?_; unfold D13_21)); simp only [S, TY, reduceCtorEq, nq0, nq1, nq2, nq3, nq4, iq0, iq1, iq2, iq3, iq4, iq5, iq6, iq7, iq8, q0, q1', q2, q8, q10, q11]; (try (simp (disch := omega) only [W2, Int.cast_ofNat_Int]; (try simp only [S, TY, reduceCtorEq, nq0, nq1, nq2, nq3, nq4, iq0, iq1, iq2, iq3, iq4, iq5, iq6, iq7, iq8, q0, q1', q2, q8, q10, q11])))))
          refine (Records_ok (now := look) (by omega)).at_ h6 [1] _ rfl fun r B H7 hr h7 => ?_
          subst hr
          obtain ⟨ra, rn, rc, rfl, _, _⟩ := h7.sl 0 rfl Rd_own
          simp only [front_eq, fronts_nil, fronts_cons, List.getElem?_cons_zero, List.getElem?_cons_succ, List.eraseIdx_cons_zero, List.eraseIdx_cons_succ, List.cons_append, List.nil_append, putL_cons, putL_nil, List.set_cons_zero, List.set_cons_succ, Nat.reduceAdd] at h7
          ((try simp only [S, TY, reduceCtorEq, nq0, nq1, nq2, nq3, nq4, iq0, iq1, iq2, iq3, iq4, iq5, iq6, iq7, iq8, q0, q1', q2, q8, q10, q11]); (try (simp (disch := omega) only [W2, Int.cast_ofNat_Int]; (try simp only [S, TY, reduceCtorEq, nq0, nq1, nq2, nq3, nq4, iq0, iq1, iq2, iq3, iq4, iq5, iq6, iq7, iq8, q0, q1', q2, q8, q10, q11]))); repeat ((first | (refine cl_drawi 21 D13_21 (List.range 19) (by decide) (by kernel_rfl) ?_; unfold D13_21)); simp only [S, TY, reduceCtorEq, nq0, nq1, nq2, nq3, nq4, iq0, iq1, iq2, iq3, iq4, iq5, iq6, iq7, iq8, q0, q1', q2, q8, q10, q11]; (try (simp (disch := omega) only [W2, Int.cast_ofNat_Int]; (try simp only [S, TY, reduceCtorEq, nq0, nq1, nq2, nq3, nq4, iq0, iq1, iq2, iq3, iq4, iq5, iq6, iq7, iq8, q0, q1', q2, q8, q10, q11])))))
          refine (dRecords_ok (now := look) (by omega)).at_ h7 [2] _ rfl fun r B H8 hr h8 => ?_
          subst hr
          obtain ⟨sa, sn, sc, rfl, _, _⟩ := h8.sl 0 rfl Rd_own
          simp only [front_eq, fronts_nil, fronts_cons, List.getElem?_cons_zero, List.getElem?_cons_succ, List.eraseIdx_cons_zero, List.eraseIdx_cons_succ, List.cons_append, List.nil_append, putL_cons, putL_nil, List.set_cons_zero, List.set_cons_succ, Nat.reduceAdd] at h8
          have hlv := live_len l2 look
          ((try simp only [S, TY, reduceCtorEq, nq0, nq1, nq2, nq3, nq4, iq0, iq1, iq2, iq3, iq4, iq5, iq6, iq7, iq8, q0, q1', q2, q8, q10, q11]); (try (simp (disch := omega) only [W2, Int.cast_ofNat_Int]; (try simp only [S, TY, reduceCtorEq, nq0, nq1, nq2, nq3, nq4, iq0, iq1, iq2, iq3, iq4, iq5, iq6, iq7, iq8, q0, q1', q2, q8, q10, q11]))); repeat ((first | (refine cl_drawi 21 D13_21 (List.range 19) (by decide) (by kernel_rfl) ?_; unfold D13_21)); simp only [S, TY, reduceCtorEq, nq0, nq1, nq2, nq3, nq4, iq0, iq1, iq2, iq3, iq4, iq5, iq6, iq7, iq8, q0, q1', q2, q8, q10, q11]; (try (simp (disch := omega) only [W2, Int.cast_ofNat_Int]; (try simp only [S, TY, reduceCtorEq, nq0, nq1, nq2, nq3, nq4, iq0, iq1, iq2, iq3, iq4, iq5, iq6, iq7, iq8, q0, q1', q2, q8, q10, q11])))))
          refine Con.lend_at [] [own 187 6 _ ((live l2 look).flatMap Rc.l), own 187 6 _ ((live l2 look).flatMap Rc.l)] h8 [2, 0] rfl (fun F hF hs => cmp_ok (seps_own hs 0 rfl).left (seps_own hs 1 rfl).left (by omega)) (fun r B H9 hr h9 => ?_)
          obtain ⟨rfl, rfl⟩ := hr
          rw [decide_eq_true rfl]
          simp only [front_eq, fronts_nil, fronts_cons, List.getElem?_cons_zero, List.getElem?_cons_succ, List.eraseIdx_cons_zero, List.eraseIdx_cons_succ, List.cons_append, List.nil_append, putL_cons, putL_nil, List.set_cons_zero, List.set_cons_succ, Nat.reduceAdd] at h9
          have w9 := h9.li 4 rfl
          ((try simp only [S, TY, reduceCtorEq, nq0, nq1, nq2, nq3, nq4, iq0, iq1, iq2, iq3, iq4, iq5, iq6, iq7, iq8, q0, q1', q2, q8, q10, q11, w9]); (try (simp (disch := omega) only [W2, Int.cast_ofNat_Int]; (try simp only [S, TY, reduceCtorEq, nq0, nq1, nq2, nq3, nq4, iq0, iq1, iq2, iq3, iq4, iq5, iq6, iq7, iq8, q0, q1', q2, q8, q10, q11, w9]))); repeat ((first | (refine cl_drawi 21 D13_21 (List.range 19) (by decide) (by kernel_rfl) ?_; unfold D13_21)); simp only [S, TY, reduceCtorEq, nq0, nq1, nq2, nq3, nq4, iq0, iq1, iq2, iq3, iq4, iq5, iq6, iq7, iq8, q0, q1', q2, q8, q10, q11, w9]; (try (simp (disch := omega) only [W2, Int.cast_ofNat_Int]; (try simp only [S, TY, reduceCtorEq, nq0, nq1, nq2, nq3, nq4, iq0, iq1, iq2, iq3, iq4, iq5, iq6, iq7, iq8, q0, q1', q2, q8, q10, q11, w9])))))
          refine (Known_ok f look (by omega)).at_ h9 [3] _ rfl fun r B H10 hr h10 => ?_
          obtain ⟨rfl, rfl⟩ := hr
          simp only [front_eq, fronts_nil, fronts_cons, List.getElem?_cons_zero, List.getElem?_cons_succ, List.eraseIdx_cons_zero, List.eraseIdx_cons_succ, List.cons_append, List.nil_append, putL_cons, putL_nil, List.set_cons_zero, List.set_cons_succ, Nat.reduceAdd] at h10
          have w10 := h10.li 4 rfl
          ((try simp only [S, TY, reduceCtorEq, nq0, nq1, nq2, nq3, nq4, iq0, iq1, iq2, iq3, iq4, iq5, iq6, iq7, iq8, q0, q1', q2, q8, q10, q11, w9, w10]); (try (simp (disch := omega) only [W2, Int.cast_ofNat_Int]; (try simp only [S, TY, reduceCtorEq, nq0, nq1, nq2, nq3, nq4, iq0, iq1, iq2, iq3, iq4, iq5, iq6, iq7, iq8, q0, q1', q2, q8, q10, q11, w9, w10]))); repeat ((first | (refine cl_drawi 21 D13_21 (List.range 19) (by decide) (by kernel_rfl) ?_; unfold D13_21)); simp only [S, TY, reduceCtorEq, nq0, nq1, nq2, nq3, nq4, iq0, iq1, iq2, iq3, iq4, iq5, iq6, iq7, iq8, q0, q1', q2, q8, q10, q11, w9, w10]; (try (simp (disch := omega) only [W2, Int.cast_ofNat_Int]; (try simp only [S, TY, reduceCtorEq, nq0, nq1, nq2, nq3, nq4, iq0, iq1, iq2, iq3, iq4, iq5, iq6, iq7, iq8, q0, q1', q2, q8, q10, q11, w9, w10])))))
          refine (dKnown_ok f look (by omega)).at_ h10 [3] _ rfl fun r B H11 hr h11 => ?_
          obtain ⟨rfl, rfl⟩ := hr
          simp only [front_eq, fronts_nil, fronts_cons, List.getElem?_cons_zero, List.getElem?_cons_succ, List.eraseIdx_cons_zero, List.eraseIdx_cons_succ, List.cons_append, List.nil_append, putL_cons, putL_nil, List.set_cons_zero, List.set_cons_succ, Nat.reduceAdd] at h11
          obtain ⟨kb, hkb⟩ : ∃ b, known l2 f look = b := ⟨_, rfl⟩
          rw [hkb]
          ((try simp only [S, TY, reduceCtorEq, nq0, nq1, nq2, nq3, nq4, iq0, iq1, iq2, iq3, iq4, iq5, iq6, iq7, iq8, q0, q1', q2, q8, q10, q11, w9, w10]); (try (simp (disch := omega) only [W2, Int.cast_ofNat_Int]; (try simp only [S, TY, reduceCtorEq, nq0, nq1, nq2, nq3, nq4, iq0, iq1, iq2, iq3, iq4, iq5, iq6, iq7, iq8, q0, q1', q2, q8, q10, q11, w9, w10]))); repeat ((first | (refine cl_drawi 21 D13_21 (List.range 19) (by decide) (by kernel_rfl) ?_; unfold D13_21)); simp only [S, TY, reduceCtorEq, nq0, nq1, nq2, nq3, nq4, iq0, iq1, iq2, iq3, iq4, iq5, iq6, iq7, iq8, q0, q1', q2, q8, q10, q11, w9, w10]; (try (simp (disch := omega) only [W2, Int.cast_ofNat_Int]; (try simp only [S, TY, reduceCtorEq, nq0, nq1, nq2, nq3, nq4, iq0, iq1, iq2, iq3, iq4, iq5, iq6, iq7, iq8, q0, q1', q2, q8, q10, q11, w9, w10])))))
          exact .go (i + 1) (by omega) ⟨by omega, q0, q1', q2, q8, q10, rfl, l2, h16', ⟨h11.1, seps_take (B := [_, _]) (h11.fronts [1, 0]).2⟩⟩
        · ((try simp only [S, TY, reduceCtorEq, nq0, nq1, nq2, nq3, nq4, iq0, iq1, iq2, iq3, iq4, iq5, iq6, iq7, iq8, q0, q1', q2, q8, q10, q11, c2, w2, n6, g4]); (try (simp (disch := omega) only [W2, Int.cast_ofNat_Int]; (try simp only [S, TY, reduceCtorEq, nq0, nq1, nq2, nq3, nq4, iq0, iq1, iq2, iq3, iq4, iq5, iq6, iq7, iq8, q0, q1', q2, q8, q10, q11, c2, w2, n6, g4]))); repeat ((first | (refine cl_drawi 21 D13_21 (List.range 19) (by decide) (by kernel_rfl) ?_; unfold D13_21)); simp only [S, TY, reduceCtorEq, nq0, nq1, nq2, nq3, nq4, iq0, iq1, iq2, iq3, iq4, iq5, iq6, iq7, iq8, q0, q1', q2, q8, q10, q11, c2, w2, n6, g4]; (try (simp (disch := omega) only [W2, Int.cast_ofNat_Int]; (try simp only [S, TY, reduceCtorEq, nq0, nq1, nq2, nq3, nq4, iq0, iq1, iq2, iq3, iq4, iq5, iq6, iq7, iq8, q0, q1', q2, q8, q10, q11, c2, w2, n6, g4])))))
          refine (Import_ok now hb0 (by omega) (by omega)).at_ h2 [1] _ rfl fun r B H4 hr h4 => ?_
          obtain ⟨rfl, rfl⟩ := hr
          simp only [front_eq, fronts_nil, fronts_cons, List.getElem?_cons_zero, List.getElem?_cons_succ, List.eraseIdx_cons_zero, List.eraseIdx_cons_succ, List.cons_append, List.nil_append, putL_cons, putL_nil, List.set_cons_zero, List.set_cons_succ, Nat.reduceAdd] at h4
          have c4 := (h4.front 1).c0
          have w4 := h4.li 1 rfl
          ((try simp only [S, TY, reduceCtorEq, nq0, nq1, nq2, nq3, nq4, iq0, iq1, iq2, iq3, iq4, iq5, iq6, iq7, iq8, q0, q1', q2, q8, q10, q11, c4, w4]); (try (simp (disch := omega) only [W2, Int.cast_ofNat_Int]; (try simp only [S, TY, reduceCtorEq, nq0, nq1, nq2, nq3, nq4, iq0, iq1, iq2, iq3, iq4, iq5, iq6, iq7, iq8, q0, q1', q2, q8, q10, q11, c4, w4]))); repeat ((first | (refine cl_drawi 21 D13_21 (List.range 19) (by decide) (by kernel_rfl) ?_; unfold D13_21)); simp only [S, TY, reduceCtorEq, nq0, nq1, nq2, nq3, nq4, iq0, iq1, iq2, iq3, iq4, iq5, iq6, iq7, iq8, q0, q1', q2, q8, q10, q11, c4, w4]; (try (simp (disch := omega) only [W2, Int.cast_ofNat_Int]; (try simp only [S, TY, reduceCtorEq, nq0, nq1, nq2, nq3, nq4, iq0, iq1, iq2, iq3, iq4, iq5, iq6, iq7, iq8, q0, q1', q2, q8, q10, q11, c4, w4])))))
          refine (dImport_ok now hb0 (by omega) (by omega)).at_ h4 [2] _ rfl fun r B H6 hr h6 => ?_
          obtain ⟨rfl, rfl⟩ := hr
          obtain ⟨l2, hl2⟩ : ∃ l2, (imp l' now m).1 = l2 := ⟨_, rfl⟩
          have h16' : l2.length ≤ 16 := by rw [← hl2]; exact imp_16 now m h16
          rw [hl2] at h6
          simp only [front_eq, fronts_nil, fronts_cons, List.getElem?_cons_zero, List.getElem?_cons_succ, List.eraseIdx_cons_zero, List.eraseIdx_cons_succ, List.cons_append, List.nil_append, putL_cons, putL_nil, List.set_cons_zero, List.set_cons_succ, Nat.reduceAdd] at h6
          ((try simp only [S, TY, reduceCtorEq, nq0, nq1, nq2, nq3, nq4, iq0, iq1, iq2, iq3, iq4, iq5, iq6, iq7, iq8, q0, q1', q2, q8, q10, q11]); (try (simp (disch := omega) only [W2, Int.cast_ofNat_Int]; (try simp only [S, TY, reduceCtorEq, nq0, nq1, nq2, nq3, nq4, iq0, iq1, iq2, iq3, iq4, iq5, iq6, iq7, iq8, q0, q1', q2, q8, q10, q11]))); repeat ((first | (refine cl_drawi 21 D13_21 (List.range 19) (by decide) (by kernel_rfl) ?_; unfold D13_21)); simp only [S, TY, reduceCtorEq, nq0, nq1, nq2, nq3, nq4, iq0, iq1, iq2, iq3, iq4, iq5, iq6, iq7, iq8, q0, q1', q2, q8, q10, q11]; (try (simp (disch := omega) only [W2, Int.cast_ofNat_Int]; (try simp only [S, TY, reduceCtorEq, nq0, nq1, nq2, nq3, nq4, iq0, iq1, iq2, iq3, iq4, iq5, iq6, iq7, iq8, q0, q1', q2, q8, q10, q11])))))
          refine (Records_ok (now := look) (by omega)).at_ h6 [1] _ rfl fun r B H7 hr h7 => ?_
          subst hr
          obtain ⟨ra, rn, rc, rfl, _, _⟩ := h7.sl 0 rfl Rd_own
          simp only [front_eq, fronts_nil, fronts_cons, List.getElem?_cons_zero, List.getElem?_cons_succ, List.eraseIdx_cons_zero, List.eraseIdx_cons_succ, List.cons_append, List.nil_append, putL_cons, putL_nil, List.set_cons_zero, List.set_cons_succ, Nat.reduceAdd] at h7
          ((try simp only [S, TY, reduceCtorEq, nq0, nq1, nq2, nq3, nq4, iq0, iq1, iq2, iq3, iq4, iq5, iq6, iq7, iq8, q0, q1', q2, q8, q10, q11]); (try (simp (disch := omega) only [W2, Int.cast_ofNat_Int]; (try simp only [S, TY, reduceCtorEq, nq0, nq1, nq2, nq3, nq4, iq0, iq1, iq2, iq3, iq4, iq5, iq6, iq7, iq8, q0, q1', q2, q8, q10, q11]))); repeat ((first | (refine cl_drawi 21 D13_21 (List.range 19) (by decide) (by kernel_rfl) ?_; unfold D13_21)); simp only [S, TY, reduceCtorEq, nq0, nq1, nq2, nq3, nq4, iq0, iq1, iq2, iq3, iq4, iq5, iq6, iq7, iq8, q0, q1', q2, q8, q10, q11]; (try (simp (disch := omega) only [W2, Int.cast_ofNat_Int]; (try simp only [S, TY, reduceCtorEq, nq0, nq1, nq2, nq3, nq4, iq0, iq1, iq2, iq3, iq4, iq5, iq6, iq7, iq8, q0, q1', q2, q8, q10, q11])))))
          refine (dRecords_ok (now := look) (by omega)).at_ h7 [2] _ rfl fun r B H8 hr h8 => ?_
          subst hr
          obtain ⟨sa, sn, sc, rfl, _, _⟩ := h8.sl 0 rfl Rd_own
          simp only [front_eq, fronts_nil, fronts_cons, List.getElem?_cons_zero, List.getElem?_cons_succ, List.eraseIdx_cons_zero, List.eraseIdx_cons_succ, List.cons_append, List.nil_append, putL_cons, putL_nil, List.set_cons_zero, List.set_cons_succ, Nat.reduceAdd] at h8
          have hlv := live_len l2 look
          ((try simp only [S, TY, reduceCtorEq, nq0, nq1, nq2, nq3, nq4, iq0, iq1, iq2, iq3, iq4, iq5, iq6, iq7, iq8, q0, q1', q2, q8, q10, q11]); (try (simp (disch := omega) only [W2, Int.cast_ofNat_Int]; (try simp only [S, TY, reduceCtorEq, nq0, nq1, nq2, nq3, nq4, iq0, iq1, iq2, iq3, iq4, iq5, iq6, iq7, iq8, q0, q1', q2, q8, q10, q11]))); repeat ((first | (refine cl_drawi 21 D13_21 (List.range 19) (by decide) (by kernel_rfl) ?_; unfold D13_21)); simp only [S, TY, reduceCtorEq, nq0, nq1, nq2, nq3, nq4, iq0, iq1, iq2, iq3, iq4, iq5, iq6, iq7, iq8, q0, q1', q2, q8, q10, q11]; (try (simp (disch := omega) only [W2, Int.cast_ofNat_Int]; (try simp only [S, TY, reduceCtorEq, nq0, nq1, nq2, nq3, nq4, iq0, iq1, iq2, iq3, iq4, iq5, iq6, iq7, iq8, q0, q1', q2, q8, q10, q11])))))
          refine Con.lend_at [] [own 187 6 _ ((live l2 look).flatMap Rc.l), own 187 6 _ ((live l2 look).flatMap Rc.l)] h8 [2, 0] rfl (fun F hF hs => cmp_ok (seps_own hs 0 rfl).left (seps_own hs 1 rfl).left (by omega)) (fun r B H9 hr h9 => ?_)
          obtain ⟨rfl, rfl⟩ := hr
          rw [decide_eq_true rfl]
          simp only [front_eq, fronts_nil, fronts_cons, List.getElem?_cons_zero, List.getElem?_cons_succ, List.eraseIdx_cons_zero, List.eraseIdx_cons_succ, List.cons_append, List.nil_append, putL_cons, putL_nil, List.set_cons_zero, List.set_cons_succ, Nat.reduceAdd] at h9
          have w9 := h9.li 4 rfl
          ((try simp only [S, TY, reduceCtorEq, nq0, nq1, nq2, nq3, nq4, iq0, iq1, iq2, iq3, iq4, iq5, iq6, iq7, iq8, q0, q1', q2, q8, q10, q11, w9]); (try (simp (disch := omega) only [W2, Int.cast_ofNat_Int]; (try simp only [S, TY, reduceCtorEq, nq0, nq1, nq2, nq3, nq4, iq0, iq1, iq2, iq3, iq4, iq5, iq6, iq7, iq8, q0, q1', q2, q8, q10, q11, w9]))); repeat ((first | (refine cl_drawi 21 D13_21 (List.range 19) (by decide) (by kernel_rfl) ?_; unfold D13_21)); simp only [S, TY, reduceCtorEq, nq0, nq1, nq2, nq3, nq4, iq0, iq1, iq2, iq3, iq4, iq5, iq6, iq7, iq8, q0, q1', q2, q8, q10, q11, w9]; (try (simp (disch := omega) only [W2, Int.cast_ofNat_Int]; (try simp only [S, TY, reduceCtorEq, nq0, nq1, nq2, nq3, nq4, iq0, iq1, iq2, iq3, iq4, iq5, iq6, iq7, iq8, q0, q1', q2, q8, q10, q11, w9])))))
          refine (Known_ok f look (by omega)).at_ h9 [3] _ rfl fun r B H10 hr h10 => ?_
          obtain ⟨rfl, rfl⟩ := hr
          simp only [front_eq, fronts_nil, fronts_cons, List.getElem?_cons_zero, List.getElem?_cons_succ, List.eraseIdx_cons_zero, List.eraseIdx_cons_succ, List.cons_append, List.nil_append, putL_cons, putL_nil, List.set_cons_zero, List.set_cons_succ, Nat.reduceAdd] at h10
          have w10 := h10.li 4 rfl
          ((try simp only [S, TY, reduceCtorEq, nq0, nq1, nq2, nq3, nq4, iq0, iq1, iq2, iq3, iq4, iq5, iq6, iq7, iq8, q0, q1', q2, q8, q10, q11, w9, w10]); (try (simp (disch := omega) only [W2, Int.cast_ofNat_Int]; (try simp only [S, TY, reduceCtorEq, nq0, nq1, nq2, nq3, nq4, iq0, iq1, iq2, iq3, iq4, iq5, iq6, iq7, iq8, q0, q1', q2, q8, q10, q11, w9, w10]))); repeat ((first | (refine cl_drawi 21 D13_21 (List.range 19) (by decide) (by kernel_rfl) ?_; unfold D13_21)); simp only [S, TY, reduceCtorEq, nq0, nq1, nq2, nq3, nq4, iq0, iq1, iq2, iq3, iq4, iq5, iq6, iq7, iq8, q0, q1', q2, q8, q10, q11, w9, w10]; (try (simp (disch := omega) only [W2, Int.cast_ofNat_Int]; (try simp only [S, TY, reduceCtorEq, nq0, nq1, nq2, nq3, nq4, iq0, iq1, iq2, iq3, iq4, iq5, iq6, iq7, iq8, q0, q1', q2, q8, q10, q11, w9, w10])))))
          refine (dKnown_ok f look (by omega)).at_ h10 [3] _ rfl fun r B H11 hr h11 => ?_
          obtain ⟨rfl, rfl⟩ := hr
          simp only [front_eq, fronts_nil, fronts_cons, List.getElem?_cons_zero, List.getElem?_cons_succ, List.eraseIdx_cons_zero, List.eraseIdx_cons_succ, List.cons_append, List.nil_append, putL_cons, putL_nil, List.set_cons_zero, List.set_cons_succ, Nat.reduceAdd] at h11
          obtain ⟨kb, hkb⟩ : ∃ b, known l2 f look = b := ⟨_, rfl⟩
          rw [hkb]
          ((try simp only [S, TY, reduceCtorEq, nq0, nq1, nq2, nq3, nq4, iq0, iq1, iq2, iq3, iq4, iq5, iq6, iq7, iq8, q0, q1', q2, q8, q10, q11, w9, w10]); (try (simp (disch := omega) only [W2, Int.cast_ofNat_Int]; (try simp only [S, TY, reduceCtorEq, nq0, nq1, nq2, nq3, nq4, iq0, iq1, iq2, iq3, iq4, iq5, iq6, iq7, iq8, q0, q1', q2, q8, q10, q11, w9, w10]))); repeat ((first | (refine cl_drawi 21 D13_21 (List.range 19) (by decide) (by kernel_rfl) ?_; unfold D13_21)); simp only [S, TY, reduceCtorEq, nq0, nq1, nq2, nq3, nq4, iq0, iq1, iq2, iq3, iq4, iq5, iq6, iq7, iq8, q0, q1', q2, q8, q10, q11, w9, w10]; (try (simp (disch := omega) only [W2, Int.cast_ofNat_Int]; (try simp only [S, TY, reduceCtorEq, nq0, nq1, nq2, nq3, nq4, iq0, iq1, iq2, iq3, iq4, iq5, iq6, iq7, iq8, q0, q1', q2, q8, q10, q11, w9, w10])))))
          exact .go (i + 1) (by omega) ⟨by omega, q0, q1', q2, q8, q10, rfl, l2, h16', ⟨h11.1, seps_take (B := [_, _]) (h11.fronts [1, 0]).2⟩⟩
      · ((try simp only [S, TY, reduceCtorEq, nq0, nq1, nq2, nq3, nq4, iq0, iq1, iq2, iq3, iq4, iq5, iq6, iq7, iq8, q0, q1', q2, q8, q10, q11, g3]); (try (simp (disch := omega) only [W2, Int.cast_ofNat_Int]; (try simp only [S, TY, reduceCtorEq, nq0, nq1, nq2, nq3, nq4, iq0, iq1, iq2, iq3, iq4, iq5, iq6, iq7, iq8, q0, q1', q2, q8, q10, q11, g3]))); repeat ((first | (refine cl_drawi 21 D13_21 (List.range 19) (by decide) (by kernel_rfl) ?_; unfold D13_21)); simp only [S, TY, reduceCtorEq, nq0, nq1, nq2, nq3, nq4, iq0, iq1, iq2, iq3, iq4, iq5, iq6, iq7, iq8, q0, q1', q2, q8, q10, q11, g3]; (try (simp (disch := omega) only [W2, Int.cast_ofNat_Int]; (try simp only [S, TY, reduceCtorEq, nq0, nq1, nq2, nq3, nq4, iq0, iq1, iq2, iq3, iq4, iq5, iq6, iq7, iq8, q0, q1', q2, q8, q10, q11, g3])))))
        refine alive.at_ h [] _ rfl fun r B H2 hr h2 => ?_
        obtain ⟨rfl, rfl⟩ := hr
        ((try simp only [S, TY, reduceCtorEq, nq0, nq1, nq2, nq3, nq4, iq0, iq1, iq2, iq3, iq4, iq5, iq6, iq7, iq8]); (try (simp (disch := omega) only [W2, Int.cast_ofNat_Int]; (try simp only [S, TY, reduceCtorEq, nq0, nq1, nq2, nq3, nq4, iq0, iq1, iq2, iq3, iq4, iq5, iq6, iq7, iq8]))); repeat ((first | (refine cl_drawi 21 D13_21 (List.range 19) (by decide) (by kernel_rfl) ?_; unfold D13_21)); simp only [S, TY, reduceCtorEq, nq0, nq1, nq2, nq3, nq4, iq0, iq1, iq2, iq3, iq4, iq5, iq6, iq7, iq8]; (try (simp (disch := omega) only [W2, Int.cast_ofNat_Int]; (try simp only [S, TY, reduceCtorEq, nq0, nq1, nq2, nq3, nq4, iq0, iq1, iq2, iq3, iq4, iq5, iq6, iq7, iq8])))))
        refine (Note_nil ⟨6, 0, 0, 0, 0⟩ 0).at_ h2 [] _ rfl fun r B H3 hr h3 => ?_
        obtain ⟨rfl, rfl⟩ := hr
        ((try simp only [S, TY, reduceCtorEq, nq0, nq1, nq2, nq3, nq4, iq0, iq1, iq2, iq3, iq4, iq5, iq6, iq7, iq8]); (try (simp (disch := omega) only [W2, Int.cast_ofNat_Int]; (try simp only [S, TY, reduceCtorEq, nq0, nq1, nq2, nq3, nq4, iq0, iq1, iq2, iq3, iq4, iq5, iq6, iq7, iq8]))); repeat ((first | (refine cl_drawi 21 D13_21 (List.range 19) (by decide) (by kernel_rfl) ?_; unfold D13_21)); simp only [S, TY, reduceCtorEq, nq0, nq1, nq2, nq3, nq4, iq0, iq1, iq2, iq3, iq4, iq5, iq6, iq7, iq8]; (try (simp (disch := omega) only [W2, Int.cast_ofNat_Int]; (try simp only [S, TY, reduceCtorEq, nq0, nq1, nq2, nq3, nq4, iq0, iq1, iq2, iq3, iq4, iq5, iq6, iq7, iq8])))))
        refine (Import_nil 0 _).at_ h3 [] _ rfl fun r B H4 hr h4 => ?_
        obtain ⟨rfl, rfl⟩ := hr
        ((try simp only [S, TY, reduceCtorEq, nq0, nq1, nq2, nq3, nq4, iq0, iq1, iq2, iq3, iq4, iq5, iq6, iq7, iq8]); (try (simp (disch := omega) only [W2, Int.cast_ofNat_Int]; (try simp only [S, TY, reduceCtorEq, nq0, nq1, nq2, nq3, nq4, iq0, iq1, iq2, iq3, iq4, iq5, iq6, iq7, iq8]))); repeat ((first | (refine cl_drawi 21 D13_21 (List.range 19) (by decide) (by kernel_rfl) ?_; unfold D13_21)); simp only [S, TY, reduceCtorEq, nq0, nq1, nq2, nq3, nq4, iq0, iq1, iq2, iq3, iq4, iq5, iq6, iq7, iq8]; (try (simp (disch := omega) only [W2, Int.cast_ofNat_Int]; (try simp only [S, TY, reduceCtorEq, nq0, nq1, nq2, nq3, nq4, iq0, iq1, iq2, iq3, iq4, iq5, iq6, iq7, iq8])))))
        refine (Records_nil 0).at_ h4 [] _ rfl fun r B H5 hr h5 => ?_
        obtain ⟨rfl, rfl⟩ := hr
        ((try simp only [S, TY, reduceCtorEq, nq0, nq1, nq2, nq3, nq4, iq0, iq1, iq2, iq3, iq4, iq5, iq6, iq7, iq8]); (try (simp (disch := omega) only [W2, Int.cast_ofNat_Int]; (try simp only [S, TY, reduceCtorEq, nq0, nq1, nq2, nq3, nq4, iq0, iq1, iq2, iq3, iq4, iq5, iq6, iq7, iq8]))); repeat ((first | (refine cl_drawi 21 D13_21 (List.range 19) (by decide) (by kernel_rfl) ?_; unfold D13_21)); simp only [S, TY, reduceCtorEq, nq0, nq1, nq2, nq3, nq4, iq0, iq1, iq2, iq3, iq4, iq5, iq6, iq7, iq8]; (try (simp (disch := omega) only [W2, Int.cast_ofNat_Int]; (try simp only [S, TY, reduceCtorEq, nq0, nq1, nq2, nq3, nq4, iq0, iq1, iq2, iq3, iq4, iq5, iq6, iq7, iq8])))))
        refine (Known_nil ⟨0, 0, 0, 0, 0⟩ 0).at_ h5 [] _ rfl fun r B H6 hr h6 => ?_
        obtain ⟨rfl, rfl⟩ := hr
        ((try simp only [S, TY, reduceCtorEq, nq0, nq1, nq2, nq3, nq4, iq0, iq1, iq2, iq3, iq4, iq5, iq6, iq7, iq8]); (try (simp (disch := omega) only [W2, Int.cast_ofNat_Int]; (try simp only [S, TY, reduceCtorEq, nq0, nq1, nq2, nq3, nq4, iq0, iq1, iq2, iq3, iq4, iq5, iq6, iq7, iq8]))); repeat ((first | (refine cl_drawi 21 D13_21 (List.range 19) (by decide) (by kernel_rfl) ?_; unfold D13_21)); simp only [S, TY, reduceCtorEq, nq0, nq1, nq2, nq3, nq4, iq0, iq1, iq2, iq3, iq4, iq5, iq6, iq7, iq8]; (try (simp (disch := omega) only [W2, Int.cast_ofNat_Int]; (try simp only [S, TY, reduceCtorEq, nq0, nq1, nq2, nq3, nq4, iq0, iq1, iq2, iq3, iq4, iq5, iq6, iq7, iq8])))))
        exact fin_take (B := []) h6 ⟨rfl, rfl⟩
    · refine (New_no life gl).at_ h1 [] _ rfl fun r B H2 hr h2 => ?_
      obtain ⟨rfl, rfl⟩ := hr
      by_cases g1 : life < 1
      · ((try simp only [S, TY, reduceCtorEq, nq0, nq1, nq2, nq3, nq4, iq0, iq1, iq2, iq3, iq4, iq5, iq6, iq7, iq8, g1]); (try (simp (disch := omega) only [W2, Int.cast_ofNat_Int]; (try simp only [S, TY, reduceCtorEq, nq0, nq1, nq2, nq3, nq4, iq0, iq1, iq2, iq3, iq4, iq5, iq6, iq7, iq8, g1]))); repeat ((first | (refine cl_drawi 21 D13_21 (List.range 19) (by decide) (by kernel_rfl) ?_; unfold D13_21)); simp only [S, TY, reduceCtorEq, nq0, nq1, nq2, nq3, nq4, iq0, iq1, iq2, iq3, iq4, iq5, iq6, iq7, iq8, g1]; (try (simp (disch := omega) only [W2, Int.cast_ofNat_Int]; (try simp only [S, TY, reduceCtorEq, nq0, nq1, nq2, nq3, nq4, iq0, iq1, iq2, iq3, iq4, iq5, iq6, iq7, iq8, g1])))))
        refine alive.at_ h2 [] _ rfl fun r B H3 hr h3 => ?_
        obtain ⟨rfl, rfl⟩ := hr
        ((try simp only [S, TY, reduceCtorEq, nq0, nq1, nq2, nq3, nq4, iq0, iq1, iq2, iq3, iq4, iq5, iq6, iq7, iq8]); (try (simp (disch := omega) only [W2, Int.cast_ofNat_Int]; (try simp only [S, TY, reduceCtorEq, nq0, nq1, nq2, nq3, nq4, iq0, iq1, iq2, iq3, iq4, iq5, iq6, iq7, iq8]))); repeat ((first | (refine cl_drawi 21 D13_21 (List.range 19) (by decide) (by kernel_rfl) ?_; unfold D13_21)); simp only [S, TY, reduceCtorEq, nq0, nq1, nq2, nq3, nq4, iq0, iq1, iq2, iq3, iq4, iq5, iq6, iq7, iq8]; (try (simp (disch := omega) only [W2, Int.cast_ofNat_Int]; (try simp only [S, TY, reduceCtorEq, nq0, nq1, nq2, nq3, nq4, iq0, iq1, iq2, iq3, iq4, iq5, iq6, iq7, iq8])))))
        exact fin_take (B := []) h3 ⟨rfl, rfl⟩
      · have g2 : (2147483648 : Int) < life := by omega
        ((try simp only [S, TY, reduceCtorEq, nq0, nq1, nq2, nq3, nq4, iq0, iq1, iq2, iq3, iq4, iq5, iq6, iq7, iq8, g1, g2]); (try (simp (disch := omega) only [W2, Int.cast_ofNat_Int]; (try simp only [S, TY, reduceCtorEq, nq0, nq1, nq2, nq3, nq4, iq0, iq1, iq2, iq3, iq4, iq5, iq6, iq7, iq8, g1, g2]))); repeat ((first | (refine cl_drawi 21 D13_21 (List.range 19) (by decide) (by kernel_rfl) ?_; unfold D13_21)); simp only [S, TY, reduceCtorEq, nq0, nq1, nq2, nq3, nq4, iq0, iq1, iq2, iq3, iq4, iq5, iq6, iq7, iq8, g1, g2]; (try (simp (disch := omega) only [W2, Int.cast_ofNat_Int]; (try simp only [S, TY, reduceCtorEq, nq0, nq1, nq2, nq3, nq4, iq0, iq1, iq2, iq3, iq4, iq5, iq6, iq7, iq8, g1, g2])))))
        refine alive.at_ h2 [] _ rfl fun r B H3 hr h3 => ?_
        obtain ⟨rfl, rfl⟩ := hr
        ((try simp only [S, TY, reduceCtorEq, nq0, nq1, nq2, nq3, nq4, iq0, iq1, iq2, iq3, iq4, iq5, iq6, iq7, iq8]); (try (simp (disch := omega) only [W2, Int.cast_ofNat_Int]; (try simp only [S, TY, reduceCtorEq, nq0, nq1, nq2, nq3, nq4, iq0, iq1, iq2, iq3, iq4, iq5, iq6, iq7, iq8]))); repeat ((first | (refine cl_drawi 21 D13_21 (List.range 19) (by decide) (by kernel_rfl) ?_; unfold D13_21)); simp only [S, TY, reduceCtorEq, nq0, nq1, nq2, nq3, nq4, iq0, iq1, iq2, iq3, iq4, iq5, iq6, iq7, iq8]; (try (simp (disch := omega) only [W2, Int.cast_ofNat_Int]; (try simp only [S, TY, reduceCtorEq, nq0, nq1, nq2, nq3, nq4, iq0, iq1, iq2, iq3, iq4, iq5, iq6, iq7, iq8])))))
        exact fin_take (B := []) h3 ⟨rfl, rfl⟩
theorem playsV {G : Hp} {v0 v1 v2 : Value} {y0 : (Ty.int .i64).den} {y1 : (Ty.sl AT).den} {y2 : (Ty.int .i64).den} (h0 : Ty.V G (.int .i64) v0 y0) (h1 : Ty.V G (.sl AT) v1 y1) (h2 : Ty.V G (.int .i64) v2 y2) :
    Con Try.prog G 13 [v0, v1, v2] [] (fun r B => r = .bool true ∧ B = []) := by
  rcases h0 with ⟨h, _⟩ | ⟨_, h0, _⟩
  · cases h
  rcases h1 with ⟨h, _⟩ | ⟨_, w, h1, hv⟩
  · cases h
  rcases h2 with ⟨h, _⟩ | ⟨_, h2, _⟩
  · cases h
  cases h0; cases h1; cases h2
  exact playsLaw _ _ hv
end Go.Proofs.Ytanhmbdcdbcfmaa.TkX
