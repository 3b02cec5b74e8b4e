/- Flows that are tracked: the document's table. -/
import Derived.Test.YtanhmbdcdbcfmaaTkQ
set_option linter.unusedVariables false
set_option linter.unusedSimpArgs false
set_option maxRecDepth 10000
set_option maxHeartbeats 2000000
namespace Go.Proofs.Ytanhmbdcdbcfmaa.TkD
open Nat renaming reduceEqDiff → nq0, reduceAdd → nq1, reduceLeDiff → nq2, reduceBEq → nq3, reduceMul → nq4
open Int renaming reduceBEq → iq0, reduceEq → iq1, reduceLT → iq2, reduceLE → iq3, reduceAdd → iq4, reduceSub → iq5, reduceMul → iq6, reduceToNat → iq7, cast_ofNat_Int → iq8
open Go Go.Sl Go.Proofs Go.Proofs.Ytanhmbdcdbcfmaa.SoI Go.Proofs.Ytanhmbdcdbcfmaa.Tk Go.Proofs.Ytanhmbdcdbcfmaa.TkO Go.Proofs.Ytanhmbdcdbcfmaa.TkP Go.Proofs.Ytanhmbdcdbcfmaa.TkQ
theorem TY : aggN Try.prog 3 = some none ∧
  aggN Try.prog 170 = some none ∧
  aggN Try.prog 172 = some (some 2) ∧
  aggN Try.prog 173 = some none ∧
  aggN Try.prog 175 = some (some 5) ∧
  aggN Try.prog 187 = some (some 6) ∧
  apI Try.prog 170 = some (187, 6, 40) ∧
  bIs Try.prog 172 = true ∧
  bIs Try.prog 175 = true ∧
  bIs Try.prog 187 = true ∧
  csz Try.prog 3 = some 1 ∧
  csz Try.prog 170 = some 1 ∧
  csz Try.prog 172 = some 2 ∧
  csz Try.prog 173 = some 1 ∧
  csz Try.prog 175 = some 5 ∧
  csz Try.prog 187 = some 6 ∧
  eqF Try.prog 175 = some [.i, .i, .i, .i, .i] ∧
  eqF Try.prog 187 = some [.i, .i, .i, .i, .i, .i] ∧
  fIs Try.prog 172 1 = true ∧
  fIs Try.prog 175 0 = true ∧
  fIs Try.prog 175 1 = true ∧
  fIs Try.prog 175 2 = true ∧
  fIs Try.prog 175 3 = true ∧
  fIs Try.prog 175 4 = true ∧
  fIs Try.prog 187 0 = true ∧
  fIs Try.prog 187 1 = true ∧
  fOff Try.prog 172 1 = 1 ∧
  fOff Try.prog 175 0 = 0 ∧
  fOff Try.prog 175 1 = 1 ∧
  fOff Try.prog 175 2 = 2 ∧
  fOff Try.prog 175 3 = 3 ∧
  fOff Try.prog 175 4 = 4 ∧
  fOff Try.prog 187 0 = 0 ∧
  fOff Try.prog 187 1 = 5 ∧
  fTy Try.prog 172 1 = 170 ∧
  fTy Try.prog 175 0 = 3 ∧
  fTy Try.prog 175 1 = 173 ∧
  fTy Try.prog 175 2 = 173 ∧
  fTy Try.prog 175 3 = 3 ∧
  fTy Try.prog 175 4 = 3 ∧
  fTy Try.prog 187 0 = 175 ∧
  fTy Try.prog 187 1 = 3 ∧
  goes Try.prog 95 = true ∧
  goes Try.prog 119 = true ∧
  goes Try.prog 168 = true ∧
  inIs Try.prog 3 = some .i64 ∧
  inIs Try.prog 173 = some .u32 ∧
  plcs Try.prog 172 = [(0, 1), (1, 1)] ∧
  plcs Try.prog 175 = [(0, 1), (1, 1), (2, 1), (3, 1), (4, 1)] ∧
  plcs Try.prog 187 = [(0, 5), (5, 1)] ∧
  slEl Try.prog 170 = 187 ∧
  slIs Try.prog 170 = true ∧
  slSz Try.prog 170 = 6 ∧
  zcs Try.prog 172 = [.int .i64 0, .slice none 0 0] ∧
  zcs Try.prog 175 = [.int .i64 0, .int .u32 0, .int .u32 0, .int .i64 0, .int .i64 0] ∧
  zcs Try.prog 187 = [.int .i64 0, .int .u32 0, .int .u32 0, .int .i64 0, .int .i64 0, .int .i64 0] ∧
  zro Try.prog 3 = some (.int .i64 0) ∧
  zro Try.prog 170 = some (.slice none 0 0) ∧
  zro Try.prog 172 = some (.agg #[.int .i64 0, .slice none 0 0]) ∧
  zro Try.prog 173 = some (.int .u32 0) ∧
  zro Try.prog 175 = some (.agg #[.int .i64 0, .int .u32 0, .int .u32 0, .int .i64 0, .int .i64 0]) ∧
  zro Try.prog 187 = some (.agg #[.int .i64 0, .int .u32 0, .int .u32 0, .int .i64 0, .int .i64 0, .int .i64 0]) :=
  ⟨by kernel_rfl, by kernel_rfl, by kernel_rfl, by kernel_rfl, by kernel_rfl, by kernel_rfl, by kernel_rfl, by kernel_rfl, by kernel_rfl, by kernel_rfl, by kernel_rfl, by kernel_rfl, by kernel_rfl, by kernel_rfl, by kernel_rfl, by kernel_rfl, by kernel_rfl, by kernel_rfl, by kernel_rfl, by kernel_rfl, by kernel_rfl, by kernel_rfl, by kernel_rfl, by kernel_rfl, by kernel_rfl, by kernel_rfl, by kernel_rfl, by kernel_rfl, by kernel_rfl, by kernel_rfl, by kernel_rfl, by kernel_rfl, by kernel_rfl, by kernel_rfl, by kernel_rfl, by kernel_rfl, by kernel_rfl, by kernel_rfl, by kernel_rfl, by kernel_rfl, by kernel_rfl, by kernel_rfl, by kernel_rfl, by kernel_rfl, by kernel_rfl, by kernel_rfl, by kernel_rfl, by kernel_rfl, by kernel_rfl, by kernel_rfl, by kernel_rfl, by kernel_rfl, by kernel_rfl, by kernel_rfl, by kernel_rfl, by kernel_rfl, by kernel_rfl, by kernel_rfl, by kernel_rfl, by kernel_rfl, by kernel_rfl, by kernel_rfl⟩
def D163_5 : List Note := Go.Sl.nn [0, 0, 0, 0, 1, 0, 1, 3, 0]
def D163_7 : List Note := Go.Sl.nn [0, 0, 0, 0, 0, 0, 1, 0, 1, 0, 0, 0, 3]
def D168_1 : List Note := Go.Sl.nn [1, 1, 0, 0, 1, 1] ++ ([(3, [4])] ++ (Go.Sl.nn [0, 0, 0]))
theorem diRight_ok {G : Hp} (x : Fw) : Con Try.prog G 161 [x.v] [] (fun r B => r = .bool (Fw.ok x) ∧ B = []) := by
  obtain ⟨p, s, d, a, b⟩ := x
  refine Con.intro Try.func161 rfl (Nat.le_of_ble_eq_true (by kernel_rfl)) (by kernel_rfl) Try.results161 ?_
  intro H h
  ((try simp only [S, TY, reduceCtorEq, nq0, nq1, nq2, nq3, nq4, iq0, iq1, iq2, iq3, iq4, iq5, iq6, iq7, iq8]); (try (simp (disch := omega) only [W2, Int.cast_ofNat_Int]; (try simp only [S, TY, reduceCtorEq, nq0, nq1, nq2, nq3, nq4, iq0, iq1, iq2, iq3, iq4, iq5, iq6, iq7, iq8]))))
  repeat' (((first
      | ((with_reducible show fin _ _ _); first | ((refine fin_take (B := []) h ⟨?_, rfl⟩; unfold Fw.ok fok; (refine bb ?_; (try simp only [BB]) <;> (first | omega | grind)))))
      | ((with_reducible show New _ _ _); first | (refine New_sl h 6 rfl (fun b H' h' => ?_); skip) | (refine New_qsl h 6 rfl (fun b => rfl) (fun b H' h' => ?_); skip) | (refine New_ob h (fun b H' h' => ?_); skip) | (refine New_qob h (fun b H' h' => ?_); skip))
      | ((with_reducible show St _ _); first | (refine sg.st (h.front 0) rfl rfl (fun H' h' => ?_); skip) | (refine sg.st (h.front 1) rfl rfl (fun H' h' => ?_); skip) | (refine sg.st (h.front 2) rfl rfl (fun H' h' => ?_); skip) | (refine sg.st (h.front 3) rfl rfl (fun H' h' => ?_); skip) | (refine sg.st (h.front 4) rfl rfl (fun H' h' => ?_); skip) | (refine sg.st (h.front 5) rfl rfl (fun H' h' => ?_); skip))
      | ((with_reducible show Gate _ _ _); refine Gate.intro (fun g => ?_) (fun g => ?_) <;> (try subst g))
      ) <;> ((try ((try simp only [row, Rc.l, Fw.l, front_eq] at h'); (try simp only [front_eq, fronts_nil, fronts_cons, List.getElem?_cons_zero, List.getElem?_cons_succ, List.eraseIdx_cons_zero, List.eraseIdx_cons_succ, List.cons_append, List.nil_append, putL_cons, putL_nil, List.set_cons_zero, List.set_cons_succ, Nat.reduceAdd] at h'); clear h; have h := h'; clear h'; (try have fc := h.ci 0 rfl); (try have fl := h.li 0 rfl); (try have fc := h.ci 1 rfl); (try have fl := h.li 1 rfl); (try have fc := h.ci 2 rfl); (try have fl := h.li 2 rfl); (try have fc := h.ci 3 rfl); (try have fl := h.li 3 rfl); (try have fc := h.ci 4 rfl); (try have fl := h.li 4 rfl); (try have fc := h.ci 5 rfl); (try have fl := h.li 5 rfl))); ((try simp only [S, TY, reduceCtorEq, nq0, nq1, nq2, nq3, nq4, iq0, iq1, iq2, iq3, iq4, iq5, iq6, iq7, iq8, *]); (try (simp (disch := omega) only [W2, Int.cast_ofNat_Int]; (try simp only [S, TY, reduceCtorEq, nq0, nq1, nq2, nq3, nq4, iq0, iq1, iq2, iq3, iq4, iq5, iq6, iq7, iq8, *])))))))
theorem In_ok {G : Hp} (x lo hi : Int) : Con Try.prog G 119 [.int .i64 x, .int .i64 lo, .int .i64 hi] [] (fun r B => r = .bool (decide (lo ≤ x ∧ x ≤ hi)) ∧ B = []) := by
  refine Con.intro Try.func119 rfl (Nat.le_of_ble_eq_true (by kernel_rfl)) (by kernel_rfl) Try.results119 ?_
  intro H h
  ((try simp only [S, TY, reduceCtorEq, nq0, nq1, nq2, nq3, nq4, iq0, iq1, iq2, iq3, iq4, iq5, iq6, iq7, iq8]); (try (simp (disch := omega) only [W2, Int.cast_ofNat_Int]; (try simp only [S, TY, reduceCtorEq, nq0, nq1, nq2, nq3, nq4, iq0, iq1, iq2, iq3, iq4, iq5, iq6, iq7, iq8]))))
  repeat' (((first
      | ((with_reducible show fin _ _ _); first | ((refine fin_take (B := []) h ⟨?_, rfl⟩; (refine bb ?_; (try simp only [BB]) <;> (first | omega | grind)))))
      | ((with_reducible show New _ _ _); first | (refine New_sl h 6 rfl (fun b H' h' => ?_); skip) | (refine New_qsl h 6 rfl (fun b => rfl) (fun b H' h' => ?_); skip) | (refine New_ob h (fun b H' h' => ?_); skip) | (refine New_qob h (fun b H' h' => ?_); skip))
      | ((with_reducible show St _ _); first | (refine sg.st (h.front 0) rfl rfl (fun H' h' => ?_); skip) | (refine sg.st (h.front 1) rfl rfl (fun H' h' => ?_); skip) | (refine sg.st (h.front 2) rfl rfl (fun H' h' => ?_); skip) | (refine sg.st (h.front 3) rfl rfl (fun H' h' => ?_); skip) | (refine sg.st (h.front 4) rfl rfl (fun H' h' => ?_); skip) | (refine sg.st (h.front 5) rfl rfl (fun H' h' => ?_); skip))
      | ((with_reducible show Gate _ _ _); refine Gate.intro (fun g => ?_) (fun g => ?_) <;> (try subst g))
      ) <;> ((try ((try simp only [row, Rc.l, Fw.l, front_eq] at h'); (try simp only [front_eq, fronts_nil, fronts_cons, List.getElem?_cons_zero, List.getElem?_cons_succ, List.eraseIdx_cons_zero, List.eraseIdx_cons_succ, List.cons_append, List.nil_append, putL_cons, putL_nil, List.set_cons_zero, List.set_cons_succ, Nat.reduceAdd] at h'); clear h; have h := h'; clear h'; (try have fc := h.ci 0 rfl); (try have fl := h.li 0 rfl); (try have fc := h.ci 1 rfl); (try have fl := h.li 1 rfl); (try have fc := h.ci 2 rfl); (try have fl := h.li 2 rfl); (try have fc := h.ci 3 rfl); (try have fl := h.li 3 rfl); (try have fc := h.ci 4 rfl); (try have fl := h.li 4 rfl); (try have fc := h.ci 5 rfl); (try have fl := h.li 5 rfl))); ((try simp only [S, TY, reduceCtorEq, nq0, nq1, nq2, nq3, nq4, iq0, iq1, iq2, iq3, iq4, iq5, iq6, iq7, iq8, *]); (try (simp (disch := omega) only [W2, Int.cast_ofNat_Int]; (try simp only [S, TY, reduceCtorEq, nq0, nq1, nq2, nq3, nq4, iq0, iq1, iq2, iq3, iq4, iq5, iq6, iq7, iq8, *])))))))
theorem dtime_ok {G : Hp} (now : Int) : Con Try.prog G 162 [.int .i64 now] [] (fun r B => r = .bool (tok now) ∧ B = []) := by
  refine Con.intro Try.func162 rfl (Nat.le_of_ble_eq_true (by kernel_rfl)) (by kernel_rfl) Try.results162 ?_
  intro H h
  ((try simp only [S, TY, reduceCtorEq, nq0, nq1, nq2, nq3, nq4, iq0, iq1, iq2, iq3, iq4, iq5, iq6, iq7, iq8]); (try (simp (disch := omega) only [W2, Int.cast_ofNat_Int]; (try simp only [S, TY, reduceCtorEq, nq0, nq1, nq2, nq3, nq4, iq0, iq1, iq2, iq3, iq4, iq5, iq6, iq7, iq8]))))
  refine (In_ok now 0 1099511627776).at_ h [] _ rfl fun r B H2 hr h2 => ?_
  obtain ⟨rfl, rfl⟩ := hr
  ((try simp only [S, TY, reduceCtorEq, nq0, nq1, nq2, nq3, nq4, iq0, iq1, iq2, iq3, iq4, iq5, iq6, iq7, iq8]); (try (simp (disch := omega) only [W2, Int.cast_ofNat_Int]; (try simp only [S, TY, reduceCtorEq, nq0, nq1, nq2, nq3, nq4, iq0, iq1, iq2, iq3, iq4, iq5, iq6, iq7, iq8]))))
  exact fin_take (B := []) h2 ⟨rfl, rfl⟩
theorem dBack_ok {G : Hp} (x : Fw) : Con Try.prog G 95 [x.v] [] (fun r B => r = x.back.v ∧ B = []) := by
  obtain ⟨p, s, d, a, b⟩ := x
  refine Con.intro Try.func95 rfl (Nat.le_of_ble_eq_true (by kernel_rfl)) (by kernel_rfl) Try.results95 ?_
  intro H hH
  ((try simp only [S, TY, reduceCtorEq, nq0, nq1, nq2, nq3, nq4, iq0, iq1, iq2, iq3, iq4, iq5, iq6, iq7, iq8]); (try (simp (disch := omega) only [W2, Int.cast_ofNat_Int]; (try simp only [S, TY, reduceCtorEq, nq0, nq1, nq2, nq3, nq4, iq0, iq1, iq2, iq3, iq4, iq5, iq6, iq7, iq8]))))
  intro k hk hg
  have h1 := hH.new hk hg (.cells (Fw.l ⟨p, s, d, a, b⟩).toArray 175 (0, 0))
  ((try simp only [S, TY, reduceCtorEq, nq0, nq1, nq2, nq3, nq4, iq0, iq1, iq2, iq3, iq4, iq5, iq6, iq7, iq8]); (try (simp (disch := omega) only [W2, Int.cast_ofNat_Int]; (try simp only [S, TY, reduceCtorEq, nq0, nq1, nq2, nq3, nq4, iq0, iq1, iq2, iq3, iq4, iq5, iq6, iq7, iq8]))))
  intro k2 hk2 hg2
  have h2 := h1.new hk2 hg2 (.cells (Fw.l ⟨0, 0, 0, 0, 0⟩).toArray 175 (0, 0))
  have c2 := (h2.front 1).c0
  ((try simp only [S, TY, reduceCtorEq, nq0, nq1, nq2, nq3, nq4, iq0, iq1, iq2, iq3, iq4, iq5, iq6, iq7, iq8, c2]); (try (simp (disch := omega) only [W2, Int.cast_ofNat_Int]; (try simp only [S, TY, reduceCtorEq, nq0, nq1, nq2, nq3, nq4, iq0, iq1, iq2, iq3, iq4, iq5, iq6, iq7, iq8, c2]))))
  refine sg.st h2 rfl rfl fun H7 h7 => ?_
  simp only [front_eq, fronts_nil, fronts_cons, List.getElem?_cons_zero, List.getElem?_cons_succ, List.eraseIdx_cons_zero, List.eraseIdx_cons_succ, List.cons_append, List.nil_append, putL_cons, putL_nil, List.set_cons_zero, List.set_cons_succ, Nat.reduceAdd] at h7
  have w7 := h7.li 0 rfl
  ((try simp only [S, TY, reduceCtorEq, nq0, nq1, nq2, nq3, nq4, iq0, iq1, iq2, iq3, iq4, iq5, iq6, iq7, iq8, w7]); (try (simp (disch := omega) only [W2, Int.cast_ofNat_Int]; (try simp only [S, TY, reduceCtorEq, nq0, nq1, nq2, nq3, nq4, iq0, iq1, iq2, iq3, iq4, iq5, iq6, iq7, iq8, w7]))))
  exact fin_take (B := []) h7 ⟨rfl, rfl⟩
theorem dAlike_ok {G : Hp} (x y : Fw) : Con Try.prog G 168 [x.v, y.v] [] (fun r B => r = .bool (alike x y) ∧ B = []) := by
  have hR : alike x y = decide ((x.p = y.p ∧ x.s = y.s ∧ x.d = y.d ∧ x.a = y.a ∧ x.b = y.b) ∨ (x.p = y.p ∧ x.s = y.d ∧ x.d = y.s ∧ x.a = y.b ∧ x.b = y.a)) := by
    unfold alike Fw.back
    obtain ⟨p, s, d, a, b⟩ := x
    obtain ⟨p', s', d', a', b'⟩ := y
    simp only [Fw.mk.injEq]
  rw [hR]
  clear hR
  obtain ⟨p, s, d, a, b⟩ := x
  obtain ⟨p', s', d', a', b'⟩ := y
  simp only
  refine Con.intro Try.func168 rfl (Nat.le_of_ble_eq_true (by kernel_rfl)) (by kernel_rfl) Try.results168 ?_
  intro H h
  ((try simp only [S, TY, reduceCtorEq, nq0, nq1, nq2, nq3, nq4, iq0, iq1, iq2, iq3, iq4, iq5, iq6, iq7, iq8]); (try (simp (disch := omega) only [W2, Int.cast_ofNat_Int]; (try simp only [S, TY, reduceCtorEq, nq0, nq1, nq2, nq3, nq4, iq0, iq1, iq2, iq3, iq4, iq5, iq6, iq7, iq8]))); repeat ((first | (refine cl_drawi 1 D168_1 (List.range 10) (by decide) (by kernel_rfl) ?_; unfold D168_1)); simp only [S, TY, reduceCtorEq, nq0, nq1, nq2, nq3, nq4, iq0, iq1, iq2, iq3, iq4, iq5, iq6, iq7, iq8]; (try (simp (disch := omega) only [W2, Int.cast_ofNat_Int]; (try simp only [S, TY, reduceCtorEq, nq0, nq1, nq2, nq3, nq4, iq0, iq1, iq2, iq3, iq4, iq5, iq6, iq7, iq8])))))
  repeat' (((first
      | ((with_reducible show CallsH _ _ 95 _ _ _); first | (refine (dBack_ok ⟨_, _, _, _, _⟩).at_ h [] _ rfl (fun r B H' hr h' => ?_); obtain ⟨rfl, rfl⟩ := hr; skip))
      | ((with_reducible show fin _ _ _); first | ((refine fin_take (B := []) h ⟨?_, rfl⟩; (try simp only [Fw.back]); (refine bb ?_; (try simp only [BB]) <;> (first | omega | grind)))))
      | ((with_reducible show New _ _ _); first | (refine New_sl h 6 rfl (fun b H' h' => ?_); skip) | (refine New_qsl h 6 rfl (fun b => rfl) (fun b H' h' => ?_); skip) | (refine New_ob h (fun b H' h' => ?_); skip) | (refine New_qob h (fun b H' h' => ?_); skip))
      | ((with_reducible show St _ _); first | (refine sg.st (h.front 0) rfl rfl (fun H' h' => ?_); skip) | (refine sg.st (h.front 1) rfl rfl (fun H' h' => ?_); skip) | (refine sg.st (h.front 2) rfl rfl (fun H' h' => ?_); skip) | (refine sg.st (h.front 3) rfl rfl (fun H' h' => ?_); skip) | (refine sg.st (h.front 4) rfl rfl (fun H' h' => ?_); skip) | (refine sg.st (h.front 5) rfl rfl (fun H' h' => ?_); skip))
      | ((with_reducible show Gate _ _ _); refine Gate.intro (fun g => ?_) (fun g => ?_) <;> (try subst g))
      ) <;> ((try ((try simp only [row, Rc.l, Fw.l, front_eq] at h'); (try simp only [front_eq, fronts_nil, fronts_cons, List.getElem?_cons_zero, List.getElem?_cons_succ, List.eraseIdx_cons_zero, List.eraseIdx_cons_succ, List.cons_append, List.nil_append, putL_cons, putL_nil, List.set_cons_zero, List.set_cons_succ, Nat.reduceAdd] at h'); clear h; have h := h'; clear h'; (try have fc := h.ci 0 rfl); (try have fl := h.li 0 rfl); (try have fc := h.ci 1 rfl); (try have fl := h.li 1 rfl); (try have fc := h.ci 2 rfl); (try have fl := h.li 2 rfl); (try have fc := h.ci 3 rfl); (try have fl := h.li 3 rfl); (try have fc := h.ci 4 rfl); (try have fl := h.li 4 rfl); (try have fc := h.ci 5 rfl); (try have fl := h.li 5 rfl))); ((try simp only [S, TY, reduceCtorEq, nq0, nq1, nq2, nq3, nq4, iq0, iq1, iq2, iq3, iq4, iq5, iq6, iq7, iq8, *]); (try (simp (disch := omega) only [W2, Int.cast_ofNat_Int]; (try simp only [S, TY, reduceCtorEq, nq0, nq1, nq2, nq3, nq4, iq0, iq1, iq2, iq3, iq4, iq5, iq6, iq7, iq8, *]))); repeat ((first | (refine cl_drawi 1 D168_1 (List.range 10) (by decide) (by kernel_rfl) ?_; unfold D168_1)); simp only [S, TY, reduceCtorEq, nq0, nq1, nq2, nq3, nq4, iq0, iq1, iq2, iq3, iq4, iq5, iq6, iq7, iq8, *]; (try (simp (disch := omega) only [W2, Int.cast_ofNat_Int]; (try simp only [S, TY, reduceCtorEq, nq0, nq1, nq2, nq3, nq4, iq0, iq1, iq2, iq3, iq4, iq5, iq6, iq7, iq8, *]))))))))
/-- The document's table. -/
def dT (p : Nat) (life : Int) (l : List Rc) : Asn := fun H => ∃ v, seps [ob p (.cells #[.int .i64 life, v] 172 (0, 0)), own 187 6 v (l.flatMap Rc.l)] H
theorem dT_open {G H : Hp} {p : Nat} {life : Int} {l : List Rc} {L : List Asn} (h : sg G (dT p life l :: L) H) : ∃ a c, l.length ≤ c ∧ sg G (ob p (.cells #[.int .i64 life, .slice a l.length c] 172 (0, 0)) :: own 187 6 (.slice a l.length c) (l.flatMap Rc.l) :: L) H := by
  obtain ⟨hd, H1, H2, rfl, hd2, ⟨v, ha⟩, h2⟩ := h
  have h3 : sg G (ob p (.cells #[.int .i64 life, v] 172 (0, 0)) :: own 187 6 v (l.flatMap Rc.l) :: L) (H1.un H2) := ⟨hd, seps_append (l := [_, _]).2 ⟨H1, H2, rfl, hd2, ha, h2⟩⟩
  obtain ⟨a, n, c, rfl, e1, e2⟩ := h3.sl 1 rfl Rd_own
  rw [flat_len Rc.len] at e1
  obtain rfl : l.length = n := by omega
  exact ⟨a, c, e2, h3⟩
theorem dT_shut {G H : Hp} {p : Nat} {life : Int} {v : Value} {l : List Rc} {L : List Asn} (h : sg G (ob p (.cells #[.int .i64 life, v] 172 (0, 0)) :: own 187 6 v (l.flatMap Rc.l) :: L) H) : sg G (dT p life l :: L) H :=
  h.shut [_, _] fun H hd ha => ⟨v, ha⟩
theorem rc1 (x : Rc) : ∀ v ∈ x.l, v.oneCell' = true := by
  intro v hv
  simp only [List.mem_cons, List.not_mem_nil, or_false] at hv
  rcases hv with rfl | rfl | rfl | rfl | rfl | rfl <;> rfl
theorem dRecords_ok {G : Hp} {p : Nat} {life now : Int} {l : List Rc} (hll : l.length ≤ 100000) : Con Try.prog G 92 [.pointer (some ⟨p, 0, none⟩), .int .i64 now] [dT p life l] (fun r B => B = [own 187 6 r ((live l now).flatMap Rc.l), dT p life l]) := by
  refine Con.intro Try.func92 rfl (Nat.le_of_ble_eq_true (by kernel_rfl)) (by kernel_rfl) Try.results92 ?_
  intro H h
  obtain ⟨a, c, hc, h0⟩ := dT_open h
  ((try simp only [S, TY, reduceCtorEq, nq0, nq1, nq2, nq3, nq4, iq0, iq1, iq2, iq3, iq4, iq5, iq6, iq7, iq8]); (try (simp (disch := omega) only [W2, Int.cast_ofNat_Int]; (try simp only [S, TY, reduceCtorEq, nq0, nq1, nq2, nq3, nq4, iq0, iq1, iq2, iq3, iq4, iq5, iq6, iq7, iq8]))))
  refine cl_loop (fun i e H => i ≤ l.length ∧ e 0 = .pointer (some ⟨p, 0, none⟩) ∧ e 1 = .int .i64 now ∧ e 6 = .int .i64 (i : Nat) ∧ ∃ o, e 5 = o ∧
      sg G [ob p (.cells #[.int .i64 life, .slice a l.length c] 172 (0, 0)), own 187 6 (.slice a l.length c) (l.flatMap Rc.l), own 187 6 o ((live (l.take i) now).flatMap Rc.l)] H) (fun i : Nat => l.length - i) 0
    ⟨by omega, rfl, rfl, rfl, .slice none 0 0, rfl, ((h0.nil_ 187 6).fronts [1, 1, 0])⟩ ?_
  clear h h0
  rintro i e H ⟨q1, q0, qn, q6, o, q5, h⟩
  obtain ⟨oa, on, oc, rfl, _, _⟩ := h.sl 2 rfl Rd_own
  have c0 := h.c0
  by_cases g1 : (i : Int) < l.length
  · have hi : i < l.length := by omega
    obtain ⟨b, off, hl', rfl, hcc, hld⟩ := (h.rdsi 1 rfl Rd_own).el Rc.len (i := i) hi (by omega)
    have g0 : (0 : Int) ≤ i ∧ (i : Int) < l.length := ⟨by omega, g1⟩
    have e5 := hcc 5 (by decide)
    simp only [List.getElem?_cons_zero, List.getElem?_cons_succ] at e5
    have hs : l.take (i + 1) = l.take i ++ [l[i]] := by rw [List.take_add_one, List.getElem?_eq_getElem hi]; rfl
    have hlv : live (l.take (i + 1)) now = live (l.take i) now ++ (if now < l[i].u then [l[i]] else []) := by
      unfold live
      rw [hs, List.filter_append]
      congr 1
      by_cases g : now < l[i].u
      · rw [if_pos g, List.filter_cons_of_pos (by simp; omega)]; rfl
      · rw [if_neg g, List.filter_cons_of_neg (by simp; omega)]; rfl
    have hlen := live_len (l.take i) now
    rw [List.length_take] at hlen
    by_cases g2 : now < l[i].u
    · rw [if_pos g2] at hlv
      ((try simp only [S, TY, reduceCtorEq, nq0, nq1, nq2, nq3, nq4, iq0, iq1, iq2, iq3, iq4, iq5, iq6, iq7, iq8, q0, qn, q5, q6, g1, g0, c0, e5, g2, hld]); (try (simp (disch := omega) only [W2, Int.cast_ofNat_Int]; (try simp only [S, TY, reduceCtorEq, nq0, nq1, nq2, nq3, nq4, iq0, iq1, iq2, iq3, iq4, iq5, iq6, iq7, iq8, q0, qn, q5, q6, g1, g0, c0, e5, g2, hld]))))
      intro q3 hq3 hg3
      have h3 := h.newsl (e := 187) (sz := 6) (n := 1) (xs := Rc.l l[i]) hq3 hg3 rfl
      ((try simp only [S, TY, reduceCtorEq, nq0, nq1, nq2, nq3, nq4, iq0, iq1, iq2, iq3, iq4, iq5, iq6, iq7, iq8, q0, qn, q5, q6]); (try (simp (disch := omega) only [W2, Int.cast_ofNat_Int]; (try simp only [S, TY, reduceCtorEq, nq0, nq1, nq2, nq3, nq4, iq0, iq1, iq2, iq3, iq4, iq5, iq6, iq7, iq8, q0, qn, q5, q6]))))
      refine append_sl (show apI Try.prog 170 = some (187, 6, 40) from by kernel_rfl) (show slIs Try.prog 170 = true from by kernel_rfl) (h3.front 3) (h3.rdsi 0 rfl Rd_own) (rc1 _) (by rw [flat_len Rc.len]; simp; omega) fun v H4 h4 => ?_
      ((try simp only [S, TY, reduceCtorEq, nq0, nq1, nq2, nq3, nq4, iq0, iq1, iq2, iq3, iq4, iq5, iq6, iq7, iq8, q0, qn, q5, q6]); (try (simp (disch := omega) only [W2, Int.cast_ofNat_Int]; (try simp only [S, TY, reduceCtorEq, nq0, nq1, nq2, nq3, nq4, iq0, iq1, iq2, iq3, iq4, iq5, iq6, iq7, iq8, q0, qn, q5, q6]))))
      refine .go (i + 1) (by omega) ⟨by omega, q0, qn, rfl, v, rfl, ?_⟩
      rw [hlv, List.flatMap_append]
      exact ⟨h4.1, seps_take (B := [_, _, _]) (h4.fronts [2, 2, 0]).2⟩
    · rw [if_neg g2, List.append_nil] at hlv
      ((try simp only [S, TY, reduceCtorEq, nq0, nq1, nq2, nq3, nq4, iq0, iq1, iq2, iq3, iq4, iq5, iq6, iq7, iq8, q0, qn, q5, q6, g1, g0, c0, e5, g2]); (try (simp (disch := omega) only [W2, Int.cast_ofNat_Int]; (try simp only [S, TY, reduceCtorEq, nq0, nq1, nq2, nq3, nq4, iq0, iq1, iq2, iq3, iq4, iq5, iq6, iq7, iq8, q0, qn, q5, q6, g1, g0, c0, e5, g2]))))
      refine .go (i + 1) (by omega) ⟨by omega, q0, qn, rfl, _, q5, ?_⟩
      rw [hlv]; exact h
  · rw [List.take_of_length_le (by omega)] at h
    ((try simp only [S, TY, reduceCtorEq, nq0, nq1, nq2, nq3, nq4, iq0, iq1, iq2, iq3, iq4, iq5, iq6, iq7, iq8, q0, qn, q5, q6, g1, c0]); (try (simp (disch := omega) only [W2, Int.cast_ofNat_Int]; (try simp only [S, TY, reduceCtorEq, nq0, nq1, nq2, nq3, nq4, iq0, iq1, iq2, iq3, iq4, iq5, iq6, iq7, iq8, q0, qn, q5, q6, g1, c0]))))
    exact fin_take (B := [_, _]) ((dT_shut h).front 1) rfl
theorem dput_ok {G : Hp} {p : Nat} {life : Int} {l : List Rc} (x : Rc) (hll : l.length ≤ 10000) : Con Try.prog G 163 [.pointer (some ⟨p, 0, none⟩), x.v] [dT p life l] (fun r B => r = .bool (put l x).2 ∧ B = [dT p life (put l x).1]) := by
  obtain ⟨res, hres⟩ : ∃ r, put l x = r := ⟨_, rfl⟩
  rw [hres]
  unfold put at hres
  refine Con.intro Try.func163 rfl (Nat.le_of_ble_eq_true (by kernel_rfl)) (by kernel_rfl) Try.results163 ?_
  intro H h
  obtain ⟨a, c, hc, h0⟩ := dT_open h
  obtain ⟨⟨p1, s1, d1, a1, b1⟩, u1⟩ := x
  ((try simp only [S, TY, reduceCtorEq, nq0, nq1, nq2, nq3, nq4, iq0, iq1, iq2, iq3, iq4, iq5, iq6, iq7, iq8]); (try (simp (disch := omega) only [W2, Int.cast_ofNat_Int]; (try simp only [S, TY, reduceCtorEq, nq0, nq1, nq2, nq3, nq4, iq0, iq1, iq2, iq3, iq4, iq5, iq6, iq7, iq8]))); repeat ((first | (refine cl_drawi 5 D163_5 (List.range 9) (by decide) (by kernel_rfl) ?_; unfold D163_5) | (refine cl_drawi 7 D163_7 (List.range 13) (by decide) (by kernel_rfl) ?_; unfold D163_7)); simp only [S, TY, reduceCtorEq, nq0, nq1, nq2, nq3, nq4, iq0, iq1, iq2, iq3, iq4, iq5, iq6, iq7, iq8]; (try (simp (disch := omega) only [W2, Int.cast_ofNat_Int]; (try simp only [S, TY, reduceCtorEq, nq0, nq1, nq2, nq3, nq4, iq0, iq1, iq2, iq3, iq4, iq5, iq6, iq7, iq8])))))
  intro q hq hg
  have h1 := h0.new hq hg (.cells (Rc.l ⟨⟨p1, s1, d1, a1, b1⟩, u1⟩).toArray 187 (0, 0))
  ((try simp only [S, TY, reduceCtorEq, nq0, nq1, nq2, nq3, nq4, iq0, iq1, iq2, iq3, iq4, iq5, iq6, iq7, iq8]); (try (simp (disch := omega) only [W2, Int.cast_ofNat_Int]; (try simp only [S, TY, reduceCtorEq, nq0, nq1, nq2, nq3, nq4, iq0, iq1, iq2, iq3, iq4, iq5, iq6, iq7, iq8]))); repeat ((first | (refine cl_drawi 5 D163_5 (List.range 9) (by decide) (by kernel_rfl) ?_; unfold D163_5) | (refine cl_drawi 7 D163_7 (List.range 13) (by decide) (by kernel_rfl) ?_; unfold D163_7)); simp only [S, TY, reduceCtorEq, nq0, nq1, nq2, nq3, nq4, iq0, iq1, iq2, iq3, iq4, iq5, iq6, iq7, iq8]; (try (simp (disch := omega) only [W2, Int.cast_ofNat_Int]; (try simp only [S, TY, reduceCtorEq, nq0, nq1, nq2, nq3, nq4, iq0, iq1, iq2, iq3, iq4, iq5, iq6, iq7, iq8])))))
  intro q3 hq3 hg3
  have h3 := h1.newsl (e := 187) (sz := 6) (n := 0) (xs := []) hq3 hg3 rfl
  have c3 := (h3.front 2).c0
  ((try simp only [S, TY, reduceCtorEq, nq0, nq1, nq2, nq3, nq4, iq0, iq1, iq2, iq3, iq4, iq5, iq6, iq7, iq8, c3]); (try (simp (disch := omega) only [W2, Int.cast_ofNat_Int]; (try simp only [S, TY, reduceCtorEq, nq0, nq1, nq2, nq3, nq4, iq0, iq1, iq2, iq3, iq4, iq5, iq6, iq7, iq8, c3]))); repeat ((first | (refine cl_drawi 5 D163_5 (List.range 9) (by decide) (by kernel_rfl) ?_; unfold D163_5) | (refine cl_drawi 7 D163_7 (List.range 13) (by decide) (by kernel_rfl) ?_; unfold D163_7)); simp only [S, TY, reduceCtorEq, nq0, nq1, nq2, nq3, nq4, iq0, iq1, iq2, iq3, iq4, iq5, iq6, iq7, iq8, c3]; (try (simp (disch := omega) only [W2, Int.cast_ofNat_Int]; (try simp only [S, TY, reduceCtorEq, nq0, nq1, nq2, nq3, nq4, iq0, iq1, iq2, iq3, iq4, iq5, iq6, iq7, iq8, c3])))))
  refine append_sl (show apI Try.prog 170 = some (187, 6, 40) from by kernel_rfl) (show slIs Try.prog 170 = true from by kernel_rfl) h3 (h3.rdsi 3 rfl Rd_own) (rc_one _) (by rw [flat_len Rc.len]; simp; omega) fun v H4 h4 => ?_
  rw [List.nil_append] at h4
  obtain ⟨va, vn, vc, rfl, e1, _⟩ := h4.sl 0 rfl Rd_own
  rw [flat_len Rc.len] at e1
  obtain rfl : l.length = vn := by omega
  ((try simp only [S, TY, reduceCtorEq, nq0, nq1, nq2, nq3, nq4, iq0, iq1, iq2, iq3, iq4, iq5, iq6, iq7, iq8]); (try (simp (disch := omega) only [W2, Int.cast_ofNat_Int]; (try simp only [S, TY, reduceCtorEq, nq0, nq1, nq2, nq3, nq4, iq0, iq1, iq2, iq3, iq4, iq5, iq6, iq7, iq8]))); repeat ((first | (refine cl_drawi 5 D163_5 (List.range 9) (by decide) (by kernel_rfl) ?_; unfold D163_5) | (refine cl_drawi 7 D163_7 (List.range 13) (by decide) (by kernel_rfl) ?_; unfold D163_7)); simp only [S, TY, reduceCtorEq, nq0, nq1, nq2, nq3, nq4, iq0, iq1, iq2, iq3, iq4, iq5, iq6, iq7, iq8]; (try (simp (disch := omega) only [W2, Int.cast_ofNat_Int]; (try simp only [S, TY, reduceCtorEq, nq0, nq1, nq2, nq3, nq4, iq0, iq1, iq2, iq3, iq4, iq5, iq6, iq7, iq8])))))
  refine cl_loop (fun i e H => i ≤ l.length ∧ e 0 = .pointer (some ⟨p, 0, none⟩) ∧ e 3 = .pointer (some ⟨q, 0, none⟩) ∧ e 5 = .slice va l.length vc ∧ e 6 = .int .i64 (i : Nat) ∧ (∀ y ∈ l.take i, alike y.f ⟨p1, s1, d1, a1, b1⟩ = false) ∧
      sg G [own 187 6 (.slice va l.length vc) (l.flatMap Rc.l), ob q (.cells (Rc.l ⟨⟨p1, s1, d1, a1, b1⟩, u1⟩).toArray 187 (0, 0)), ob p (.cells #[.int .i64 life, .slice a l.length c] 172 (0, 0)), own 187 6 (.slice a l.length c) (l.flatMap Rc.l)] H) (fun i : Nat => l.length - i) 0
    ⟨by omega, rfl, rfl, rfl, rfl, by simp, h4⟩ ?_
  clear h h0 h1 h3 h4 c3
  rintro i e H ⟨q1, q0, q3', q5, q6, hb, h⟩
  by_cases g1 : (i : Int) < l.length
  · have hi : i < l.length := by omega
    obtain ⟨b, off, hl', rfl, hcc, hld⟩ := (h.rdsi 0 rfl Rd_own).el Rc.len (i := i) hi (by omega)
    have g0 : (0 : Int) ≤ i ∧ (i : Int) < l.length := ⟨by omega, g1⟩
    have e5 := hcc 5 (by decide)
    simp only [List.getElem?_cons_zero, List.getElem?_cons_succ] at e5
    have fl : ldl (H.un G) ⟨b, off + i * 6, none⟩ 0 5 = some (Fw.l l[i].f) := by
      have := ldl_of (R := H.un G) (b := b) (off := off + i * 6) (xs := Fw.l l[i].f) (fun k hk => by
        simp only [List.length_cons, List.length_nil] at hk
        rw [hcc k (by omega)]
        obtain rfl | rfl | rfl | rfl | rfl : k = 0 ∨ k = 1 ∨ k = 2 ∨ k = 3 ∨ k = 4 := by omega
        all_goals rfl) 5 0 (by simp)
      simpa using this
    have hs : l.take (i + 1) = l.take i ++ [l[i]] := by rw [List.take_add_one, List.getElem?_eq_getElem hi]; rfl
    have hd : l = l.take i ++ l[i] :: l.drop (i + 1) := by rw [← List.drop_eq_getElem_cons hi, List.take_append_drop]
    have w1 := h.li 1 rfl
    have d1' := (h.front 1).c0
    ((try simp only [S, TY, reduceCtorEq, nq0, nq1, nq2, nq3, nq4, iq0, iq1, iq2, iq3, iq4, iq5, iq6, iq7, iq8, q0, q3', q5, q6, g1, g0, fl, w1]); (try (simp (disch := omega) only [W2, Int.cast_ofNat_Int]; (try simp only [S, TY, reduceCtorEq, nq0, nq1, nq2, nq3, nq4, iq0, iq1, iq2, iq3, iq4, iq5, iq6, iq7, iq8, q0, q3', q5, q6, g1, g0, fl, w1]))); repeat ((first | (refine cl_drawi 5 D163_5 (List.range 9) (by decide) (by kernel_rfl) ?_; unfold D163_5) | (refine cl_drawi 7 D163_7 (List.range 13) (by decide) (by kernel_rfl) ?_; unfold D163_7)); simp only [S, TY, reduceCtorEq, nq0, nq1, nq2, nq3, nq4, iq0, iq1, iq2, iq3, iq4, iq5, iq6, iq7, iq8, q0, q3', q5, q6, g1, g0, fl, w1]; (try (simp (disch := omega) only [W2, Int.cast_ofNat_Int]; (try simp only [S, TY, reduceCtorEq, nq0, nq1, nq2, nq3, nq4, iq0, iq1, iq2, iq3, iq4, iq5, iq6, iq7, iq8, q0, q3', q5, q6, g1, g0, fl, w1])))))
    refine (dAlike_ok l[i].f ⟨p1, s1, d1, a1, b1⟩).at_ h [] _ rfl fun r B H5 hr h5 => ?_
    obtain ⟨rfl, rfl⟩ := hr
    cases hal : alike l[i].f ⟨p1, s1, d1, a1, b1⟩ with
    | true =>
      rw [upd_at (x := ⟨⟨p1, s1, d1, a1, b1⟩, u1⟩) hi hal hb] at hres
      simp only at hres
      obtain ⟨_, _, _, hz, hcc2, _⟩ := (h5.rdsi 0 rfl Rd_own).el Rc.len (i := i) hi (by omega)
      cases hz
      have e6 := hcc2 5 (by decide)
      simp only [List.getElem?_cons_zero, List.getElem?_cons_succ] at e6
      have d5 := (h5.front 1).c0
      obtain ⟨y, hy⟩ : ∃ y, l[i] = y := ⟨_, rfl⟩
      rw [hy] at e6 hd hres
      have hmx : (if y.u < u1 then u1 else y.u) = max y.u u1 := by split <;> omega
      ((try simp only [S, TY, reduceCtorEq, nq0, nq1, nq2, nq3, nq4, iq0, iq1, iq2, iq3, iq4, iq5, iq6, iq7, iq8, q0, q3', q5, q6, g0, e6, d5]); (try (simp (disch := omega) only [W2, Int.cast_ofNat_Int]; (try simp only [S, TY, reduceCtorEq, nq0, nq1, nq2, nq3, nq4, iq0, iq1, iq2, iq3, iq4, iq5, iq6, iq7, iq8, q0, q3', q5, q6, g0, e6, d5]))); repeat ((first | (refine cl_drawi 5 D163_5 (List.range 9) (by decide) (by kernel_rfl) ?_; unfold D163_5) | (refine cl_drawi 7 D163_7 (List.range 13) (by decide) (by kernel_rfl) ?_; unfold D163_7)); simp only [S, TY, reduceCtorEq, nq0, nq1, nq2, nq3, nq4, iq0, iq1, iq2, iq3, iq4, iq5, iq6, iq7, iq8, q0, q3', q5, q6, g0, e6, d5]; (try (simp (disch := omega) only [W2, Int.cast_ofNat_Int]; (try simp only [S, TY, reduceCtorEq, nq0, nq1, nq2, nq3, nq4, iq0, iq1, iq2, iq3, iq4, iq5, iq6, iq7, iq8, q0, q3', q5, q6, g0, e6, d5])))))
      refine stU h5 hd (by rw [List.length_take]; omega) _ fun H6 h6 => ?_
      ((try simp only [S, TY, reduceCtorEq, nq0, nq1, nq2, nq3, nq4, iq0, iq1, iq2, iq3, iq4, iq5, iq6, iq7, iq8, q0, q3', q5, q6]); (try (simp (disch := omega) only [W2, Int.cast_ofNat_Int]; (try simp only [S, TY, reduceCtorEq, nq0, nq1, nq2, nq3, nq4, iq0, iq1, iq2, iq3, iq4, iq5, iq6, iq7, iq8, q0, q3', q5, q6]))); repeat ((first | (refine cl_drawi 5 D163_5 (List.range 9) (by decide) (by kernel_rfl) ?_; unfold D163_5) | (refine cl_drawi 7 D163_7 (List.range 13) (by decide) (by kernel_rfl) ?_; unfold D163_7)); simp only [S, TY, reduceCtorEq, nq0, nq1, nq2, nq3, nq4, iq0, iq1, iq2, iq3, iq4, iq5, iq6, iq7, iq8, q0, q3', q5, q6]; (try (simp (disch := omega) only [W2, Int.cast_ofNat_Int]; (try simp only [S, TY, reduceCtorEq, nq0, nq1, nq2, nq3, nq4, iq0, iq1, iq2, iq3, iq4, iq5, iq6, iq7, iq8, q0, q3', q5, q6])))))
      refine sg.st (h6.front 2) rfl rfl fun H7 h7 => ?_
      simp only [front_eq, fronts_nil, fronts_cons, List.getElem?_cons_zero, List.getElem?_cons_succ, List.eraseIdx_cons_zero, List.eraseIdx_cons_succ, List.cons_append, List.nil_append, putL_cons, putL_nil, List.set_cons_zero, List.set_cons_succ, Nat.reduceAdd] at h7
      subst hres
      ((try simp only [S, TY, reduceCtorEq, nq0, nq1, nq2, nq3, nq4, iq0, iq1, iq2, iq3, iq4, iq5, iq6, iq7, iq8, q0, q3', q5, q6]); (try (simp (disch := omega) only [W2, Int.cast_ofNat_Int]; (try simp only [S, TY, reduceCtorEq, nq0, nq1, nq2, nq3, nq4, iq0, iq1, iq2, iq3, iq4, iq5, iq6, iq7, iq8, q0, q3', q5, q6]))); repeat ((first | (refine cl_drawi 5 D163_5 (List.range 9) (by decide) (by kernel_rfl) ?_; unfold D163_5) | (refine cl_drawi 7 D163_7 (List.range 13) (by decide) (by kernel_rfl) ?_; unfold D163_7)); simp only [S, TY, reduceCtorEq, nq0, nq1, nq2, nq3, nq4, iq0, iq1, iq2, iq3, iq4, iq5, iq6, iq7, iq8, q0, q3', q5, q6]; (try (simp (disch := omega) only [W2, Int.cast_ofNat_Int]; (try simp only [S, TY, reduceCtorEq, nq0, nq1, nq2, nq3, nq4, iq0, iq1, iq2, iq3, iq4, iq5, iq6, iq7, iq8, q0, q3', q5, q6])))))
      rw [hmx] at h7
      exact fin_take (B := [_]) (dT_shut (l := _) h7) ⟨rfl, rfl⟩
    | false =>
      ((try simp only [S, TY, reduceCtorEq, nq0, nq1, nq2, nq3, nq4, iq0, iq1, iq2, iq3, iq4, iq5, iq6, iq7, iq8, q0, q3', q5, q6]); (try (simp (disch := omega) only [W2, Int.cast_ofNat_Int]; (try simp only [S, TY, reduceCtorEq, nq0, nq1, nq2, nq3, nq4, iq0, iq1, iq2, iq3, iq4, iq5, iq6, iq7, iq8, q0, q3', q5, q6]))); repeat ((first | (refine cl_drawi 5 D163_5 (List.range 9) (by decide) (by kernel_rfl) ?_; unfold D163_5) | (refine cl_drawi 7 D163_7 (List.range 13) (by decide) (by kernel_rfl) ?_; unfold D163_7)); simp only [S, TY, reduceCtorEq, nq0, nq1, nq2, nq3, nq4, iq0, iq1, iq2, iq3, iq4, iq5, iq6, iq7, iq8, q0, q3', q5, q6]; (try (simp (disch := omega) only [W2, Int.cast_ofNat_Int]; (try simp only [S, TY, reduceCtorEq, nq0, nq1, nq2, nq3, nq4, iq0, iq1, iq2, iq3, iq4, iq5, iq6, iq7, iq8, q0, q3', q5, q6])))))
      refine .go (i + 1) (by omega) ⟨by omega, q0, q3', q5, rfl, ?_, h5⟩
      intro y hy
      rw [hs] at hy
      rcases List.mem_append.1 hy with hy | hy
      · exact hb y hy
      · rw [List.mem_singleton] at hy; subst hy; exact hal
  · rw [List.take_of_length_le (by omega)] at hb
    rw [upd_none (x := ⟨⟨p1, s1, d1, a1, b1⟩, u1⟩) hb] at hres
    simp only at hres
    by_cases g : (16 : Int) ≤ l.length
    · rw [if_pos (by omega)] at hres
      subst hres
      ((try simp only [S, TY, reduceCtorEq, nq0, nq1, nq2, nq3, nq4, iq0, iq1, iq2, iq3, iq4, iq5, iq6, iq7, iq8, q0, q3', q5, q6, g1, g]); (try (simp (disch := omega) only [W2, Int.cast_ofNat_Int]; (try simp only [S, TY, reduceCtorEq, nq0, nq1, nq2, nq3, nq4, iq0, iq1, iq2, iq3, iq4, iq5, iq6, iq7, iq8, q0, q3', q5, q6, g1, g]))); repeat ((first | (refine cl_drawi 5 D163_5 (List.range 9) (by decide) (by kernel_rfl) ?_; unfold D163_5) | (refine cl_drawi 7 D163_7 (List.range 13) (by decide) (by kernel_rfl) ?_; unfold D163_7)); simp only [S, TY, reduceCtorEq, nq0, nq1, nq2, nq3, nq4, iq0, iq1, iq2, iq3, iq4, iq5, iq6, iq7, iq8, q0, q3', q5, q6, g1, g]; (try (simp (disch := omega) only [W2, Int.cast_ofNat_Int]; (try simp only [S, TY, reduceCtorEq, nq0, nq1, nq2, nq3, nq4, iq0, iq1, iq2, iq3, iq4, iq5, iq6, iq7, iq8, q0, q3', q5, q6, g1, g])))))
      exact fin_take (B := [_]) (dT_shut (h.fronts [2, 2])) ⟨rfl, rfl⟩
    · rw [if_neg (by omega)] at hres
      subst hres
      have w1 := h.li 1 rfl
      ((try simp only [S, TY, reduceCtorEq, nq0, nq1, nq2, nq3, nq4, iq0, iq1, iq2, iq3, iq4, iq5, iq6, iq7, iq8, q0, q3', q5, q6, g1, g, w1]); (try (simp (disch := omega) only [W2, Int.cast_ofNat_Int]; (try simp only [S, TY, reduceCtorEq, nq0, nq1, nq2, nq3, nq4, iq0, iq1, iq2, iq3, iq4, iq5, iq6, iq7, iq8, q0, q3', q5, q6, g1, g, w1]))); repeat ((first | (refine cl_drawi 5 D163_5 (List.range 9) (by decide) (by kernel_rfl) ?_; unfold D163_5) | (refine cl_drawi 7 D163_7 (List.range 13) (by decide) (by kernel_rfl) ?_; unfold D163_7)); simp only [S, TY, reduceCtorEq, nq0, nq1, nq2, nq3, nq4, iq0, iq1, iq2, iq3, iq4, iq5, iq6, iq7, iq8, q0, q3', q5, q6, g1, g, w1]; (try (simp (disch := omega) only [W2, Int.cast_ofNat_Int]; (try simp only [S, TY, reduceCtorEq, nq0, nq1, nq2, nq3, nq4, iq0, iq1, iq2, iq3, iq4, iq5, iq6, iq7, iq8, q0, q3', q5, q6, g1, g, w1])))))
      intro q4 hq4 hg4
      have h5 := h.newsl (e := 187) (sz := 6) (n := 1) (xs := Rc.l ⟨⟨p1, s1, d1, a1, b1⟩, u1⟩) hq4 hg4 rfl
      ((try simp only [S, TY, reduceCtorEq, nq0, nq1, nq2, nq3, nq4, iq0, iq1, iq2, iq3, iq4, iq5, iq6, iq7, iq8, q0, q3', q5, q6]); (try (simp (disch := omega) only [W2, Int.cast_ofNat_Int]; (try simp only [S, TY, reduceCtorEq, nq0, nq1, nq2, nq3, nq4, iq0, iq1, iq2, iq3, iq4, iq5, iq6, iq7, iq8, q0, q3', q5, q6]))); repeat ((first | (refine cl_drawi 5 D163_5 (List.range 9) (by decide) (by kernel_rfl) ?_; unfold D163_5) | (refine cl_drawi 7 D163_7 (List.range 13) (by decide) (by kernel_rfl) ?_; unfold D163_7)); simp only [S, TY, reduceCtorEq, nq0, nq1, nq2, nq3, nq4, iq0, iq1, iq2, iq3, iq4, iq5, iq6, iq7, iq8, q0, q3', q5, q6]; (try (simp (disch := omega) only [W2, Int.cast_ofNat_Int]; (try simp only [S, TY, reduceCtorEq, nq0, nq1, nq2, nq3, nq4, iq0, iq1, iq2, iq3, iq4, iq5, iq6, iq7, iq8, q0, q3', q5, q6])))))
      refine append_sl (show apI Try.prog 170 = some (187, 6, 40) from by kernel_rfl) (show slIs Try.prog 170 = true from by kernel_rfl) (h5.front 1) (h5.rdsi 0 rfl Rd_own) (rc1 _) (by rw [flat_len Rc.len]; simp; omega) fun v H6 h6 => ?_
      obtain ⟨wa, wn, wc, rfl, _, _⟩ := h6.sl 0 rfl Rd_own
      simp only [front_eq, fronts_nil, fronts_cons, List.getElem?_cons_zero, List.getElem?_cons_succ, List.eraseIdx_cons_zero, List.eraseIdx_cons_succ, List.cons_append, List.nil_append, putL_cons, putL_nil, List.set_cons_zero, List.set_cons_succ, Nat.reduceAdd] at h6
      ((try simp only [S, TY, reduceCtorEq, nq0, nq1, nq2, nq3, nq4, iq0, iq1, iq2, iq3, iq4, iq5, iq6, iq7, iq8, q0, q3', q5, q6]); (try (simp (disch := omega) only [W2, Int.cast_ofNat_Int]; (try simp only [S, TY, reduceCtorEq, nq0, nq1, nq2, nq3, nq4, iq0, iq1, iq2, iq3, iq4, iq5, iq6, iq7, iq8, q0, q3', q5, q6]))); repeat ((first | (refine cl_drawi 5 D163_5 (List.range 9) (by decide) (by kernel_rfl) ?_; unfold D163_5) | (refine cl_drawi 7 D163_7 (List.range 13) (by decide) (by kernel_rfl) ?_; unfold D163_7)); simp only [S, TY, reduceCtorEq, nq0, nq1, nq2, nq3, nq4, iq0, iq1, iq2, iq3, iq4, iq5, iq6, iq7, iq8, q0, q3', q5, q6]; (try (simp (disch := omega) only [W2, Int.cast_ofNat_Int]; (try simp only [S, TY, reduceCtorEq, nq0, nq1, nq2, nq3, nq4, iq0, iq1, iq2, iq3, iq4, iq5, iq6, iq7, iq8, q0, q3', q5, q6])))))
      refine sg.st (h6.front 3) rfl rfl fun H7 h7 => ?_
      simp only [front_eq, fronts_nil, fronts_cons, List.getElem?_cons_zero, List.getElem?_cons_succ, List.eraseIdx_cons_zero, List.eraseIdx_cons_succ, List.cons_append, List.nil_append, putL_cons, putL_nil, List.set_cons_zero, List.set_cons_succ, Nat.reduceAdd] at h7
      ((try simp only [S, TY, reduceCtorEq, nq0, nq1, nq2, nq3, nq4, iq0, iq1, iq2, iq3, iq4, iq5, iq6, iq7, iq8]); (try (simp (disch := omega) only [W2, Int.cast_ofNat_Int]; (try simp only [S, TY, reduceCtorEq, nq0, nq1, nq2, nq3, nq4, iq0, iq1, iq2, iq3, iq4, iq5, iq6, iq7, iq8]))); repeat ((first | (refine cl_drawi 5 D163_5 (List.range 9) (by decide) (by kernel_rfl) ?_; unfold D163_5) | (refine cl_drawi 7 D163_7 (List.range 13) (by decide) (by kernel_rfl) ?_; unfold D163_7)); simp only [S, TY, reduceCtorEq, nq0, nq1, nq2, nq3, nq4, iq0, iq1, iq2, iq3, iq4, iq5, iq6, iq7, iq8]; (try (simp (disch := omega) only [W2, Int.cast_ofNat_Int]; (try simp only [S, TY, reduceCtorEq, nq0, nq1, nq2, nq3, nq4, iq0, iq1, iq2, iq3, iq4, iq5, iq6, iq7, iq8])))))
      exact fin_take (B := [_]) (dT_shut (l := l ++ [⟨⟨p1, s1, d1, a1, b1⟩, u1⟩]) (by rw [List.flatMap_append]; exact h7)) ⟨rfl, rfl⟩
end Go.Proofs.Ytanhmbdcdbcfmaa.TkD
