/- Tables of flows, by the document; the laws' own functions. -/
import Derived.Test.YtanhmbdcdbcfmaaFlT
set_option linter.unusedVariables false
set_option linter.unusedSimpArgs false
set_option maxRecDepth 10000
set_option maxHeartbeats 4000000
namespace Go.Proofs.Ytanhmbdcdbcfmaa.FlD
open Nat renaming reduceEqDiff → nq0, reduceAdd → nq1, reduceLeDiff → nq2, reduceBEq → nq3, reduceMul → nq4
open Int renaming reduceBEq → iq0, reduceEq → iq1, reduceLT → iq2, reduceLE → iq3, reduceAdd → iq4, reduceSub → iq5, reduceMul → iq6, reduceToNat → iq7, cast_ofNat_Int → iq8
open Go Go.Sl Go.Proofs Go.Proofs.Ytanhmbdcdbcfmaa.So Go.Proofs.Ytanhmbdcdbcfmaa.SoI Go.Proofs.Ytanhmbdcdbcfmaa.SoR Go.Proofs.Ytanhmbdcdbcfmaa.SoM Go.Proofs.Ytanhmbdcdbcfmaa.SoS Go.Proofs.Ytanhmbdcdbcfmaa.Fl Go.Proofs.Ytanhmbdcdbcfmaa.FlT
theorem TY : aggN Try.prog 3 = some none ∧
  aggN Try.prog 22 = some none ∧
  aggN Try.prog 41 = some none ∧
  aggN Try.prog 49 = some none ∧
  aggN Try.prog 194 = some (some 4) ∧
  aggN Try.prog 196 = some (some 11) ∧
  aggN Try.prog 211 = some (some 4) ∧
  aggN Try.prog 214 = some (some 5) ∧
  aggN Try.prog 218 = some (some 11) ∧
  apI Try.prog 22 = some (196, 11, 88) ∧
  apI Try.prog 41 = some (218, 11, 88) ∧
  bIs Try.prog 194 = true ∧
  bIs Try.prog 196 = true ∧
  bIs Try.prog 211 = true ∧
  bIs Try.prog 214 = true ∧
  bIs Try.prog 218 = true ∧
  csz Try.prog 3 = some 1 ∧
  csz Try.prog 22 = some 1 ∧
  csz Try.prog 41 = some 1 ∧
  csz Try.prog 49 = some 1 ∧
  csz Try.prog 194 = some 4 ∧
  csz Try.prog 196 = some 11 ∧
  csz Try.prog 211 = some 4 ∧
  csz Try.prog 214 = some 5 ∧
  csz Try.prog 218 = some 11 ∧
  eqF Try.prog 194 = some [.i, .i, .i, .i] ∧
  eqF Try.prog 196 = some [.i, .i, .i, .i, .i, .i, .i, .i, .i, .i, .i] ∧
  eqF Try.prog 211 = some [.i, .i, .i, .i] ∧
  eqF Try.prog 214 = some [.i, .i, .i, .i, .i] ∧
  eqF Try.prog 218 = some [.i, .i, .i, .i, .i, .i, .i, .i, .i, .i, .i] ∧
  fIs Try.prog 194 0 = true ∧
  fIs Try.prog 194 1 = true ∧
  fIs Try.prog 194 2 = true ∧
  fIs Try.prog 194 3 = true ∧
  fIs Try.prog 196 0 = true ∧
  fIs Try.prog 196 1 = true ∧
  fIs Try.prog 196 2 = true ∧
  fIs Try.prog 196 3 = true ∧
  fIs Try.prog 196 4 = true ∧
  fIs Try.prog 196 5 = true ∧
  fIs Try.prog 196 6 = true ∧
  fIs Try.prog 196 7 = true ∧
  fIs Try.prog 218 0 = true ∧
  fIs Try.prog 218 7 = true ∧
  fOff Try.prog 194 0 = 0 ∧
  fOff Try.prog 194 1 = 1 ∧
  fOff Try.prog 194 2 = 2 ∧
  fOff Try.prog 194 3 = 3 ∧
  fOff Try.prog 196 0 = 0 ∧
  fOff Try.prog 196 1 = 1 ∧
  fOff Try.prog 196 2 = 2 ∧
  fOff Try.prog 196 3 = 3 ∧
  fOff Try.prog 196 4 = 4 ∧
  fOff Try.prog 196 5 = 5 ∧
  fOff Try.prog 196 6 = 6 ∧
  fOff Try.prog 196 7 = 7 ∧
  fOff Try.prog 218 0 = 0 ∧
  fOff Try.prog 218 7 = 7 ∧
  fTy Try.prog 194 0 = 3 ∧
  fTy Try.prog 194 1 = 3 ∧
  fTy Try.prog 194 2 = 3 ∧
  fTy Try.prog 194 3 = 3 ∧
  fTy Try.prog 196 0 = 3 ∧
  fTy Try.prog 196 1 = 3 ∧
  fTy Try.prog 196 2 = 49 ∧
  fTy Try.prog 196 3 = 3 ∧
  fTy Try.prog 196 4 = 3 ∧
  fTy Try.prog 196 5 = 3 ∧
  fTy Try.prog 196 6 = 3 ∧
  fTy Try.prog 196 7 = 194 ∧
  fTy Try.prog 218 0 = 3 ∧
  fTy Try.prog 218 7 = 211 ∧
  goes Try.prog 111 = true ∧
  goes Try.prog 174 = true ∧
  inIs Try.prog 3 = some .i64 ∧
  inIs Try.prog 49 = some .u64 ∧
  plcs Try.prog 194 = [(0, 1), (1, 1), (2, 1), (3, 1)] ∧
  plcs Try.prog 196 = [(0, 1), (1, 1), (2, 1), (3, 1), (4, 1), (5, 1), (6, 1), (7, 4)] ∧
  plcs Try.prog 211 = [(0, 1), (1, 1), (2, 1), (3, 1)] ∧
  plcs Try.prog 214 = [(0, 1), (1, 1), (2, 1), (3, 1), (4, 1)] ∧
  plcs Try.prog 218 = [(0, 1), (1, 1), (2, 1), (3, 1), (4, 1), (5, 1), (6, 1), (7, 4)] ∧
  slEl Try.prog 22 = 196 ∧
  slEl Try.prog 41 = 218 ∧
  slIs Try.prog 22 = true ∧
  slIs Try.prog 41 = true ∧
  slSz Try.prog 22 = 11 ∧
  slSz Try.prog 41 = 11 ∧
  zcs Try.prog 194 = [.int .i64 0, .int .i64 0, .int .i64 0, .int .i64 0] ∧
  zcs Try.prog 196 = [.int .i64 0, .int .i64 0, .int .u64 0, .int .i64 0, .int .i64 0, .int .i64 0, .int .i64 0, .int .i64 0, .int .i64 0, .int .i64 0, .int .i64 0] ∧
  zcs Try.prog 211 = [.int .i64 0, .int .i64 0, .int .i64 0, .int .i64 0] ∧
  zcs Try.prog 214 = [.int .i64 0, .int .u64 0, .int .i64 0, .int .i64 0, .int .i64 0] ∧
  zcs Try.prog 218 = [.int .i64 0, .int .i64 0, .int .u64 0, .int .i64 0, .int .i64 0, .int .i64 0, .int .i64 0, .int .i64 0, .int .i64 0, .int .i64 0, .int .i64 0] ∧
  zro Try.prog 3 = some (.int .i64 0) ∧
  zro Try.prog 22 = some (.slice none 0 0) ∧
  zro Try.prog 41 = some (.slice none 0 0) ∧
  zro Try.prog 49 = some (.int .u64 0) ∧
  zro Try.prog 194 = some (.agg #[.int .i64 0, .int .i64 0, .int .i64 0, .int .i64 0]) ∧
  zro Try.prog 196 = some (.agg #[.int .i64 0, .int .i64 0, .int .u64 0, .int .i64 0, .int .i64 0, .int .i64 0, .int .i64 0, .int .i64 0, .int .i64 0, .int .i64 0, .int .i64 0]) ∧
  zro Try.prog 211 = some (.agg #[.int .i64 0, .int .i64 0, .int .i64 0, .int .i64 0]) ∧
  zro Try.prog 214 = some (.agg #[.int .i64 0, .int .u64 0, .int .i64 0, .int .i64 0, .int .i64 0]) ∧
  zro Try.prog 218 = some (.agg #[.int .i64 0, .int .i64 0, .int .u64 0, .int .i64 0, .int .i64 0, .int .i64 0, .int .i64 0, .int .i64 0, .int .i64 0, .int .i64 0, .int .i64 0]) :=
  ⟨by kernel_rfl, by kernel_rfl, by kernel_rfl, by kernel_rfl, by kernel_rfl, by kernel_rfl, by kernel_rfl, by kernel_rfl, by kernel_rfl, by kernel_rfl, by kernel_rfl, by kernel_rfl, by kernel_rfl, by kernel_rfl, by kernel_rfl, by kernel_rfl, by kernel_rfl, by kernel_rfl, by kernel_rfl, by kernel_rfl, by kernel_rfl, by kernel_rfl, by kernel_rfl, by kernel_rfl, by kernel_rfl, by kernel_rfl, by kernel_rfl, by kernel_rfl, by kernel_rfl, by kernel_rfl, by kernel_rfl, by kernel_rfl, by kernel_rfl, by kernel_rfl, by kernel_rfl, by kernel_rfl, by kernel_rfl, by kernel_rfl, by kernel_rfl, by kernel_rfl, by kernel_rfl, by kernel_rfl, by kernel_rfl, by kernel_rfl, by kernel_rfl, by kernel_rfl, by kernel_rfl, by kernel_rfl, by kernel_rfl, by kernel_rfl, by kernel_rfl, by kernel_rfl, by kernel_rfl, by kernel_rfl, by kernel_rfl, by kernel_rfl, by kernel_rfl, by kernel_rfl, by kernel_rfl, by kernel_rfl, by kernel_rfl, by kernel_rfl, by kernel_rfl, by kernel_rfl, by kernel_rfl, by kernel_rfl, by kernel_rfl, by kernel_rfl, by kernel_rfl, by kernel_rfl, by kernel_rfl, by kernel_rfl, by kernel_rfl, by kernel_rfl, by kernel_rfl, by kernel_rfl, by kernel_rfl, by kernel_rfl, by kernel_rfl, by kernel_rfl, by kernel_rfl, by kernel_rfl, by kernel_rfl, by kernel_rfl, by kernel_rfl, by kernel_rfl, by kernel_rfl, by kernel_rfl, by kernel_rfl, by kernel_rfl, by kernel_rfl, by kernel_rfl, by kernel_rfl, by kernel_rfl, by kernel_rfl, by kernel_rfl, by kernel_rfl, by kernel_rfl, by kernel_rfl, by kernel_rfl, by kernel_rfl⟩
def D20_6 : List Note := Go.Sl.nn [0, 0, 1, 0, 1, 0, 1, 0, 1, 0, 1, 0, 1, 0, 1, 0, 1] ++ ([(3, [2, 4, 6, 8, 10, 12, 14])] ++ (Go.Sl.nn [0, 2, 3, 0]))
def D108_5 : List Note := Go.Sl.nn [0, 0, 0, 1, 1, 3, 0]
def D108_6 : List Note := Go.Sl.nn [0, 0, 0, 0, 0, 0, 0, 0, 0, 1, 0, 0, 0, 0, 1, 0, 0, 0]
theorem best_app {p : En → Bool} {o : Option En} : ∀ (l m : List En), best kk p o (l ++ m) = best kk p (best kk p o l) m := by
  intro l
  induction l generalizing o with
  | nil => intro m; rfl
  | cons x l ih => intro m; rw [List.cons_append, best_cons, best_cons]; exact ih m
theorem Act_ok {G : Hp} (x : Ac) : Con Try.prog G 111 [x.v] [] (fun r B => r = x.v ∧ B = []) := by
  obtain ⟨x1, x2, x3, x4⟩ := x
  refine Con.intro Try.func111 rfl (Nat.le_of_ble_eq_true (by kernel_rfl)) (by kernel_rfl) Try.results111 ?_
  intro H h
  ((try simp only [S, TY, reduceCtorEq, nq0, nq1, nq2, nq3, nq4, iq0, iq1, iq2, iq3, iq4, iq5, iq6, iq7, iq8]); (try (simp (disch := omega) only [W2, Int.cast_ofNat_Int]; (try simp only [S, TY, reduceCtorEq, nq0, nq1, nq2, nq3, nq4, iq0, iq1, iq2, iq3, iq4, iq5, iq6, iq7, iq8]))))
  repeat' (((first
      | ((with_reducible show fin _ _ _); first | (exact fin_take (B := []) h ⟨rfl, rfl⟩))
      | ((with_reducible show New _ _ _); first | (refine New_sl h 11 rfl (fun b H' h' => ?_); skip) | (refine New_qsl h 11 rfl (fun b => rfl) (fun b H' h' => ?_); skip) | (refine New_ob h (fun b H' h' => ?_); skip) | (refine New_qob h (fun b H' h' => ?_); skip))
      | ((with_reducible show St _ _); first | (refine sg.st (h.front 0) rfl rfl (fun H' h' => ?_); skip) | (refine sg.st (h.front 1) rfl rfl (fun H' h' => ?_); skip) | (refine sg.st (h.front 2) rfl rfl (fun H' h' => ?_); skip) | (refine sg.st (h.front 3) rfl rfl (fun H' h' => ?_); skip) | (refine sg.st (h.front 4) rfl rfl (fun H' h' => ?_); skip) | (refine sg.st (h.front 5) rfl rfl (fun H' h' => ?_); skip) | (refine sg.st (h.front 6) rfl rfl (fun H' h' => ?_); skip) | (refine sg.st (h.front 7) rfl rfl (fun H' h' => ?_); skip))
      | ((with_reducible show Gate _ _ _); refine Gate.intro (fun g => ?_) (fun g => ?_) <;> (try subst g))
      ) <;> ((try ((try simp only [row, En.l, Ky.l, Ac.l, front_eq] at h'); (try simp only [front_eq, fronts_nil, fronts_cons, List.getElem?_cons_zero, List.getElem?_cons_succ, List.eraseIdx_cons_zero, List.eraseIdx_cons_succ, List.cons_append, List.nil_append, putL_cons, putL_nil, List.set_cons_zero, List.set_cons_succ, Nat.reduceAdd] at h'); clear h; have h := h'; clear h'; (try have fc := h.ci 0 rfl); (try have fl := h.li 0 rfl); (try have fc := h.ci 1 rfl); (try have fl := h.li 1 rfl); (try have fc := h.ci 2 rfl); (try have fl := h.li 2 rfl); (try have fc := h.ci 3 rfl); (try have fl := h.li 3 rfl); (try have fc := h.ci 4 rfl); (try have fl := h.li 4 rfl); (try have fc := h.ci 5 rfl); (try have fl := h.li 5 rfl); (try have fc := h.ci 6 rfl); (try have fl := h.li 6 rfl); (try have fc := h.ci 7 rfl); (try have fl := h.li 7 rfl))); ((try simp only [S, TY, reduceCtorEq, nq0, nq1, nq2, nq3, nq4, iq0, iq1, iq2, iq3, iq4, iq5, iq6, iq7, iq8, *]); (try (simp (disch := omega) only [W2, Int.cast_ofNat_Int]; (try simp only [S, TY, reduceCtorEq, nq0, nq1, nq2, nq3, nq4, iq0, iq1, iq2, iq3, iq4, iq5, iq6, iq7, iq8, *])))))))
theorem Of_ok {G : Hp} {v : Value} {l : List En} (hv : ens G v l) (hll : l.length ≤ 100000) : Con Try.prog G 20 [v] [] (fun r B => B = [own 218 11 r (l.flatMap En.l)]) := by
  obtain ⟨a, n, c, rfl, e1, e2⟩ := hv.slice
  rw [flat_len En.len] at e1
  obtain rfl : l.length = n := by omega
  clear e1
  refine Con.intro Try.func20 rfl (Nat.le_of_ble_eq_true (by kernel_rfl)) (by kernel_rfl) Try.results20 ?_
  intro H h
  ((try simp only [S, TY, reduceCtorEq, nq0, nq1, nq2, nq3, nq4, iq0, iq1, iq2, iq3, iq4, iq5, iq6, iq7, iq8]); (try (simp (disch := omega) only [W2, Int.cast_ofNat_Int]; (try simp only [S, TY, reduceCtorEq, nq0, nq1, nq2, nq3, nq4, iq0, iq1, iq2, iq3, iq4, iq5, iq6, iq7, iq8]))); repeat ((first | (refine cl_drawi 6 D20_6 (List.range 22) (by decide) (by kernel_rfl) ?_; unfold D20_6)); simp only [S, TY, reduceCtorEq, nq0, nq1, nq2, nq3, nq4, iq0, iq1, iq2, iq3, iq4, iq5, iq6, iq7, iq8]; (try (simp (disch := omega) only [W2, Int.cast_ofNat_Int]; (try simp only [S, TY, reduceCtorEq, nq0, nq1, nq2, nq3, nq4, iq0, iq1, iq2, iq3, iq4, iq5, iq6, iq7, iq8])))))
  refine cl_loop (fun i e H => i ≤ l.length ∧ e 0 = .slice a l.length c ∧ e 4 = .int .i64 (i : Nat) ∧ ∃ v, e 3 = v ∧ sg G [own 218 11 v ((l.take i).flatMap En.l)] H) (fun i : Nat => l.length - i) 0
    ⟨by omega, rfl, rfl, _, rfl, h.nil_ 218 11⟩ ?_
  clear h
  rintro i e H ⟨q1, q0, q4, v, q3, h⟩
  obtain ⟨ua, un, uc, rfl, _, _⟩ := h.sl 0 rfl Rd_own
  by_cases g1 : (i : Int) < l.length
  · obtain ⟨b, off, hl, rfl, hc, hld⟩ := hv.el En.len (i := i) (by omega) (by omega)
    have g0 : (0 : Int) ≤ i ∧ (i : Int) < l.length := ⟨by omega, g1⟩
    have el := h.rold hld
    clear hc
    have hs : l.take (i + 1) = l.take i ++ [l[i]] := by rw [List.take_add_one, List.getElem?_eq_getElem hl]; rfl
    obtain ⟨x, hx⟩ : ∃ x, l[i] = x := ⟨_, rfl⟩
    rw [hx] at el hs
    clear hx hld
    obtain ⟨x1, x2, x3, x4, x5, x6, x7, x8, x9, x10, x11⟩ := x
    ((try simp only [S, TY, reduceCtorEq, nq0, nq1, nq2, nq3, nq4, iq0, iq1, iq2, iq3, iq4, iq5, iq6, iq7, iq8, q0, q3, q4, g1, g0, el]); (try (simp (disch := omega) only [W2, Int.cast_ofNat_Int]; (try simp only [S, TY, reduceCtorEq, nq0, nq1, nq2, nq3, nq4, iq0, iq1, iq2, iq3, iq4, iq5, iq6, iq7, iq8, q0, q3, q4, g1, g0, el]))); repeat ((first | (refine cl_drawi 6 D20_6 (List.range 22) (by decide) (by kernel_rfl) ?_; unfold D20_6)); simp only [S, TY, reduceCtorEq, nq0, nq1, nq2, nq3, nq4, iq0, iq1, iq2, iq3, iq4, iq5, iq6, iq7, iq8, q0, q3, q4, g1, g0, el]; (try (simp (disch := omega) only [W2, Int.cast_ofNat_Int]; (try simp only [S, TY, reduceCtorEq, nq0, nq1, nq2, nq3, nq4, iq0, iq1, iq2, iq3, iq4, iq5, iq6, iq7, iq8, q0, q3, q4, g1, g0, el])))))
    repeat' (((first
        | ((refine append_sl (show apI Try.prog 41 = some (218, 11, 88) from by kernel_rfl) (show slIs Try.prog 41 = true from by kernel_rfl) (h.front 2) ((h.front 2).rdsi 1 rfl Rd_own) (fun v hv => en_one [⟨x1, x2, x3, x4, x5, x6, x7, x8, x9, x10, x11⟩] v (by simpa using hv)) (by rw [flat_len En.len]; simp; omega) (fun v H' h' => ?_); skip))
        | ((with_reducible show CallsH _ _ 111 _ _ _); first | (refine (Act_ok ⟨_, _, _, _⟩).at_ h [] _ rfl (fun r B H' hr h' => ?_); obtain ⟨rfl, rfl⟩ := hr; skip))
        | ((with_reducible show New _ _ _); first | (refine New_sl h 11 rfl (fun b H' h' => ?_); skip) | (refine New_qsl h 11 rfl (fun b => rfl) (fun b H' h' => ?_); skip) | (refine New_ob h (fun b H' h' => ?_); skip) | (refine New_qob h (fun b H' h' => ?_); skip))
        | ((with_reducible show St _ _); first | (refine sg.st (h.front 0) rfl rfl (fun H' h' => ?_); skip) | (refine sg.st (h.front 1) rfl rfl (fun H' h' => ?_); skip) | (refine sg.st (h.front 2) rfl rfl (fun H' h' => ?_); skip) | (refine sg.st (h.front 3) rfl rfl (fun H' h' => ?_); skip) | (refine sg.st (h.front 4) rfl rfl (fun H' h' => ?_); skip) | (refine sg.st (h.front 5) rfl rfl (fun H' h' => ?_); skip) | (refine sg.st (h.front 6) rfl rfl (fun H' h' => ?_); skip) | (refine sg.st (h.front 7) rfl rfl (fun H' h' => ?_); skip))
        | ((with_reducible show Gate _ _ _); refine Gate.intro (fun g => ?_) (fun g => ?_) <;> (try subst g))
        ) <;> ((try ((try simp only [row, En.l, Ky.l, Ac.l, front_eq] at h'); (try simp only [front_eq, fronts_nil, fronts_cons, List.getElem?_cons_zero, List.getElem?_cons_succ, List.eraseIdx_cons_zero, List.eraseIdx_cons_succ, List.cons_append, List.nil_append, putL_cons, putL_nil, List.set_cons_zero, List.set_cons_succ, Nat.reduceAdd] at h'); clear h; have h := h'; clear h'; (try have fc := h.ci 0 rfl); (try have fl := h.li 0 rfl); (try have fc := h.ci 1 rfl); (try have fl := h.li 1 rfl); (try have fc := h.ci 2 rfl); (try have fl := h.li 2 rfl); (try have fc := h.ci 3 rfl); (try have fl := h.li 3 rfl); (try have fc := h.ci 4 rfl); (try have fl := h.li 4 rfl); (try have fc := h.ci 5 rfl); (try have fl := h.li 5 rfl); (try have fc := h.ci 6 rfl); (try have fl := h.li 6 rfl); (try have fc := h.ci 7 rfl); (try have fl := h.li 7 rfl))); ((try simp only [S, TY, reduceCtorEq, nq0, nq1, nq2, nq3, nq4, iq0, iq1, iq2, iq3, iq4, iq5, iq6, iq7, iq8, q0, q3, q4, *]); (try (simp (disch := omega) only [W2, Int.cast_ofNat_Int]; (try simp only [S, TY, reduceCtorEq, nq0, nq1, nq2, nq3, nq4, iq0, iq1, iq2, iq3, iq4, iq5, iq6, iq7, iq8, q0, q3, q4, *]))); repeat ((first | (refine cl_drawi 6 D20_6 (List.range 22) (by decide) (by kernel_rfl) ?_; unfold D20_6)); simp only [S, TY, reduceCtorEq, nq0, nq1, nq2, nq3, nq4, iq0, iq1, iq2, iq3, iq4, iq5, iq6, iq7, iq8, q0, q3, q4, *]; (try (simp (disch := omega) only [W2, Int.cast_ofNat_Int]; (try simp only [S, TY, reduceCtorEq, nq0, nq1, nq2, nq3, nq4, iq0, iq1, iq2, iq3, iq4, iq5, iq6, iq7, iq8, q0, q3, q4, *]))))))))
    refine .go (i + 1) (by omega) ⟨by omega, q0, rfl, _, rfl, ?_⟩
    rw [hs, List.flatMap_append]
    exact h.take1
  · ((try simp only [S, TY, reduceCtorEq, nq0, nq1, nq2, nq3, nq4, iq0, iq1, iq2, iq3, iq4, iq5, iq6, iq7, iq8, q0, q3, q4, g1]); (try (simp (disch := omega) only [W2, Int.cast_ofNat_Int]; (try simp only [S, TY, reduceCtorEq, nq0, nq1, nq2, nq3, nq4, iq0, iq1, iq2, iq3, iq4, iq5, iq6, iq7, iq8, q0, q3, q4, g1]))); repeat ((first | (refine cl_drawi 6 D20_6 (List.range 22) (by decide) (by kernel_rfl) ?_; unfold D20_6)); simp only [S, TY, reduceCtorEq, nq0, nq1, nq2, nq3, nq4, iq0, iq1, iq2, iq3, iq4, iq5, iq6, iq7, iq8, q0, q3, q4, g1]; (try (simp (disch := omega) only [W2, Int.cast_ofNat_Int]; (try simp only [S, TY, reduceCtorEq, nq0, nq1, nq2, nq3, nq4, iq0, iq1, iq2, iq3, iq4, iq5, iq6, iq7, iq8, q0, q3, q4, g1])))))
    exact fin_take (B := [_]) h (by rw [List.take_of_length_le (by omega)])
theorem dLook_ok {G : Hp} {v : Value} {l : List En} (hv : ens G v l) (hll : l.length ≤ 100000) (k : Ky) : Con Try.prog G 108 [v, k.v] [] (fun r B => r = .tuple #[(lookT k l).1.v, .bool (lookT k l).2] ∧ B = []) := by
  obtain ⟨a, n, c, rfl, e1, e2⟩ := hv.slice
  rw [flat_len En.len] at e1
  obtain rfl : l.length = n := by omega
  clear e1
  refine Con.intro Try.func108 rfl (Nat.le_of_ble_eq_true (by kernel_rfl)) (by kernel_rfl) Try.results108 ?_
  intro H h
  ((try simp only [S, TY, reduceCtorEq, nq0, nq1, nq2, nq3, nq4, iq0, iq1, iq2, iq3, iq4, iq5, iq6, iq7, iq8]); (try (simp (disch := omega) only [W2, Int.cast_ofNat_Int]; (try simp only [S, TY, reduceCtorEq, nq0, nq1, nq2, nq3, nq4, iq0, iq1, iq2, iq3, iq4, iq5, iq6, iq7, iq8]))); repeat ((first | (refine cl_drawi 5 D108_5 (List.range 7) (by decide) (by kernel_rfl) ?_; unfold D108_5) | (refine cl_drawi 6 D108_6 (List.range 18) (by decide) (by kernel_rfl) ?_; unfold D108_6)); simp only [S, TY, reduceCtorEq, nq0, nq1, nq2, nq3, nq4, iq0, iq1, iq2, iq3, iq4, iq5, iq6, iq7, iq8]; (try (simp (disch := omega) only [W2, Int.cast_ofNat_Int]; (try simp only [S, TY, reduceCtorEq, nq0, nq1, nq2, nq3, nq4, iq0, iq1, iq2, iq3, iq4, iq5, iq6, iq7, iq8])))))
  iterate 2 (all_goals (try ((first
      | ((with_reducible show New _ _ _); first | (refine New_sl h 11 rfl (fun b H' h' => ?_); skip) | (refine New_qsl h 11 rfl (fun b => rfl) (fun b H' h' => ?_); skip) | (refine New_ob h (fun b H' h' => ?_); skip) | (refine New_qob h (fun b H' h' => ?_); skip))
      | ((with_reducible show St _ _); first | (refine sg.st (h.front 0) rfl rfl (fun H' h' => ?_); skip) | (refine sg.st (h.front 1) rfl rfl (fun H' h' => ?_); skip) | (refine sg.st (h.front 2) rfl rfl (fun H' h' => ?_); skip) | (refine sg.st (h.front 3) rfl rfl (fun H' h' => ?_); skip) | (refine sg.st (h.front 4) rfl rfl (fun H' h' => ?_); skip) | (refine sg.st (h.front 5) rfl rfl (fun H' h' => ?_); skip) | (refine sg.st (h.front 6) rfl rfl (fun H' h' => ?_); skip) | (refine sg.st (h.front 7) rfl rfl (fun H' h' => ?_); skip))
      | ((with_reducible show Gate _ _ _); refine Gate.intro (fun g => ?_) (fun g => ?_) <;> (try subst g))
      ) <;> ((try ((try simp only [row, En.l, Ky.l, Ac.l, front_eq] at h'); (try simp only [front_eq, fronts_nil, fronts_cons, List.getElem?_cons_zero, List.getElem?_cons_succ, List.eraseIdx_cons_zero, List.eraseIdx_cons_succ, List.cons_append, List.nil_append, putL_cons, putL_nil, List.set_cons_zero, List.set_cons_succ, Nat.reduceAdd] at h'); clear h; have h := h'; clear h'; (try have fc := h.ci 0 rfl); (try have fl := h.li 0 rfl); (try have fc := h.ci 1 rfl); (try have fl := h.li 1 rfl); (try have fc := h.ci 2 rfl); (try have fl := h.li 2 rfl); (try have fc := h.ci 3 rfl); (try have fl := h.li 3 rfl); (try have fc := h.ci 4 rfl); (try have fl := h.li 4 rfl); (try have fc := h.ci 5 rfl); (try have fl := h.li 5 rfl); (try have fc := h.ci 6 rfl); (try have fl := h.li 6 rfl); (try have fc := h.ci 7 rfl); (try have fl := h.li 7 rfl))); ((try simp only [S, TY, reduceCtorEq, nq0, nq1, nq2, nq3, nq4, iq0, iq1, iq2, iq3, iq4, iq5, iq6, iq7, iq8, *]); (try (simp (disch := omega) only [W2, Int.cast_ofNat_Int]; (try simp only [S, TY, reduceCtorEq, nq0, nq1, nq2, nq3, nq4, iq0, iq1, iq2, iq3, iq4, iq5, iq6, iq7, iq8, *]))); repeat ((first | (refine cl_drawi 5 D108_5 (List.range 7) (by decide) (by kernel_rfl) ?_; unfold D108_5) | (refine cl_drawi 6 D108_6 (List.range 18) (by decide) (by kernel_rfl) ?_; unfold D108_6)); simp only [S, TY, reduceCtorEq, nq0, nq1, nq2, nq3, nq4, iq0, iq1, iq2, iq3, iq4, iq5, iq6, iq7, iq8, *]; (try (simp (disch := omega) only [W2, Int.cast_ofNat_Int]; (try simp only [S, TY, reduceCtorEq, nq0, nq1, nq2, nq3, nq4, iq0, iq1, iq2, iq3, iq4, iq5, iq6, iq7, iq8, *])))))))))
  refine cl_loop (fun i e H => i ≤ l.length ∧ e 0 = .slice a l.length c ∧ e 7 = .int .i64 (i : Nat) ∧ ((e 6 = .int .i64 (-1) ∧ best kk (fits k) none (l.take i) = none) ∨ ∃ (j : Nat) (hj : j < l.length), e 6 = .int .i64 j ∧ best kk (fits k) none (l.take i) = some l[j]) ∧
    ∃ p q, e 4 = .pointer (some ⟨p, 0, none⟩) ∧ e 3 = .pointer (some ⟨q, 0, none⟩) ∧ sg G [ob p (.cells (⟨0, 0, 0, 0⟩ : Ac).l.toArray 211 (0, 0)), ob q (.cells k.l.toArray 214 (0, 0))] H) (fun i : Nat => l.length - i) 0
    ⟨by omega, rfl, rfl, .inl ⟨rfl, rfl⟩, _, _, rfl, rfl, h⟩ ?_
  clear h
  rintro i e H ⟨q1, q0, q7, qb, p, q, q4, q3, h⟩
  by_cases g1 : (i : Int) < l.length
  · obtain ⟨b, off, hl, rfl, hc, hld⟩ := hv.el En.len (i := i) (by omega) (by omega)
    have g0 : (0 : Int) ≤ i ∧ (i : Int) < l.length := ⟨by omega, g1⟩
    have el := h.rold hld
    have c0 := h.roc (hc 0 (by decide))
    simp only [Nat.add_zero, List.getElem?_cons_zero] at c0
    clear hc
    have fk := h.li 1 rfl
    have hs : l.take (i + 1) = l.take i ++ [l[i]] := by rw [List.take_add_one, List.getElem?_eq_getElem hl]; rfl
    have hb := best_app (p := fits k) (o := none) (l.take i) [l[i]]
    rw [← hs, best_cons] at hb
    ((try simp only [S, TY, reduceCtorEq, nq0, nq1, nq2, nq3, nq4, iq0, iq1, iq2, iq3, iq4, iq5, iq6, iq7, iq8, q0, q3, q7, g1, g0, el, fk]); (try (simp (disch := omega) only [W2, Int.cast_ofNat_Int]; (try simp only [S, TY, reduceCtorEq, nq0, nq1, nq2, nq3, nq4, iq0, iq1, iq2, iq3, iq4, iq5, iq6, iq7, iq8, q0, q3, q7, g1, g0, el, fk]))); repeat ((first | (refine cl_drawi 5 D108_5 (List.range 7) (by decide) (by kernel_rfl) ?_; unfold D108_5) | (refine cl_drawi 6 D108_6 (List.range 18) (by decide) (by kernel_rfl) ?_; unfold D108_6)); simp only [S, TY, reduceCtorEq, nq0, nq1, nq2, nq3, nq4, iq0, iq1, iq2, iq3, iq4, iq5, iq6, iq7, iq8, q0, q3, q7, g1, g0, el, fk]; (try (simp (disch := omega) only [W2, Int.cast_ofNat_Int]; (try simp only [S, TY, reduceCtorEq, nq0, nq1, nq2, nq3, nq4, iq0, iq1, iq2, iq3, iq4, iq5, iq6, iq7, iq8, q0, q3, q7, g1, g0, el, fk])))))
    refine (dFits_ok l[i] k).at_ h [] _ rfl (fun r B H' hr h' => ?_)
    obtain ⟨rfl, rfl⟩ := hr
    clear el c0
    cases hf : fits k l[i] with
    | false =>
      ((try simp only [S, TY, reduceCtorEq, nq0, nq1, nq2, nq3, nq4, iq0, iq1, iq2, iq3, iq4, iq5, iq6, iq7, iq8, q0, q3, q7, hf]); (try (simp (disch := omega) only [W2, Int.cast_ofNat_Int]; (try simp only [S, TY, reduceCtorEq, nq0, nq1, nq2, nq3, nq4, iq0, iq1, iq2, iq3, iq4, iq5, iq6, iq7, iq8, q0, q3, q7, hf]))); repeat ((first | (refine cl_drawi 5 D108_5 (List.range 7) (by decide) (by kernel_rfl) ?_; unfold D108_5) | (refine cl_drawi 6 D108_6 (List.range 18) (by decide) (by kernel_rfl) ?_; unfold D108_6)); simp only [S, TY, reduceCtorEq, nq0, nq1, nq2, nq3, nq4, iq0, iq1, iq2, iq3, iq4, iq5, iq6, iq7, iq8, q0, q3, q7, hf]; (try (simp (disch := omega) only [W2, Int.cast_ofNat_Int]; (try simp only [S, TY, reduceCtorEq, nq0, nq1, nq2, nq3, nq4, iq0, iq1, iq2, iq3, iq4, iq5, iq6, iq7, iq8, q0, q3, q7, hf])))))
      rw [hf] at hb
      rcases qb with ⟨q6, hn⟩ | ⟨j, hj, q6, hn⟩
      · refine .go (i + 1) (by omega) ⟨by omega, q0, rfl, .inl ⟨q6, ?_⟩, p, q, q4, q3, h'⟩
        rw [hb, hn]; simp [best]
      · refine .go (i + 1) (by omega) ⟨by omega, q0, rfl, .inr ⟨j, hj, q6, ?_⟩, p, q, q4, q3, h'⟩
        rw [hb, hn]; simp [best]
    | true =>
      rw [hf] at hb
      rcases qb with ⟨q6, hn⟩ | ⟨j, hj, q6, hn⟩
      · ((try simp only [S, TY, reduceCtorEq, nq0, nq1, nq2, nq3, nq4, iq0, iq1, iq2, iq3, iq4, iq5, iq6, iq7, iq8, q0, q3, q6, q7, hf]); (try (simp (disch := omega) only [W2, Int.cast_ofNat_Int]; (try simp only [S, TY, reduceCtorEq, nq0, nq1, nq2, nq3, nq4, iq0, iq1, iq2, iq3, iq4, iq5, iq6, iq7, iq8, q0, q3, q6, q7, hf]))); repeat ((first | (refine cl_drawi 5 D108_5 (List.range 7) (by decide) (by kernel_rfl) ?_; unfold D108_5) | (refine cl_drawi 6 D108_6 (List.range 18) (by decide) (by kernel_rfl) ?_; unfold D108_6)); simp only [S, TY, reduceCtorEq, nq0, nq1, nq2, nq3, nq4, iq0, iq1, iq2, iq3, iq4, iq5, iq6, iq7, iq8, q0, q3, q6, q7, hf]; (try (simp (disch := omega) only [W2, Int.cast_ofNat_Int]; (try simp only [S, TY, reduceCtorEq, nq0, nq1, nq2, nq3, nq4, iq0, iq1, iq2, iq3, iq4, iq5, iq6, iq7, iq8, q0, q3, q6, q7, hf])))))
        refine .go (i + 1) (by omega) ⟨by omega, q0, rfl, .inr ⟨i, hl, rfl, ?_⟩, p, q, q4, q3, h'⟩
        rw [hb, hn]; simp [best]
      · obtain ⟨b, off, hl, z, hc, -⟩ := hv.el En.len (i := i) (by omega) (by omega)
        cases z
        have c0 := h'.roc (hc 0 (by decide))
        obtain ⟨b, off, hl', z, hc', -⟩ := hv.el En.len (i := j) (by omega) (by omega)
        cases z
        have c1 := h'.roc (hc' 0 (by decide))
        simp only [Nat.add_zero, List.getElem?_cons_zero] at c0 c1
        have g2 : (0 : Int) ≤ j ∧ (j : Int) < l.length := by omega
        have g3 : ¬ ((j : Int) < 0) := by omega
        ((try simp only [S, TY, reduceCtorEq, nq0, nq1, nq2, nq3, nq4, iq0, iq1, iq2, iq3, iq4, iq5, iq6, iq7, iq8, q0, q3, q6, q7, hf, c0, c1, g0, g2, g3]); (try (simp (disch := omega) only [W2, Int.cast_ofNat_Int]; (try simp only [S, TY, reduceCtorEq, nq0, nq1, nq2, nq3, nq4, iq0, iq1, iq2, iq3, iq4, iq5, iq6, iq7, iq8, q0, q3, q6, q7, hf, c0, c1, g0, g2, g3]))); repeat ((first | (refine cl_drawi 5 D108_5 (List.range 7) (by decide) (by kernel_rfl) ?_; unfold D108_5) | (refine cl_drawi 6 D108_6 (List.range 18) (by decide) (by kernel_rfl) ?_; unfold D108_6)); simp only [S, TY, reduceCtorEq, nq0, nq1, nq2, nq3, nq4, iq0, iq1, iq2, iq3, iq4, iq5, iq6, iq7, iq8, q0, q3, q6, q7, hf, c0, c1, g0, g2, g3]; (try (simp (disch := omega) only [W2, Int.cast_ofNat_Int]; (try simp only [S, TY, reduceCtorEq, nq0, nq1, nq2, nq3, nq4, iq0, iq1, iq2, iq3, iq4, iq5, iq6, iq7, iq8, q0, q3, q6, q7, hf, c0, c1, g0, g2, g3])))))
        by_cases g4 : l[j].prio < l[i].prio
        · ((try simp only [S, TY, reduceCtorEq, nq0, nq1, nq2, nq3, nq4, iq0, iq1, iq2, iq3, iq4, iq5, iq6, iq7, iq8, q0, q3, q6, q7, g4]); (try (simp (disch := omega) only [W2, Int.cast_ofNat_Int]; (try simp only [S, TY, reduceCtorEq, nq0, nq1, nq2, nq3, nq4, iq0, iq1, iq2, iq3, iq4, iq5, iq6, iq7, iq8, q0, q3, q6, q7, g4]))); repeat ((first | (refine cl_drawi 5 D108_5 (List.range 7) (by decide) (by kernel_rfl) ?_; unfold D108_5) | (refine cl_drawi 6 D108_6 (List.range 18) (by decide) (by kernel_rfl) ?_; unfold D108_6)); simp only [S, TY, reduceCtorEq, nq0, nq1, nq2, nq3, nq4, iq0, iq1, iq2, iq3, iq4, iq5, iq6, iq7, iq8, q0, q3, q6, q7, g4]; (try (simp (disch := omega) only [W2, Int.cast_ofNat_Int]; (try simp only [S, TY, reduceCtorEq, nq0, nq1, nq2, nq3, nq4, iq0, iq1, iq2, iq3, iq4, iq5, iq6, iq7, iq8, q0, q3, q6, q7, g4])))))
          refine .go (i + 1) (by omega) ⟨by omega, q0, rfl, .inr ⟨i, hl, rfl, ?_⟩, p, q, q4, q3, h'⟩
          rw [hb, hn, if_pos ⟨rfl, fun y hy => by cases hy; unfold kk; omega⟩]; rfl
        · ((try simp only [S, TY, reduceCtorEq, nq0, nq1, nq2, nq3, nq4, iq0, iq1, iq2, iq3, iq4, iq5, iq6, iq7, iq8, q0, q3, q6, q7, g4]); (try (simp (disch := omega) only [W2, Int.cast_ofNat_Int]; (try simp only [S, TY, reduceCtorEq, nq0, nq1, nq2, nq3, nq4, iq0, iq1, iq2, iq3, iq4, iq5, iq6, iq7, iq8, q0, q3, q6, q7, g4]))); repeat ((first | (refine cl_drawi 5 D108_5 (List.range 7) (by decide) (by kernel_rfl) ?_; unfold D108_5) | (refine cl_drawi 6 D108_6 (List.range 18) (by decide) (by kernel_rfl) ?_; unfold D108_6)); simp only [S, TY, reduceCtorEq, nq0, nq1, nq2, nq3, nq4, iq0, iq1, iq2, iq3, iq4, iq5, iq6, iq7, iq8, q0, q3, q6, q7, g4]; (try (simp (disch := omega) only [W2, Int.cast_ofNat_Int]; (try simp only [S, TY, reduceCtorEq, nq0, nq1, nq2, nq3, nq4, iq0, iq1, iq2, iq3, iq4, iq5, iq6, iq7, iq8, q0, q3, q6, q7, g4])))))
          refine .go (i + 1) (by omega) ⟨by omega, q0, rfl, .inr ⟨j, hj, q6, ?_⟩, p, q, q4, q3, h'⟩
          rw [hb, hn, if_neg (fun z => g4 (by have := z.2 _ rfl; unfold kk at this; omega))]; rfl
  · rw [List.take_of_length_le (by omega)] at qb
    rcases qb with ⟨q6, hn⟩ | ⟨j, hj, q6, hn⟩
    · have hlook : lookT k l = (⟨0, 0, 0, 0⟩, false) := by unfold lookT; rw [hn]
      rw [hlook]
      ((try simp only [S, TY, reduceCtorEq, nq0, nq1, nq2, nq3, nq4, iq0, iq1, iq2, iq3, iq4, iq5, iq6, iq7, iq8, q0, q3, q4, q6, q7, g1]); (try (simp (disch := omega) only [W2, Int.cast_ofNat_Int]; (try simp only [S, TY, reduceCtorEq, nq0, nq1, nq2, nq3, nq4, iq0, iq1, iq2, iq3, iq4, iq5, iq6, iq7, iq8, q0, q3, q4, q6, q7, g1]))); repeat ((first | (refine cl_drawi 5 D108_5 (List.range 7) (by decide) (by kernel_rfl) ?_; unfold D108_5) | (refine cl_drawi 6 D108_6 (List.range 18) (by decide) (by kernel_rfl) ?_; unfold D108_6)); simp only [S, TY, reduceCtorEq, nq0, nq1, nq2, nq3, nq4, iq0, iq1, iq2, iq3, iq4, iq5, iq6, iq7, iq8, q0, q3, q4, q6, q7, g1]; (try (simp (disch := omega) only [W2, Int.cast_ofNat_Int]; (try simp only [S, TY, reduceCtorEq, nq0, nq1, nq2, nq3, nq4, iq0, iq1, iq2, iq3, iq4, iq5, iq6, iq7, iq8, q0, q3, q4, q6, q7, g1])))))
      repeat' (((first
          | ((with_reducible show fin _ _ _); first | (exact fin_take (B := []) h ⟨rfl, rfl⟩))
          | ((with_reducible show New _ _ _); first | (refine New_sl h 11 rfl (fun b H' h' => ?_); skip) | (refine New_qsl h 11 rfl (fun b => rfl) (fun b H' h' => ?_); skip) | (refine New_ob h (fun b H' h' => ?_); skip) | (refine New_qob h (fun b H' h' => ?_); skip))
          | ((with_reducible show St _ _); first | (refine sg.st (h.front 0) rfl rfl (fun H' h' => ?_); skip) | (refine sg.st (h.front 1) rfl rfl (fun H' h' => ?_); skip) | (refine sg.st (h.front 2) rfl rfl (fun H' h' => ?_); skip) | (refine sg.st (h.front 3) rfl rfl (fun H' h' => ?_); skip) | (refine sg.st (h.front 4) rfl rfl (fun H' h' => ?_); skip) | (refine sg.st (h.front 5) rfl rfl (fun H' h' => ?_); skip) | (refine sg.st (h.front 6) rfl rfl (fun H' h' => ?_); skip) | (refine sg.st (h.front 7) rfl rfl (fun H' h' => ?_); skip))
          | ((with_reducible show Gate _ _ _); refine Gate.intro (fun g => ?_) (fun g => ?_) <;> (try subst g))
          ) <;> ((try ((try simp only [row, En.l, Ky.l, Ac.l, front_eq] at h'); (try simp only [front_eq, fronts_nil, fronts_cons, List.getElem?_cons_zero, List.getElem?_cons_succ, List.eraseIdx_cons_zero, List.eraseIdx_cons_succ, List.cons_append, List.nil_append, putL_cons, putL_nil, List.set_cons_zero, List.set_cons_succ, Nat.reduceAdd] at h'); clear h; have h := h'; clear h'; (try have fc := h.ci 0 rfl); (try have fl := h.li 0 rfl); (try have fc := h.ci 1 rfl); (try have fl := h.li 1 rfl); (try have fc := h.ci 2 rfl); (try have fl := h.li 2 rfl); (try have fc := h.ci 3 rfl); (try have fl := h.li 3 rfl); (try have fc := h.ci 4 rfl); (try have fl := h.li 4 rfl); (try have fc := h.ci 5 rfl); (try have fl := h.li 5 rfl); (try have fc := h.ci 6 rfl); (try have fl := h.li 6 rfl); (try have fc := h.ci 7 rfl); (try have fl := h.li 7 rfl))); ((try simp only [S, TY, reduceCtorEq, nq0, nq1, nq2, nq3, nq4, iq0, iq1, iq2, iq3, iq4, iq5, iq6, iq7, iq8, q0, q3, q4, q6, q7, *]); (try (simp (disch := omega) only [W2, Int.cast_ofNat_Int]; (try simp only [S, TY, reduceCtorEq, nq0, nq1, nq2, nq3, nq4, iq0, iq1, iq2, iq3, iq4, iq5, iq6, iq7, iq8, q0, q3, q4, q6, q7, *]))); repeat ((first | (refine cl_drawi 5 D108_5 (List.range 7) (by decide) (by kernel_rfl) ?_; unfold D108_5) | (refine cl_drawi 6 D108_6 (List.range 18) (by decide) (by kernel_rfl) ?_; unfold D108_6)); simp only [S, TY, reduceCtorEq, nq0, nq1, nq2, nq3, nq4, iq0, iq1, iq2, iq3, iq4, iq5, iq6, iq7, iq8, q0, q3, q4, q6, q7, *]; (try (simp (disch := omega) only [W2, Int.cast_ofNat_Int]; (try simp only [S, TY, reduceCtorEq, nq0, nq1, nq2, nq3, nq4, iq0, iq1, iq2, iq3, iq4, iq5, iq6, iq7, iq8, q0, q3, q4, q6, q7, *]))))))))
    · have hlook : lookT k l = (act l[j], true) := by unfold lookT; rw [hn]
      rw [hlook]
      have h0 : ¬ ((j : Int) < 0) := by omega
      obtain ⟨bl, off, rfl, hjn, el⟩ := rdAct (h.ro hv) hj
      have b1 : (0 : Int) ≤ (j : Nat) ∧ ((j : Nat) : Int) < l.length := by omega
      ((try simp only [S, TY, reduceCtorEq, nq0, nq1, nq2, nq3, nq4, iq0, iq1, iq2, iq3, iq4, iq5, iq6, iq7, iq8, q0, q3, q4, q6, q7, g1, h0, b1, el]); (try (simp (disch := omega) only [W2, Int.cast_ofNat_Int]; (try simp only [S, TY, reduceCtorEq, nq0, nq1, nq2, nq3, nq4, iq0, iq1, iq2, iq3, iq4, iq5, iq6, iq7, iq8, q0, q3, q4, q6, q7, g1, h0, b1, el]))); repeat ((first | (refine cl_drawi 5 D108_5 (List.range 7) (by decide) (by kernel_rfl) ?_; unfold D108_5) | (refine cl_drawi 6 D108_6 (List.range 18) (by decide) (by kernel_rfl) ?_; unfold D108_6)); simp only [S, TY, reduceCtorEq, nq0, nq1, nq2, nq3, nq4, iq0, iq1, iq2, iq3, iq4, iq5, iq6, iq7, iq8, q0, q3, q4, q6, q7, g1, h0, b1, el]; (try (simp (disch := omega) only [W2, Int.cast_ofNat_Int]; (try simp only [S, TY, reduceCtorEq, nq0, nq1, nq2, nq3, nq4, iq0, iq1, iq2, iq3, iq4, iq5, iq6, iq7, iq8, q0, q3, q4, q6, q7, g1, h0, b1, el])))))
      repeat' (((first
          | ((with_reducible show fin _ _ _); first | (exact fin_take (B := []) h ⟨rfl, rfl⟩))
          | ((with_reducible show New _ _ _); first | (refine New_sl h 11 rfl (fun b H' h' => ?_); skip) | (refine New_qsl h 11 rfl (fun b => rfl) (fun b H' h' => ?_); skip) | (refine New_ob h (fun b H' h' => ?_); skip) | (refine New_qob h (fun b H' h' => ?_); skip))
          | ((with_reducible show St _ _); first | (refine sg.st (h.front 0) rfl rfl (fun H' h' => ?_); skip) | (refine sg.st (h.front 1) rfl rfl (fun H' h' => ?_); skip) | (refine sg.st (h.front 2) rfl rfl (fun H' h' => ?_); skip) | (refine sg.st (h.front 3) rfl rfl (fun H' h' => ?_); skip) | (refine sg.st (h.front 4) rfl rfl (fun H' h' => ?_); skip) | (refine sg.st (h.front 5) rfl rfl (fun H' h' => ?_); skip) | (refine sg.st (h.front 6) rfl rfl (fun H' h' => ?_); skip) | (refine sg.st (h.front 7) rfl rfl (fun H' h' => ?_); skip))
          | ((with_reducible show Gate _ _ _); refine Gate.intro (fun g => ?_) (fun g => ?_) <;> (try subst g))
          ) <;> ((try ((try simp only [row, En.l, Ky.l, Ac.l, front_eq] at h'); (try simp only [front_eq, fronts_nil, fronts_cons, List.getElem?_cons_zero, List.getElem?_cons_succ, List.eraseIdx_cons_zero, List.eraseIdx_cons_succ, List.cons_append, List.nil_append, putL_cons, putL_nil, List.set_cons_zero, List.set_cons_succ, Nat.reduceAdd] at h'); clear h; have h := h'; clear h'; (try have fc := h.ci 0 rfl); (try have fl := h.li 0 rfl); (try have fc := h.ci 1 rfl); (try have fl := h.li 1 rfl); (try have fc := h.ci 2 rfl); (try have fl := h.li 2 rfl); (try have fc := h.ci 3 rfl); (try have fl := h.li 3 rfl); (try have fc := h.ci 4 rfl); (try have fl := h.li 4 rfl); (try have fc := h.ci 5 rfl); (try have fl := h.li 5 rfl); (try have fc := h.ci 6 rfl); (try have fl := h.li 6 rfl); (try have fc := h.ci 7 rfl); (try have fl := h.li 7 rfl))); ((try simp only [S, TY, reduceCtorEq, nq0, nq1, nq2, nq3, nq4, iq0, iq1, iq2, iq3, iq4, iq5, iq6, iq7, iq8, q0, q3, q4, q6, q7, h0, b1, el, *]); (try (simp (disch := omega) only [W2, Int.cast_ofNat_Int]; (try simp only [S, TY, reduceCtorEq, nq0, nq1, nq2, nq3, nq4, iq0, iq1, iq2, iq3, iq4, iq5, iq6, iq7, iq8, q0, q3, q4, q6, q7, h0, b1, el, *]))); repeat ((first | (refine cl_drawi 5 D108_5 (List.range 7) (by decide) (by kernel_rfl) ?_; unfold D108_5) | (refine cl_drawi 6 D108_6 (List.range 18) (by decide) (by kernel_rfl) ?_; unfold D108_6)); simp only [S, TY, reduceCtorEq, nq0, nq1, nq2, nq3, nq4, iq0, iq1, iq2, iq3, iq4, iq5, iq6, iq7, iq8, q0, q3, q4, q6, q7, h0, b1, el, *]; (try (simp (disch := omega) only [W2, Int.cast_ofNat_Int]; (try simp only [S, TY, reduceCtorEq, nq0, nq1, nq2, nq3, nq4, iq0, iq1, iq2, iq3, iq4, iq5, iq6, iq7, iq8, q0, q3, q4, q6, q7, h0, b1, el, *]))))))))
end Go.Proofs.Ytanhmbdcdbcfmaa.FlD
