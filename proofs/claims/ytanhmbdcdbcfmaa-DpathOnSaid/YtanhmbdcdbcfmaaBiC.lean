/- Rows bound at a chassis: the entries of rows. -/
import Derived.Test.YtanhmbdcdbcfmaaBi
set_option linter.unusedVariables false
set_option linter.unusedSimpArgs false
set_option maxRecDepth 10000
set_option maxHeartbeats 1000000
namespace Go.Proofs.Ytanhmbdcdbcfmaa.BiC
open Nat renaming reduceEqDiff → nq0, reduceAdd → nq1, reduceLeDiff → nq2, reduceBEq → nq3, reduceMul → nq4
open Int renaming reduceBEq → iq0, reduceEq → iq1, reduceLT → iq2, reduceLE → iq3, reduceAdd → iq4, reduceSub → iq5, reduceMul → iq6, reduceToNat → iq7, cast_ofNat_Int → iq8
open Go Go.Sl Go.Proofs Go.Proofs.Ytanhmbdcdbcfmaa.So Go.Proofs.Ytanhmbdcdbcfmaa.SoI Go.Proofs.Ytanhmbdcdbcfmaa.SoR Go.Proofs.Ytanhmbdcdbcfmaa.SoM Go.Proofs.Ytanhmbdcdbcfmaa.SoS Go.Proofs.Ytanhmbdcdbcfmaa.Fl Go.Proofs.Ytanhmbdcdbcfmaa.FlT Go.Proofs.Ytanhmbdcdbcfmaa.FlD Go.Proofs.Ytanhmbdcdbcfmaa.Ph Go.Proofs.Ytanhmbdcdbcfmaa.Bi
theorem TY : aggN Try.prog 3 = some none ∧
  aggN Try.prog 22 = some none ∧
  aggN Try.prog 46 = some none ∧
  aggN Try.prog 49 = some none ∧
  aggN Try.prog 189 = some none ∧
  aggN Try.prog 191 = some (some 9) ∧
  aggN Try.prog 194 = some (some 4) ∧
  aggN Try.prog 196 = some (some 11) ∧
  apI Try.prog 22 = some (196, 11, 88) ∧
  apI Try.prog 46 = some (191, 9, 72) ∧
  bIs Try.prog 191 = true ∧
  bIs Try.prog 194 = true ∧
  bIs Try.prog 196 = true ∧
  csz Try.prog 3 = some 1 ∧
  csz Try.prog 22 = some 1 ∧
  csz Try.prog 46 = some 1 ∧
  csz Try.prog 49 = some 1 ∧
  csz Try.prog 189 = some 1 ∧
  csz Try.prog 191 = some 9 ∧
  csz Try.prog 194 = some 4 ∧
  csz Try.prog 196 = some 11 ∧
  eqF Try.prog 191 = some [.i, .i, .i, .i, .i, .i, .i, .i, .i] ∧
  eqF Try.prog 194 = some [.i, .i, .i, .i] ∧
  eqF Try.prog 196 = some [.i, .i, .i, .i, .i, .i, .i, .i, .i, .i, .i] ∧
  fIs Try.prog 191 0 = true ∧
  fIs Try.prog 191 1 = true ∧
  fIs Try.prog 191 2 = true ∧
  fIs Try.prog 191 4 = true ∧
  fIs Try.prog 191 5 = true ∧
  fIs Try.prog 191 6 = true ∧
  fOff Try.prog 191 0 = 0 ∧
  fOff Try.prog 191 1 = 1 ∧
  fOff Try.prog 191 2 = 2 ∧
  fOff Try.prog 191 4 = 4 ∧
  fOff Try.prog 191 5 = 5 ∧
  fOff Try.prog 191 6 = 6 ∧
  fTy Try.prog 191 0 = 3 ∧
  fTy Try.prog 191 1 = 49 ∧
  fTy Try.prog 191 2 = 3 ∧
  fTy Try.prog 191 4 = 3 ∧
  fTy Try.prog 191 5 = 3 ∧
  fTy Try.prog 191 6 = 189 ∧
  goes Try.prog 176 = true ∧
  inIs Try.prog 3 = some .i64 ∧
  inIs Try.prog 49 = some .u64 ∧
  inIs Try.prog 189 = some .i64 ∧
  plcs Try.prog 191 = [(0, 1), (1, 1), (2, 1), (3, 1), (4, 1), (5, 1), (6, 1), (7, 1), (8, 1)] ∧
  plcs Try.prog 194 = [(0, 1), (1, 1), (2, 1), (3, 1)] ∧
  plcs Try.prog 196 = [(0, 1), (1, 1), (2, 1), (3, 1), (4, 1), (5, 1), (6, 1), (7, 4)] ∧
  slEl Try.prog 22 = 196 ∧
  slEl Try.prog 46 = 191 ∧
  slIs Try.prog 22 = true ∧
  slIs Try.prog 46 = true ∧
  slSz Try.prog 22 = 11 ∧
  slSz Try.prog 46 = 9 ∧
  zcs Try.prog 191 = [.int .i64 0, .int .u64 0, .int .i64 0, .int .i64 0, .int .i64 0, .int .i64 0, .int .i64 0, .int .i64 0, .int .i64 0] ∧
  zcs Try.prog 194 = [.int .i64 0, .int .i64 0, .int .i64 0, .int .i64 0] ∧
  zcs Try.prog 196 = [.int .i64 0, .int .i64 0, .int .u64 0, .int .i64 0, .int .i64 0, .int .i64 0, .int .i64 0, .int .i64 0, .int .i64 0, .int .i64 0, .int .i64 0] ∧
  zro Try.prog 3 = some (.int .i64 0) ∧
  zro Try.prog 22 = some (.slice none 0 0) ∧
  zro Try.prog 46 = some (.slice none 0 0) ∧
  zro Try.prog 49 = some (.int .u64 0) ∧
  zro Try.prog 189 = some (.int .i64 0) ∧
  zro Try.prog 191 = some (.agg #[.int .i64 0, .int .u64 0, .int .i64 0, .int .i64 0, .int .i64 0, .int .i64 0, .int .i64 0, .int .i64 0, .int .i64 0]) ∧
  zro Try.prog 194 = some (.agg #[.int .i64 0, .int .i64 0, .int .i64 0, .int .i64 0]) ∧
  zro Try.prog 196 = some (.agg #[.int .i64 0, .int .i64 0, .int .u64 0, .int .i64 0, .int .i64 0, .int .i64 0, .int .i64 0, .int .i64 0, .int .i64 0, .int .i64 0, .int .i64 0]) :=
  ⟨by kernel_rfl, by kernel_rfl, by kernel_rfl, by kernel_rfl, by kernel_rfl, by kernel_rfl, by kernel_rfl, by kernel_rfl, by kernel_rfl, by kernel_rfl, by kernel_rfl, by kernel_rfl, by kernel_rfl, by kernel_rfl, by kernel_rfl, by kernel_rfl, by kernel_rfl, by kernel_rfl, by kernel_rfl, by kernel_rfl, by kernel_rfl, by kernel_rfl, by kernel_rfl, by kernel_rfl, by kernel_rfl, by kernel_rfl, by kernel_rfl, by kernel_rfl, by kernel_rfl, by kernel_rfl, by kernel_rfl, by kernel_rfl, by kernel_rfl, by kernel_rfl, by kernel_rfl, by kernel_rfl, by kernel_rfl, by kernel_rfl, by kernel_rfl, by kernel_rfl, by kernel_rfl, by kernel_rfl, by kernel_rfl, by kernel_rfl, by kernel_rfl, by kernel_rfl, by kernel_rfl, by kernel_rfl, by kernel_rfl, by kernel_rfl, by kernel_rfl, by kernel_rfl, by kernel_rfl, by kernel_rfl, by kernel_rfl, by kernel_rfl, by kernel_rfl, by kernel_rfl, by kernel_rfl, by kernel_rfl, by kernel_rfl, by kernel_rfl, by kernel_rfl, by kernel_rfl, by kernel_rfl, by kernel_rfl⟩
def ent (r : Rw) (ins not_ kind : Int) : En := ⟨1, ins, r.mac, r.port, 0, r.gen, not_, kind, r.port, r.own, r.gen⟩
theorem entry_ok {G : Hp} (r : Rw) (a b c : Int) : Con Try.prog G 176 [r.v, .int .i64 a, .int .i64 b, .int .i64 c] [] (fun q B => q = (ent r a b c).v ∧ B = []) := by
  obtain ⟨x1, x2, x3, x4, x5, x6, x7, x8, x9⟩ := r
  refine Con.intro Try.func176 rfl (Nat.le_of_ble_eq_true (by kernel_rfl)) (by kernel_rfl) Try.results176 ?_
  intro H h
  ((try simp only [S, TY, reduceCtorEq, nq0, nq1, nq2, nq3, nq4, iq0, iq1, iq2, iq3, iq4, iq5, iq6, iq7, iq8]); (try (simp (disch := omega) only [W2, Int.cast_ofNat_Int]; (try simp only [S, TY, reduceCtorEq, nq0, nq1, nq2, nq3, nq4, iq0, iq1, iq2, iq3, iq4, iq5, iq6, iq7, iq8]))))
  repeat' (((first
      | ((with_reducible show fin _ _ _); first | (exact fin_take (B := []) h ⟨rfl, rfl⟩))
      | ((with_reducible show New _ _ _); first | (refine New_sl h 11 rfl (fun b H' h' => ?_); skip) | (refine New_qsl h 11 rfl (fun b => rfl) (fun b H' h' => ?_); skip) | (refine New_ob h (fun b H' h' => ?_); skip) | (refine New_qob h (fun b H' h' => ?_); skip))
      | ((with_reducible show St _ _); first | (refine sg.st (h.front 0) rfl rfl (fun H' h' => ?_); skip) | (refine sg.st (h.front 1) rfl rfl (fun H' h' => ?_); skip) | (refine sg.st (h.front 2) rfl rfl (fun H' h' => ?_); skip) | (refine sg.st (h.front 3) rfl rfl (fun H' h' => ?_); skip) | (refine sg.st (h.front 4) rfl rfl (fun H' h' => ?_); skip) | (refine sg.st (h.front 5) rfl rfl (fun H' h' => ?_); skip) | (refine sg.st (h.front 6) rfl rfl (fun H' h' => ?_); skip) | (refine sg.st (h.front 7) rfl rfl (fun H' h' => ?_); skip))
      | ((with_reducible show Gate _ _ _); refine Gate.intro (fun g => ?_) (fun g => ?_) <;> (try subst g))
      ) <;> ((try ((try simp only [row, En.l, Ky.l, Ac.l, Rw.l, front_eq] at h'); (try simp only [front_eq, fronts_nil, fronts_cons, List.getElem?_cons_zero, List.getElem?_cons_succ, List.eraseIdx_cons_zero, List.eraseIdx_cons_succ, List.cons_append, List.nil_append, putL_cons, putL_nil, List.set_cons_zero, List.set_cons_succ, Nat.reduceAdd] at h'); clear h; have h := h'; clear h'; (try have fc := h.ci 0 rfl); (try have fl := h.li 0 rfl); (try have fc := h.ci 1 rfl); (try have fl := h.li 1 rfl); (try have fc := h.ci 2 rfl); (try have fl := h.li 2 rfl); (try have fc := h.ci 3 rfl); (try have fl := h.li 3 rfl); (try have fc := h.ci 4 rfl); (try have fl := h.li 4 rfl); (try have fc := h.ci 5 rfl); (try have fl := h.li 5 rfl); (try have fc := h.ci 6 rfl); (try have fl := h.li 6 rfl); (try have fc := h.ci 7 rfl); (try have fl := h.li 7 rfl))); ((try simp only [S, TY, reduceCtorEq, nq0, nq1, nq2, nq3, nq4, iq0, iq1, iq2, iq3, iq4, iq5, iq6, iq7, iq8, *]); (try (simp (disch := omega) only [W2, Int.cast_ofNat_Int]; (try simp only [S, TY, reduceCtorEq, nq0, nq1, nq2, nq3, nq4, iq0, iq1, iq2, iq3, iq4, iq5, iq6, iq7, iq8, *])))))))
def comp (c : Int) (r : Rw) : List En := if r.ph = 3 then [] else if r.own = c then [ent r 7 (-2) 1] else ent r 1 (-2) 2 :: (if r.ph = 2 ∧ r.old = c then [ent r 2 r.own 2] else [])
abbrev rws (G : Hp) (v : Value) (l : List Rw) : Prop := rds G 9 v (l.flatMap Rw.l)
theorem Rw.len (x : Rw) : x.l.length = 9 := rfl
theorem comp_len (c : Int) (l : List Rw) : (l.flatMap (comp c)).length ≤ 2 * l.length := by
  induction l with
  | nil => simp
  | cons r l ih =>
    have : (comp c r).length ≤ 2 := by
      unfold comp
      (repeat' split) <;> simp
    rw [List.flatMap_cons, List.length_append, List.length_cons]; omega
theorem en1 (x : En) : ∀ v ∈ x.l, v.oneCell' = true := fun v hv => en_one [x] v (by simpa using hv)
theorem cfin {G H : Hp} {l : List Rw} {i : Nat} {c : Int} {d b : List En} {u : Value} {x : Rw} (hs2 : (l.take (i + 1)).flatMap (comp c) = d ++ comp c x) (hcc : comp c x = b) (h : sg G [own 196 11 u (d.flatMap En.l ++ b.flatMap En.l)] H) :
    sg G [own 196 11 u (((l.take (i + 1)).flatMap (comp c)).flatMap En.l)] H := by
  rw [hs2, hcc, List.flatMap_append]; exact h
theorem Compile_ok {G : Hp} {v : Value} {l : List Rw} (c : Int) (hv : rws G v l) (hll : l.length ≤ 1000) : Con Try.prog G 115 [.int .i64 c, v] [] (fun r B => B = [own 196 11 r ((l.flatMap (comp c)).flatMap En.l)]) := by
  obtain ⟨a, n, cc, rfl, e1, e2⟩ := hv.slice
  rw [flat_len Rw.len] at e1
  obtain rfl : l.length = n := by omega
  clear e1
  refine Con.intro Try.func115 rfl (Nat.le_of_ble_eq_true (by kernel_rfl)) (by kernel_rfl) Try.results115 ?_
  intro H h
  ((try simp only [S, TY, reduceCtorEq, nq0, nq1, nq2, nq3, nq4, iq0, iq1, iq2, iq3, iq4, iq5, iq6, iq7, iq8]); (try (simp (disch := omega) only [W2, Int.cast_ofNat_Int]; (try simp only [S, TY, reduceCtorEq, nq0, nq1, nq2, nq3, nq4, iq0, iq1, iq2, iq3, iq4, iq5, iq6, iq7, iq8]))))
  refine cl_loop (fun i e H => i ≤ l.length ∧ e 0 = .int .i64 c ∧ e 8 = .slice a l.length cc ∧ e 9 = .int .i64 l.length ∧ e 10 = .int .i64 (i : Nat) ∧ ∃ v, e 5 = v ∧ sg G [own 196 11 v (((l.take i).flatMap (comp c)).flatMap En.l)] H) (fun i : Nat => l.length - i) 0
    ⟨by omega, rfl, rfl, rfl, rfl, _, rfl, h.nil_ 196 11⟩ ?_
  clear h
  rintro i e H ⟨q1, q0, q8, q9, q10, v, q5, h⟩
  obtain ⟨ua, un, uc, rfl, _, _⟩ := h.sl 0 rfl Rd_own
  by_cases g1 : (i : Int) < l.length
  · obtain ⟨b, off, hl, rfl, hc, hld⟩ := hv.el Rw.len (i := i) (by omega) (by omega)
    have g0 : (0 : Int) ≤ i ∧ (i : Int) < l.length := ⟨by omega, g1⟩
    have el := h.rold hld
    clear hc
    have hs : l.take (i + 1) = l.take i ++ [l[i]] := by rw [List.take_add_one, List.getElem?_eq_getElem hl]; rfl
    have hbl := comp_len c (l.take i)
    rw [List.length_take] at hbl
    have hs2 : ((l.take (i + 1)).flatMap (comp c)) = (l.take i).flatMap (comp c) ++ comp c l[i] := by rw [hs, List.flatMap_append]; simp
    obtain ⟨x, hx⟩ : ∃ x, l[i] = x := ⟨_, rfl⟩
    rw [hx] at el hs2
    clear hx hld hs
    obtain ⟨d, hd⟩ : ∃ d, (l.take i).flatMap (comp c) = d := ⟨_, rfl⟩
    rw [hd] at h hs2 hbl
    obtain ⟨x1, x2, x3, x4, x5, x6, x7, x8, x9⟩ := x
    by_cases p1 : x7 = 3
    · subst p1
      ((try simp only [S, TY, reduceCtorEq, nq0, nq1, nq2, nq3, nq4, iq0, iq1, iq2, iq3, iq4, iq5, iq6, iq7, iq8, q0, q5, q8, q9, q10, g1, g0, el, q0]); (try (simp (disch := omega) only [W2, Int.cast_ofNat_Int]; (try simp only [S, TY, reduceCtorEq, nq0, nq1, nq2, nq3, nq4, iq0, iq1, iq2, iq3, iq4, iq5, iq6, iq7, iq8, q0, q5, q8, q9, q10, g1, g0, el, q0]))))
      repeat' (((first
          | (((with_reducible show opAppend _ _ _ _ (Value.slice ua un uc) _ _ _); refine append_sl (show apI Try.prog 22 = some (196, 11, 88) from by kernel_rfl) (show slIs Try.prog 22 = true from by kernel_rfl) (h.front 2) ((h.front 2).rdsi 1 rfl Rd_own) (en1 ⟨_, _, _, _, _, _, _, _, _, _, _⟩) (by simp only [flat_len En.len, List.length_append, List.length_cons, List.length_nil]; omega) (fun v H' h' => ?_); obtain ⟨ya, yn, yc, rfl, _, _⟩ := h'.sl 0 rfl Rd_own; skip))
          | (((with_reducible show opAppend _ _ _ _ (Value.slice ya yn yc) _ _ _); refine append_sl (show apI Try.prog 22 = some (196, 11, 88) from by kernel_rfl) (show slIs Try.prog 22 = true from by kernel_rfl) (h.front 1) ((h.front 1).rdsi 1 rfl Rd_own) (en1 ⟨_, _, _, _, _, _, _, _, _, _, _⟩) (by simp only [flat_len En.len, List.length_append, List.length_cons, List.length_nil]; omega) (fun v H' h' => ?_); obtain ⟨za, zn, zc, rfl, _, _⟩ := h'.sl 0 rfl Rd_own; skip))
          | ((with_reducible show CallsH _ _ 176 _ _ _); (refine (entry_ok ⟨_, _, _, _, _, _, _, _, _⟩ _ _ _).at_ h [] _ rfl (fun r B H' hr h' => ?_); obtain ⟨rfl, rfl⟩ := hr; simp only [ent]; skip))
          | ((with_reducible show New _ _ _); first | (refine New_sl h 11 rfl (fun b H' h' => ?_); skip) | (refine New_qsl h 11 rfl (fun b => rfl) (fun b H' h' => ?_); skip) | (refine New_ob h (fun b H' h' => ?_); skip) | (refine New_qob h (fun b H' h' => ?_); skip))
          | ((with_reducible show St _ _); first | (refine sg.st (h.front 0) rfl rfl (fun H' h' => ?_); skip) | (refine sg.st (h.front 1) rfl rfl (fun H' h' => ?_); skip) | (refine sg.st (h.front 2) rfl rfl (fun H' h' => ?_); skip) | (refine sg.st (h.front 3) rfl rfl (fun H' h' => ?_); skip) | (refine sg.st (h.front 4) rfl rfl (fun H' h' => ?_); skip) | (refine sg.st (h.front 5) rfl rfl (fun H' h' => ?_); skip) | (refine sg.st (h.front 6) rfl rfl (fun H' h' => ?_); skip) | (refine sg.st (h.front 7) rfl rfl (fun H' h' => ?_); skip))
          | ((with_reducible show Gate _ _ _); refine Gate.intro (fun g => ?_) (fun g => ?_) <;> (try subst g))
          ) <;> ((try ((try simp only [row, En.l, Ky.l, Ac.l, Rw.l, front_eq] at h'); (try simp only [front_eq, fronts_nil, fronts_cons, List.getElem?_cons_zero, List.getElem?_cons_succ, List.eraseIdx_cons_zero, List.eraseIdx_cons_succ, List.cons_append, List.nil_append, putL_cons, putL_nil, List.set_cons_zero, List.set_cons_succ, Nat.reduceAdd] at h'); clear h; have h := h'; clear h'; (try have fc := h.ci 0 rfl); (try have fl := h.li 0 rfl); (try have fc := h.ci 1 rfl); (try have fl := h.li 1 rfl); (try have fc := h.ci 2 rfl); (try have fl := h.li 2 rfl); (try have fc := h.ci 3 rfl); (try have fl := h.li 3 rfl); (try have fc := h.ci 4 rfl); (try have fl := h.li 4 rfl); (try have fc := h.ci 5 rfl); (try have fl := h.li 5 rfl); (try have fc := h.ci 6 rfl); (try have fl := h.li 6 rfl); (try have fc := h.ci 7 rfl); (try have fl := h.li 7 rfl))); ((try simp only [S, TY, reduceCtorEq, nq0, nq1, nq2, nq3, nq4, iq0, iq1, iq2, iq3, iq4, iq5, iq6, iq7, iq8, q0, q5, q8, q9, q10, q0, *]); (try (simp (disch := omega) only [W2, Int.cast_ofNat_Int]; (try simp only [S, TY, reduceCtorEq, nq0, nq1, nq2, nq3, nq4, iq0, iq1, iq2, iq3, iq4, iq5, iq6, iq7, iq8, q0, q5, q8, q9, q10, q0, *])))))))
      refine .go (i + 1) (by omega) ⟨by omega, q0, q8, q9, rfl, _, q5, cfin hs2 (b := []) (by simp [comp]) ?_⟩
      rw [List.flatMap_nil, List.append_nil]
      exact (h.front 1).take1
    · by_cases p2 : x3 = c
      · subst p2
        ((try simp only [S, TY, reduceCtorEq, nq0, nq1, nq2, nq3, nq4, iq0, iq1, iq2, iq3, iq4, iq5, iq6, iq7, iq8, q0, q5, q8, q9, q10, g1, g0, el, p1]); (try (simp (disch := omega) only [W2, Int.cast_ofNat_Int]; (try simp only [S, TY, reduceCtorEq, nq0, nq1, nq2, nq3, nq4, iq0, iq1, iq2, iq3, iq4, iq5, iq6, iq7, iq8, q0, q5, q8, q9, q10, g1, g0, el, p1]))))
        repeat' (((first
            | (((with_reducible show opAppend _ _ _ _ (Value.slice ua un uc) _ _ _); refine append_sl (show apI Try.prog 22 = some (196, 11, 88) from by kernel_rfl) (show slIs Try.prog 22 = true from by kernel_rfl) (h.front 2) ((h.front 2).rdsi 1 rfl Rd_own) (en1 ⟨_, _, _, _, _, _, _, _, _, _, _⟩) (by simp only [flat_len En.len, List.length_append, List.length_cons, List.length_nil]; omega) (fun v H' h' => ?_); obtain ⟨ya, yn, yc, rfl, _, _⟩ := h'.sl 0 rfl Rd_own; skip))
            | (((with_reducible show opAppend _ _ _ _ (Value.slice ya yn yc) _ _ _); refine append_sl (show apI Try.prog 22 = some (196, 11, 88) from by kernel_rfl) (show slIs Try.prog 22 = true from by kernel_rfl) (h.front 1) ((h.front 1).rdsi 1 rfl Rd_own) (en1 ⟨_, _, _, _, _, _, _, _, _, _, _⟩) (by simp only [flat_len En.len, List.length_append, List.length_cons, List.length_nil]; omega) (fun v H' h' => ?_); obtain ⟨za, zn, zc, rfl, _, _⟩ := h'.sl 0 rfl Rd_own; skip))
            | ((with_reducible show CallsH _ _ 176 _ _ _); (refine (entry_ok ⟨_, _, _, _, _, _, _, _, _⟩ _ _ _).at_ h [] _ rfl (fun r B H' hr h' => ?_); obtain ⟨rfl, rfl⟩ := hr; simp only [ent]; skip))
            | ((with_reducible show New _ _ _); first | (refine New_sl h 11 rfl (fun b H' h' => ?_); skip) | (refine New_qsl h 11 rfl (fun b => rfl) (fun b H' h' => ?_); skip) | (refine New_ob h (fun b H' h' => ?_); skip) | (refine New_qob h (fun b H' h' => ?_); skip))
            | ((with_reducible show St _ _); first | (refine sg.st (h.front 0) rfl rfl (fun H' h' => ?_); skip) | (refine sg.st (h.front 1) rfl rfl (fun H' h' => ?_); skip) | (refine sg.st (h.front 2) rfl rfl (fun H' h' => ?_); skip) | (refine sg.st (h.front 3) rfl rfl (fun H' h' => ?_); skip) | (refine sg.st (h.front 4) rfl rfl (fun H' h' => ?_); skip) | (refine sg.st (h.front 5) rfl rfl (fun H' h' => ?_); skip) | (refine sg.st (h.front 6) rfl rfl (fun H' h' => ?_); skip) | (refine sg.st (h.front 7) rfl rfl (fun H' h' => ?_); skip))
            | ((with_reducible show Gate _ _ _); refine Gate.intro (fun g => ?_) (fun g => ?_) <;> (try subst g))
            ) <;> ((try ((try simp only [row, En.l, Ky.l, Ac.l, Rw.l, front_eq] at h'); (try simp only [front_eq, fronts_nil, fronts_cons, List.getElem?_cons_zero, List.getElem?_cons_succ, List.eraseIdx_cons_zero, List.eraseIdx_cons_succ, List.cons_append, List.nil_append, putL_cons, putL_nil, List.set_cons_zero, List.set_cons_succ, Nat.reduceAdd] at h'); clear h; have h := h'; clear h'; (try have fc := h.ci 0 rfl); (try have fl := h.li 0 rfl); (try have fc := h.ci 1 rfl); (try have fl := h.li 1 rfl); (try have fc := h.ci 2 rfl); (try have fl := h.li 2 rfl); (try have fc := h.ci 3 rfl); (try have fl := h.li 3 rfl); (try have fc := h.ci 4 rfl); (try have fl := h.li 4 rfl); (try have fc := h.ci 5 rfl); (try have fl := h.li 5 rfl); (try have fc := h.ci 6 rfl); (try have fl := h.li 6 rfl); (try have fc := h.ci 7 rfl); (try have fl := h.li 7 rfl))); ((try simp only [S, TY, reduceCtorEq, nq0, nq1, nq2, nq3, nq4, iq0, iq1, iq2, iq3, iq4, iq5, iq6, iq7, iq8, q0, q5, q8, q9, q10, p1, *]); (try (simp (disch := omega) only [W2, Int.cast_ofNat_Int]; (try simp only [S, TY, reduceCtorEq, nq0, nq1, nq2, nq3, nq4, iq0, iq1, iq2, iq3, iq4, iq5, iq6, iq7, iq8, q0, q5, q8, q9, q10, p1, *])))))))
        refine .go (i + 1) (by omega) ⟨by omega, q0, q8, q9, rfl, _, rfl, cfin hs2 (b := [ent ⟨x1, x2, x3, x4, x5, x6, x7, x8, x9⟩ 7 (-2) 1]) (by simp [comp, p1]) h.take1⟩
      · by_cases p3 : x7 = 2
        · subst p3
          by_cases p4 : x5 = c
          · subst p4
            ((try simp only [S, TY, reduceCtorEq, nq0, nq1, nq2, nq3, nq4, iq0, iq1, iq2, iq3, iq4, iq5, iq6, iq7, iq8, q0, q5, q8, q9, q10, g1, g0, el, p1, p2]); (try (simp (disch := omega) only [W2, Int.cast_ofNat_Int]; (try simp only [S, TY, reduceCtorEq, nq0, nq1, nq2, nq3, nq4, iq0, iq1, iq2, iq3, iq4, iq5, iq6, iq7, iq8, q0, q5, q8, q9, q10, g1, g0, el, p1, p2]))))
            repeat' (((first
                | (((with_reducible show opAppend _ _ _ _ (Value.slice ua un uc) _ _ _); refine append_sl (show apI Try.prog 22 = some (196, 11, 88) from by kernel_rfl) (show slIs Try.prog 22 = true from by kernel_rfl) (h.front 2) ((h.front 2).rdsi 1 rfl Rd_own) (en1 ⟨_, _, _, _, _, _, _, _, _, _, _⟩) (by simp only [flat_len En.len, List.length_append, List.length_cons, List.length_nil]; omega) (fun v H' h' => ?_); obtain ⟨ya, yn, yc, rfl, _, _⟩ := h'.sl 0 rfl Rd_own; skip))
                | (((with_reducible show opAppend _ _ _ _ (Value.slice ya yn yc) _ _ _); refine append_sl (show apI Try.prog 22 = some (196, 11, 88) from by kernel_rfl) (show slIs Try.prog 22 = true from by kernel_rfl) (h.front 1) ((h.front 1).rdsi 1 rfl Rd_own) (en1 ⟨_, _, _, _, _, _, _, _, _, _, _⟩) (by simp only [flat_len En.len, List.length_append, List.length_cons, List.length_nil]; omega) (fun v H' h' => ?_); obtain ⟨za, zn, zc, rfl, _, _⟩ := h'.sl 0 rfl Rd_own; skip))
                | ((with_reducible show CallsH _ _ 176 _ _ _); (refine (entry_ok ⟨_, _, _, _, _, _, _, _, _⟩ _ _ _).at_ h [] _ rfl (fun r B H' hr h' => ?_); obtain ⟨rfl, rfl⟩ := hr; simp only [ent]; skip))
                | ((with_reducible show New _ _ _); first | (refine New_sl h 11 rfl (fun b H' h' => ?_); skip) | (refine New_qsl h 11 rfl (fun b => rfl) (fun b H' h' => ?_); skip) | (refine New_ob h (fun b H' h' => ?_); skip) | (refine New_qob h (fun b H' h' => ?_); skip))
                | ((with_reducible show St _ _); first | (refine sg.st (h.front 0) rfl rfl (fun H' h' => ?_); skip) | (refine sg.st (h.front 1) rfl rfl (fun H' h' => ?_); skip) | (refine sg.st (h.front 2) rfl rfl (fun H' h' => ?_); skip) | (refine sg.st (h.front 3) rfl rfl (fun H' h' => ?_); skip) | (refine sg.st (h.front 4) rfl rfl (fun H' h' => ?_); skip) | (refine sg.st (h.front 5) rfl rfl (fun H' h' => ?_); skip) | (refine sg.st (h.front 6) rfl rfl (fun H' h' => ?_); skip) | (refine sg.st (h.front 7) rfl rfl (fun H' h' => ?_); skip))
                | ((with_reducible show Gate _ _ _); refine Gate.intro (fun g => ?_) (fun g => ?_) <;> (try subst g))
                ) <;> ((try ((try simp only [row, En.l, Ky.l, Ac.l, Rw.l, front_eq] at h'); (try simp only [front_eq, fronts_nil, fronts_cons, List.getElem?_cons_zero, List.getElem?_cons_succ, List.eraseIdx_cons_zero, List.eraseIdx_cons_succ, List.cons_append, List.nil_append, putL_cons, putL_nil, List.set_cons_zero, List.set_cons_succ, Nat.reduceAdd] at h'); clear h; have h := h'; clear h'; (try have fc := h.ci 0 rfl); (try have fl := h.li 0 rfl); (try have fc := h.ci 1 rfl); (try have fl := h.li 1 rfl); (try have fc := h.ci 2 rfl); (try have fl := h.li 2 rfl); (try have fc := h.ci 3 rfl); (try have fl := h.li 3 rfl); (try have fc := h.ci 4 rfl); (try have fl := h.li 4 rfl); (try have fc := h.ci 5 rfl); (try have fl := h.li 5 rfl); (try have fc := h.ci 6 rfl); (try have fl := h.li 6 rfl); (try have fc := h.ci 7 rfl); (try have fl := h.li 7 rfl))); ((try simp only [S, TY, reduceCtorEq, nq0, nq1, nq2, nq3, nq4, iq0, iq1, iq2, iq3, iq4, iq5, iq6, iq7, iq8, q0, q5, q8, q9, q10, p1, p2, *]); (try (simp (disch := omega) only [W2, Int.cast_ofNat_Int]; (try simp only [S, TY, reduceCtorEq, nq0, nq1, nq2, nq3, nq4, iq0, iq1, iq2, iq3, iq4, iq5, iq6, iq7, iq8, q0, q5, q8, q9, q10, p1, p2, *])))))))
            refine .go (i + 1) (by omega) ⟨by omega, q0, q8, q9, rfl, _, rfl, cfin hs2 (b := [ent ⟨x1, x2, x3, x4, x5, x6, 2, x8, x9⟩ 1 (-2) 2, ent ⟨x1, x2, x3, x4, x5, x6, 2, x8, x9⟩ 2 x3 2]) (by simp [comp, p1, p2]) ?_⟩
            have h := h.take1
            rw [List.append_assoc] at h
            exact h
          · ((try simp only [S, TY, reduceCtorEq, nq0, nq1, nq2, nq3, nq4, iq0, iq1, iq2, iq3, iq4, iq5, iq6, iq7, iq8, q0, q5, q8, q9, q10, g1, g0, el, p1, p2, p4]); (try (simp (disch := omega) only [W2, Int.cast_ofNat_Int]; (try simp only [S, TY, reduceCtorEq, nq0, nq1, nq2, nq3, nq4, iq0, iq1, iq2, iq3, iq4, iq5, iq6, iq7, iq8, q0, q5, q8, q9, q10, g1, g0, el, p1, p2, p4]))))
            repeat' (((first
                | (((with_reducible show opAppend _ _ _ _ (Value.slice ua un uc) _ _ _); refine append_sl (show apI Try.prog 22 = some (196, 11, 88) from by kernel_rfl) (show slIs Try.prog 22 = true from by kernel_rfl) (h.front 2) ((h.front 2).rdsi 1 rfl Rd_own) (en1 ⟨_, _, _, _, _, _, _, _, _, _, _⟩) (by simp only [flat_len En.len, List.length_append, List.length_cons, List.length_nil]; omega) (fun v H' h' => ?_); obtain ⟨ya, yn, yc, rfl, _, _⟩ := h'.sl 0 rfl Rd_own; skip))
                | (((with_reducible show opAppend _ _ _ _ (Value.slice ya yn yc) _ _ _); refine append_sl (show apI Try.prog 22 = some (196, 11, 88) from by kernel_rfl) (show slIs Try.prog 22 = true from by kernel_rfl) (h.front 1) ((h.front 1).rdsi 1 rfl Rd_own) (en1 ⟨_, _, _, _, _, _, _, _, _, _, _⟩) (by simp only [flat_len En.len, List.length_append, List.length_cons, List.length_nil]; omega) (fun v H' h' => ?_); obtain ⟨za, zn, zc, rfl, _, _⟩ := h'.sl 0 rfl Rd_own; skip))
                | ((with_reducible show CallsH _ _ 176 _ _ _); (refine (entry_ok ⟨_, _, _, _, _, _, _, _, _⟩ _ _ _).at_ h [] _ rfl (fun r B H' hr h' => ?_); obtain ⟨rfl, rfl⟩ := hr; simp only [ent]; skip))
                | ((with_reducible show New _ _ _); first | (refine New_sl h 11 rfl (fun b H' h' => ?_); skip) | (refine New_qsl h 11 rfl (fun b => rfl) (fun b H' h' => ?_); skip) | (refine New_ob h (fun b H' h' => ?_); skip) | (refine New_qob h (fun b H' h' => ?_); skip))
                | ((with_reducible show St _ _); first | (refine sg.st (h.front 0) rfl rfl (fun H' h' => ?_); skip) | (refine sg.st (h.front 1) rfl rfl (fun H' h' => ?_); skip) | (refine sg.st (h.front 2) rfl rfl (fun H' h' => ?_); skip) | (refine sg.st (h.front 3) rfl rfl (fun H' h' => ?_); skip) | (refine sg.st (h.front 4) rfl rfl (fun H' h' => ?_); skip) | (refine sg.st (h.front 5) rfl rfl (fun H' h' => ?_); skip) | (refine sg.st (h.front 6) rfl rfl (fun H' h' => ?_); skip) | (refine sg.st (h.front 7) rfl rfl (fun H' h' => ?_); skip))
                | ((with_reducible show Gate _ _ _); refine Gate.intro (fun g => ?_) (fun g => ?_) <;> (try subst g))
                ) <;> ((try ((try simp only [row, En.l, Ky.l, Ac.l, Rw.l, front_eq] at h'); (try simp only [front_eq, fronts_nil, fronts_cons, List.getElem?_cons_zero, List.getElem?_cons_succ, List.eraseIdx_cons_zero, List.eraseIdx_cons_succ, List.cons_append, List.nil_append, putL_cons, putL_nil, List.set_cons_zero, List.set_cons_succ, Nat.reduceAdd] at h'); clear h; have h := h'; clear h'; (try have fc := h.ci 0 rfl); (try have fl := h.li 0 rfl); (try have fc := h.ci 1 rfl); (try have fl := h.li 1 rfl); (try have fc := h.ci 2 rfl); (try have fl := h.li 2 rfl); (try have fc := h.ci 3 rfl); (try have fl := h.li 3 rfl); (try have fc := h.ci 4 rfl); (try have fl := h.li 4 rfl); (try have fc := h.ci 5 rfl); (try have fl := h.li 5 rfl); (try have fc := h.ci 6 rfl); (try have fl := h.li 6 rfl); (try have fc := h.ci 7 rfl); (try have fl := h.li 7 rfl))); ((try simp only [S, TY, reduceCtorEq, nq0, nq1, nq2, nq3, nq4, iq0, iq1, iq2, iq3, iq4, iq5, iq6, iq7, iq8, q0, q5, q8, q9, q10, p1, p2, p4, *]); (try (simp (disch := omega) only [W2, Int.cast_ofNat_Int]; (try simp only [S, TY, reduceCtorEq, nq0, nq1, nq2, nq3, nq4, iq0, iq1, iq2, iq3, iq4, iq5, iq6, iq7, iq8, q0, q5, q8, q9, q10, p1, p2, p4, *])))))))
            refine .go (i + 1) (by omega) ⟨by omega, q0, q8, q9, rfl, _, rfl, cfin hs2 (b := [ent ⟨x1, x2, x3, x4, x5, x6, 2, x8, x9⟩ 1 (-2) 2]) (by simp [comp, p1, p2, p4]) h.take1⟩
        · ((try simp only [S, TY, reduceCtorEq, nq0, nq1, nq2, nq3, nq4, iq0, iq1, iq2, iq3, iq4, iq5, iq6, iq7, iq8, q0, q5, q8, q9, q10, g1, g0, el, p1, p2, p3]); (try (simp (disch := omega) only [W2, Int.cast_ofNat_Int]; (try simp only [S, TY, reduceCtorEq, nq0, nq1, nq2, nq3, nq4, iq0, iq1, iq2, iq3, iq4, iq5, iq6, iq7, iq8, q0, q5, q8, q9, q10, g1, g0, el, p1, p2, p3]))))
          repeat' (((first
              | (((with_reducible show opAppend _ _ _ _ (Value.slice ua un uc) _ _ _); refine append_sl (show apI Try.prog 22 = some (196, 11, 88) from by kernel_rfl) (show slIs Try.prog 22 = true from by kernel_rfl) (h.front 2) ((h.front 2).rdsi 1 rfl Rd_own) (en1 ⟨_, _, _, _, _, _, _, _, _, _, _⟩) (by simp only [flat_len En.len, List.length_append, List.length_cons, List.length_nil]; omega) (fun v H' h' => ?_); obtain ⟨ya, yn, yc, rfl, _, _⟩ := h'.sl 0 rfl Rd_own; skip))
              | (((with_reducible show opAppend _ _ _ _ (Value.slice ya yn yc) _ _ _); refine append_sl (show apI Try.prog 22 = some (196, 11, 88) from by kernel_rfl) (show slIs Try.prog 22 = true from by kernel_rfl) (h.front 1) ((h.front 1).rdsi 1 rfl Rd_own) (en1 ⟨_, _, _, _, _, _, _, _, _, _, _⟩) (by simp only [flat_len En.len, List.length_append, List.length_cons, List.length_nil]; omega) (fun v H' h' => ?_); obtain ⟨za, zn, zc, rfl, _, _⟩ := h'.sl 0 rfl Rd_own; skip))
              | ((with_reducible show CallsH _ _ 176 _ _ _); (refine (entry_ok ⟨_, _, _, _, _, _, _, _, _⟩ _ _ _).at_ h [] _ rfl (fun r B H' hr h' => ?_); obtain ⟨rfl, rfl⟩ := hr; simp only [ent]; skip))
              | ((with_reducible show New _ _ _); first | (refine New_sl h 11 rfl (fun b H' h' => ?_); skip) | (refine New_qsl h 11 rfl (fun b => rfl) (fun b H' h' => ?_); skip) | (refine New_ob h (fun b H' h' => ?_); skip) | (refine New_qob h (fun b H' h' => ?_); skip))
              | ((with_reducible show St _ _); first | (refine sg.st (h.front 0) rfl rfl (fun H' h' => ?_); skip) | (refine sg.st (h.front 1) rfl rfl (fun H' h' => ?_); skip) | (refine sg.st (h.front 2) rfl rfl (fun H' h' => ?_); skip) | (refine sg.st (h.front 3) rfl rfl (fun H' h' => ?_); skip) | (refine sg.st (h.front 4) rfl rfl (fun H' h' => ?_); skip) | (refine sg.st (h.front 5) rfl rfl (fun H' h' => ?_); skip) | (refine sg.st (h.front 6) rfl rfl (fun H' h' => ?_); skip) | (refine sg.st (h.front 7) rfl rfl (fun H' h' => ?_); skip))
              | ((with_reducible show Gate _ _ _); refine Gate.intro (fun g => ?_) (fun g => ?_) <;> (try subst g))
              ) <;> ((try ((try simp only [row, En.l, Ky.l, Ac.l, Rw.l, front_eq] at h'); (try simp only [front_eq, fronts_nil, fronts_cons, List.getElem?_cons_zero, List.getElem?_cons_succ, List.eraseIdx_cons_zero, List.eraseIdx_cons_succ, List.cons_append, List.nil_append, putL_cons, putL_nil, List.set_cons_zero, List.set_cons_succ, Nat.reduceAdd] at h'); clear h; have h := h'; clear h'; (try have fc := h.ci 0 rfl); (try have fl := h.li 0 rfl); (try have fc := h.ci 1 rfl); (try have fl := h.li 1 rfl); (try have fc := h.ci 2 rfl); (try have fl := h.li 2 rfl); (try have fc := h.ci 3 rfl); (try have fl := h.li 3 rfl); (try have fc := h.ci 4 rfl); (try have fl := h.li 4 rfl); (try have fc := h.ci 5 rfl); (try have fl := h.li 5 rfl); (try have fc := h.ci 6 rfl); (try have fl := h.li 6 rfl); (try have fc := h.ci 7 rfl); (try have fl := h.li 7 rfl))); ((try simp only [S, TY, reduceCtorEq, nq0, nq1, nq2, nq3, nq4, iq0, iq1, iq2, iq3, iq4, iq5, iq6, iq7, iq8, q0, q5, q8, q9, q10, p1, p2, p3, *]); (try (simp (disch := omega) only [W2, Int.cast_ofNat_Int]; (try simp only [S, TY, reduceCtorEq, nq0, nq1, nq2, nq3, nq4, iq0, iq1, iq2, iq3, iq4, iq5, iq6, iq7, iq8, q0, q5, q8, q9, q10, p1, p2, p3, *])))))))
          refine .go (i + 1) (by omega) ⟨by omega, q0, q8, q9, rfl, _, rfl, cfin hs2 (b := [ent ⟨x1, x2, x3, x4, x5, x6, x7, x8, x9⟩ 1 (-2) 2]) (by simp [comp, p1, p2, p3]) h.take1⟩
  · ((try simp only [S, TY, reduceCtorEq, nq0, nq1, nq2, nq3, nq4, iq0, iq1, iq2, iq3, iq4, iq5, iq6, iq7, iq8, q0, q5, q8, q9, q10, g1]); (try (simp (disch := omega) only [W2, Int.cast_ofNat_Int]; (try simp only [S, TY, reduceCtorEq, nq0, nq1, nq2, nq3, nq4, iq0, iq1, iq2, iq3, iq4, iq5, iq6, iq7, iq8, q0, q5, q8, q9, q10, g1]))))
    exact fin_take (B := [_]) h (by rw [List.take_of_length_le (by omega)])
end Go.Proofs.Ytanhmbdcdbcfmaa.BiC
