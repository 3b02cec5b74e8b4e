/- Flows that are tracked: the program's table. -/
import Derived.Test.YtanhmbdcdbcfmaaTk
set_option linter.unusedVariables false
set_option linter.unusedSimpArgs false
set_option maxRecDepth 10000
set_option maxHeartbeats 2000000
namespace Go.Proofs.Ytanhmbdcdbcfmaa.TkO
open Nat renaming reduceEqDiff → nq0, reduceAdd → nq1, reduceLeDiff → nq2, reduceBEq → nq3, reduceMul → nq4
open Int renaming reduceBEq → iq0, reduceEq → iq1, reduceLT → iq2, reduceLE → iq3, reduceAdd → iq4, reduceSub → iq5, reduceMul → iq6, reduceToNat → iq7, cast_ofNat_Int → iq8
open Go Go.Sl Go.Proofs Go.Proofs.Ytanhmbdcdbcfmaa.SoI Go.Proofs.Ytanhmbdcdbcfmaa.Tk
theorem TY : aggN Try.prog 3 = some none ∧
  aggN Try.prog 166 = some none ∧
  aggN Try.prog 170 = some none ∧
  aggN Try.prog 173 = some none ∧
  aggN Try.prog 175 = some (some 5) ∧
  aggN Try.prog 187 = some (some 6) ∧
  aggN Try.prog 278 = some (some 2) ∧
  aggN Try.prog 281 = some none ∧
  apI Try.prog 170 = some (187, 6, 40) ∧
  bIs Try.prog 175 = true ∧
  bIs Try.prog 187 = true ∧
  bIs Try.prog 278 = true ∧
  csz Try.prog 3 = some 1 ∧
  csz Try.prog 166 = some 1 ∧
  csz Try.prog 170 = some 1 ∧
  csz Try.prog 173 = some 1 ∧
  csz Try.prog 175 = some 5 ∧
  csz Try.prog 187 = some 6 ∧
  csz Try.prog 278 = some 2 ∧
  csz Try.prog 281 = some 1 ∧
  eqF Try.prog 175 = some [.i, .i, .i, .i, .i] ∧
  eqF Try.prog 187 = some [.i, .i, .i, .i, .i, .i] ∧
  fIs Try.prog 175 0 = true ∧
  fIs Try.prog 175 1 = true ∧
  fIs Try.prog 175 2 = true ∧
  fIs Try.prog 175 3 = true ∧
  fIs Try.prog 175 4 = true ∧
  fIs Try.prog 187 0 = true ∧
  fIs Try.prog 187 1 = true ∧
  fIs Try.prog 278 1 = true ∧
  fOff Try.prog 175 0 = 0 ∧
  fOff Try.prog 175 1 = 1 ∧
  fOff Try.prog 175 2 = 2 ∧
  fOff Try.prog 175 3 = 3 ∧
  fOff Try.prog 175 4 = 4 ∧
  fOff Try.prog 187 0 = 0 ∧
  fOff Try.prog 187 1 = 5 ∧
  fOff Try.prog 278 1 = 1 ∧
  fTy Try.prog 175 0 = 3 ∧
  fTy Try.prog 175 1 = 173 ∧
  fTy Try.prog 175 2 = 173 ∧
  fTy Try.prog 175 3 = 3 ∧
  fTy Try.prog 175 4 = 3 ∧
  fTy Try.prog 187 0 = 175 ∧
  fTy Try.prog 187 1 = 3 ∧
  fTy Try.prog 278 1 = 170 ∧
  fnIs Try.prog 281 = true ∧
  goes Try.prog 164 = true ∧
  goes Try.prog 165 = true ∧
  goes Try.prog 166 = true ∧
  goes Try.prog 187 = true ∧
  goes Try.prog 188 = true ∧
  goes Try.prog 189 = true ∧
  goes Try.prog 197 = true ∧
  inIs Try.prog 3 = some .i64 ∧
  inIs Try.prog 173 = some .u32 ∧
  plcs Try.prog 175 = [(0, 1), (1, 1), (2, 1), (3, 1), (4, 1)] ∧
  plcs Try.prog 187 = [(0, 5), (5, 1)] ∧
  plcs Try.prog 278 = [(0, 1), (1, 1)] ∧
  ptIs Try.prog 166 = true ∧
  slEl Try.prog 170 = 187 ∧
  slIs Try.prog 170 = true ∧
  slSz Try.prog 170 = 6 ∧
  zcs Try.prog 175 = [.int .i64 0, .int .u32 0, .int .u32 0, .int .i64 0, .int .i64 0] ∧
  zcs Try.prog 187 = [.int .i64 0, .int .u32 0, .int .u32 0, .int .i64 0, .int .i64 0, .int .i64 0] ∧
  zcs Try.prog 278 = [.int .i64 0, .slice none 0 0] ∧
  zro Try.prog 3 = some (.int .i64 0) ∧
  zro Try.prog 166 = some (.pointer none) ∧
  zro Try.prog 170 = some (.slice none 0 0) ∧
  zro Try.prog 173 = some (.int .u32 0) ∧
  zro Try.prog 175 = some (.agg #[.int .i64 0, .int .u32 0, .int .u32 0, .int .i64 0, .int .i64 0]) ∧
  zro Try.prog 187 = some (.agg #[.int .i64 0, .int .u32 0, .int .u32 0, .int .i64 0, .int .i64 0, .int .i64 0]) ∧
  zro Try.prog 278 = some (.agg #[.int .i64 0, .slice none 0 0]) ∧
  zro Try.prog 281 = some (.nilFunc) :=
  ⟨by kernel_rfl, by kernel_rfl, by kernel_rfl, by kernel_rfl, by kernel_rfl, by kernel_rfl, by kernel_rfl, by kernel_rfl, by kernel_rfl, by kernel_rfl, by kernel_rfl, by kernel_rfl, by kernel_rfl, by kernel_rfl, by kernel_rfl, by kernel_rfl, by kernel_rfl, by kernel_rfl, by kernel_rfl, by kernel_rfl, by kernel_rfl, by kernel_rfl, by kernel_rfl, by kernel_rfl, by kernel_rfl, by kernel_rfl, by kernel_rfl, by kernel_rfl, by kernel_rfl, by kernel_rfl, by kernel_rfl, by kernel_rfl, by kernel_rfl, by kernel_rfl, by kernel_rfl, by kernel_rfl, by kernel_rfl, by kernel_rfl, by kernel_rfl, by kernel_rfl, by kernel_rfl, by kernel_rfl, by kernel_rfl, by kernel_rfl, by kernel_rfl, by kernel_rfl, by kernel_rfl, by kernel_rfl, by kernel_rfl, by kernel_rfl, by kernel_rfl, by kernel_rfl, by kernel_rfl, by kernel_rfl, by kernel_rfl, by kernel_rfl, by kernel_rfl, by kernel_rfl, by kernel_rfl, by kernel_rfl, by kernel_rfl, by kernel_rfl, by kernel_rfl, by kernel_rfl, by kernel_rfl, by kernel_rfl, by kernel_rfl, by kernel_rfl, by kernel_rfl, by kernel_rfl, by kernel_rfl, by kernel_rfl, by kernel_rfl, by kernel_rfl⟩
def D189_1 : List Note := Go.Sl.nn [1, 1, 0, 0, 1, 1] ++ ([(3, [4])] ++ (Go.Sl.nn [0, 0, 0]))
theorem stOne {G H : Hp} {L : List Asn} {t : TypeId} {sz b off n c j : Nat} {P S xs : List Value} {u : Value} (h : sg G (own t sz (.slice (some ⟨b, off, none⟩) n c) xs :: L) H)
    (e : xs = P ++ u :: S) (hj : j = P.length) (v : Value) (hv : v.oneCell' = true) {K : Hp → Prop} (k : ∀ H', sg G (own t sz (.slice (some ⟨b, off, none⟩) n c) (P ++ v :: S) :: L) H' → K H') :
    St (Hp.stl H ⟨b, off + j, none⟩ 0 [v]) K := by
  subst e hj
  obtain ⟨hd, H1, H2, rfl, hd2, ho, h2⟩ := h
  rcases ho with ⟨q, _⟩ | ⟨b', off', n', c', cs, fr, q, g1, g2, g3, g4, g5, g6⟩
  · cases q
  · cases q
    have hs : sg G (ob b (.cells cs t fr) :: L) (H1.un H2) := ⟨hd, H1, H2, rfl, hd2, g1, h2⟩
    have hlen : ∀ z : Value, (P ++ z :: S).length = P.length + (S.length + 1) := by intro z; simp
    rw [hlen] at g5 g6
    have hm : n * sz ≤ c * sz := Nat.mul_le_mul_right _ g3
    obtain ⟨H', e1, e2⟩ := hs.stl (off := off + P.length) [v] g2 (by simpa using hv) (by simp; omega)
    refine ⟨H', e1, k H' ?_⟩
    refine e2.shut [ob b _] fun H hd hob => ?_
    have hob := seps_ob hob
    refine .inr ⟨b, off, n, c, _, fr, rfl, hob, ?_, g3, ?_, by rw [hlen, g5], fun i hi => ?_⟩
    · unfold cold at g2 ⊢
      rw [putL_size]; exact g2
    · rw [putL_size]; exact g4
    · rw [hlen] at hi
      rw [putL_get _ _ _ _ (by simp; omega)]
      have g6 := g6 i hi
      simp only [List.length_cons, List.length_nil]
      rw [List.getElem?_append] at g6 ⊢
      by_cases q1 : i < P.length
      · rw [if_neg (by omega), g6, if_pos q1, if_pos q1]
      · rw [if_neg q1]
        rw [if_neg q1] at g6
        by_cases q2 : i = P.length
        · subst q2
          rw [if_pos (by omega)]; simp
        · rw [if_neg (by omega), g6]
          obtain ⟨d, hd⟩ : ∃ d, i - P.length = d + 1 := ⟨i - P.length - 1, by omega⟩
          rw [hd]; rfl
/-- A record's until, written. -/
theorem stU {G H : Hp} {L : List Asn} {t : TypeId} {b off n c j : Nat} {X Y l : List Rc} {y : Rc} (h : sg G (own t 6 (.slice (some ⟨b, off, none⟩) n c) (l.flatMap Rc.l) :: L) H) (e : l = X ++ y :: Y) (hj : j = X.length) (w : Int) {K : Hp → Prop}
    (k : ∀ H', sg G (own t 6 (.slice (some ⟨b, off, none⟩) n c) ((X ++ { y with u := w } :: Y).flatMap Rc.l) :: L) H' → K H') : St (Hp.stl H ⟨b, off + j * 6 + 5, none⟩ 0 [.int .i64 w]) K := by
  have hx : l.flatMap Rc.l = (X.flatMap Rc.l ++ y.f.l) ++ .int .i64 y.u :: Y.flatMap Rc.l := by rw [e]; simp [List.flatMap_append]
  have hy : (X ++ { y with u := w } :: Y).flatMap Rc.l = (X.flatMap Rc.l ++ y.f.l) ++ .int .i64 w :: Y.flatMap Rc.l := by simp [List.flatMap_append]
  have hp : (X.flatMap Rc.l ++ y.f.l).length = j * 6 + 5 := by rw [List.length_append, flat_len Rc.len, hj]; rfl
  have := stOne (j := j * 6 + 5) h hx hp.symm (.int .i64 w) rfl (K := K) (fun H' h' => k H' (by rw [hy]; exact h'))
  rw [← Nat.add_assoc] at this
  exact this
def fok (p a b : Int) : Bool := decide ((p = 6 ∨ p = 17) ∧ (0 ≤ a ∧ a ≤ 65535) ∧ 0 ≤ b ∧ b ≤ 65535)
def Fw.ok (x : Fw) : Bool := fok x.p x.a x.b
theorem iRight_ok {G : Hp} (x : Fw) : Con Try.prog G 159 [x.v] [] (fun r B => r = .bool (Fw.ok x) ∧ B = []) := by
  obtain ⟨p, s, d, a, b⟩ := x
  refine Con.intro Try.func159 rfl (Nat.le_of_ble_eq_true (by kernel_rfl)) (by kernel_rfl) Try.results159 ?_
  intro H h
  ((try simp only [S, TY, reduceCtorEq, nq0, nq1, nq2, nq3, nq4, iq0, iq1, iq2, iq3, iq4, iq5, iq6, iq7, iq8]); (try (simp (disch := omega) only [W2, Int.cast_ofNat_Int]; (try simp only [S, TY, reduceCtorEq, nq0, nq1, nq2, nq3, nq4, iq0, iq1, iq2, iq3, iq4, iq5, iq6, iq7, iq8]))))
  repeat' (((first
      | ((with_reducible show fin _ _ _); first | ((refine fin_take (B := []) h ⟨?_, rfl⟩; unfold Fw.ok fok; (refine bb ?_; (try simp only [BB]) <;> (first | omega | grind)))))
      | ((with_reducible show New _ _ _); first | (refine New_sl h 6 rfl (fun b H' h' => ?_); skip) | (refine New_qsl h 6 rfl (fun b => rfl) (fun b H' h' => ?_); skip) | (refine New_ob h (fun b H' h' => ?_); skip) | (refine New_qob h (fun b H' h' => ?_); skip))
      | ((with_reducible show St _ _); first | (refine sg.st (h.front 0) rfl rfl (fun H' h' => ?_); skip) | (refine sg.st (h.front 1) rfl rfl (fun H' h' => ?_); skip) | (refine sg.st (h.front 2) rfl rfl (fun H' h' => ?_); skip) | (refine sg.st (h.front 3) rfl rfl (fun H' h' => ?_); skip) | (refine sg.st (h.front 4) rfl rfl (fun H' h' => ?_); skip) | (refine sg.st (h.front 5) rfl rfl (fun H' h' => ?_); skip))
      | ((with_reducible show Gate _ _ _); refine Gate.intro (fun g => ?_) (fun g => ?_) <;> (try subst g))
      ) <;> ((try ((try simp only [row, Rc.l, Fw.l, front_eq] at h'); (try simp only [front_eq, fronts_nil, fronts_cons, List.getElem?_cons_zero, List.getElem?_cons_succ, List.eraseIdx_cons_zero, List.eraseIdx_cons_succ, List.cons_append, List.nil_append, putL_cons, putL_nil, List.set_cons_zero, List.set_cons_succ, Nat.reduceAdd] at h'); clear h; have h := h'; clear h'; (try have fc := h.ci 0 rfl); (try have fl := h.li 0 rfl); (try have fc := h.ci 1 rfl); (try have fl := h.li 1 rfl); (try have fc := h.ci 2 rfl); (try have fl := h.li 2 rfl); (try have fc := h.ci 3 rfl); (try have fl := h.li 3 rfl); (try have fc := h.ci 4 rfl); (try have fl := h.li 4 rfl); (try have fc := h.ci 5 rfl); (try have fl := h.li 5 rfl))); ((try simp only [S, TY, reduceCtorEq, nq0, nq1, nq2, nq3, nq4, iq0, iq1, iq2, iq3, iq4, iq5, iq6, iq7, iq8, *]); (try (simp (disch := omega) only [W2, Int.cast_ofNat_Int]; (try simp only [S, TY, reduceCtorEq, nq0, nq1, nq2, nq3, nq4, iq0, iq1, iq2, iq3, iq4, iq5, iq6, iq7, iq8, *])))))))
def tok (now : Int) : Bool := decide (0 ≤ now ∧ now ≤ 1099511627776)
theorem time_ok {G : Hp} (now : Int) : Con Try.prog G 158 [.int .i64 now] [] (fun r B => r = .bool (tok now) ∧ B = []) := by
  refine Con.intro Try.func158 rfl (Nat.le_of_ble_eq_true (by kernel_rfl)) (by kernel_rfl) Try.results158 ?_
  intro H h
  ((try simp only [S, TY, reduceCtorEq, nq0, nq1, nq2, nq3, nq4, iq0, iq1, iq2, iq3, iq4, iq5, iq6, iq7, iq8]); (try (simp (disch := omega) only [W2, Int.cast_ofNat_Int]; (try simp only [S, TY, reduceCtorEq, nq0, nq1, nq2, nq3, nq4, iq0, iq1, iq2, iq3, iq4, iq5, iq6, iq7, iq8]))))
  repeat' (((first
      | ((with_reducible show fin _ _ _); first | ((refine fin_take (B := []) h ⟨?_, rfl⟩; unfold tok; (refine bb ?_; (try simp only [BB]) <;> (first | omega | grind)))))
      | ((with_reducible show New _ _ _); first | (refine New_sl h 6 rfl (fun b H' h' => ?_); skip) | (refine New_qsl h 6 rfl (fun b => rfl) (fun b H' h' => ?_); skip) | (refine New_ob h (fun b H' h' => ?_); skip) | (refine New_qob h (fun b H' h' => ?_); skip))
      | ((with_reducible show St _ _); first | (refine sg.st (h.front 0) rfl rfl (fun H' h' => ?_); skip) | (refine sg.st (h.front 1) rfl rfl (fun H' h' => ?_); skip) | (refine sg.st (h.front 2) rfl rfl (fun H' h' => ?_); skip) | (refine sg.st (h.front 3) rfl rfl (fun H' h' => ?_); skip) | (refine sg.st (h.front 4) rfl rfl (fun H' h' => ?_); skip) | (refine sg.st (h.front 5) rfl rfl (fun H' h' => ?_); skip))
      | ((with_reducible show Gate _ _ _); refine Gate.intro (fun g => ?_) (fun g => ?_) <;> (try subst g))
      ) <;> ((try ((try simp only [row, Rc.l, Fw.l, front_eq] at h'); (try simp only [front_eq, fronts_nil, fronts_cons, List.getElem?_cons_zero, List.getElem?_cons_succ, List.eraseIdx_cons_zero, List.eraseIdx_cons_succ, List.cons_append, List.nil_append, putL_cons, putL_nil, List.set_cons_zero, List.set_cons_succ, Nat.reduceAdd] at h'); clear h; have h := h'; clear h'; (try have fc := h.ci 0 rfl); (try have fl := h.li 0 rfl); (try have fc := h.ci 1 rfl); (try have fl := h.li 1 rfl); (try have fc := h.ci 2 rfl); (try have fl := h.li 2 rfl); (try have fc := h.ci 3 rfl); (try have fl := h.li 3 rfl); (try have fc := h.ci 4 rfl); (try have fl := h.li 4 rfl); (try have fc := h.ci 5 rfl); (try have fl := h.li 5 rfl))); ((try simp only [S, TY, reduceCtorEq, nq0, nq1, nq2, nq3, nq4, iq0, iq1, iq2, iq3, iq4, iq5, iq6, iq7, iq8, *]); (try (simp (disch := omega) only [W2, Int.cast_ofNat_Int]; (try simp only [S, TY, reduceCtorEq, nq0, nq1, nq2, nq3, nq4, iq0, iq1, iq2, iq3, iq4, iq5, iq6, iq7, iq8, *])))))))
theorem Back_ok {G : Hp} (x : Fw) : Con Try.prog G 197 [x.v] [] (fun r B => r = x.back.v ∧ B = []) := by
  obtain ⟨p, s, d, a, b⟩ := x
  refine Con.intro Try.func197 rfl (Nat.le_of_ble_eq_true (by kernel_rfl)) (by kernel_rfl) Try.results197 ?_
  intro H hH
  ((try simp only [S, TY, reduceCtorEq, nq0, nq1, nq2, nq3, nq4, iq0, iq1, iq2, iq3, iq4, iq5, iq6, iq7, iq8]); (try (simp (disch := omega) only [W2, Int.cast_ofNat_Int]; (try simp only [S, TY, reduceCtorEq, nq0, nq1, nq2, nq3, nq4, iq0, iq1, iq2, iq3, iq4, iq5, iq6, iq7, iq8]))))
  intro k hk hg
  have h1 := hH.new hk hg (.cells (Fw.l ⟨p, s, d, a, b⟩).toArray 175 (0, 0))
  ((try simp only [S, TY, reduceCtorEq, nq0, nq1, nq2, nq3, nq4, iq0, iq1, iq2, iq3, iq4, iq5, iq6, iq7, iq8]); (try (simp (disch := omega) only [W2, Int.cast_ofNat_Int]; (try simp only [S, TY, reduceCtorEq, nq0, nq1, nq2, nq3, nq4, iq0, iq1, iq2, iq3, iq4, iq5, iq6, iq7, iq8]))))
  intro k2 hk2 hg2
  have h2 := h1.new hk2 hg2 (.cells (Fw.l ⟨0, 0, 0, 0, 0⟩).toArray 175 (0, 0))
  have c2 := (h2.front 1).c0
  ((try simp only [S, TY, reduceCtorEq, nq0, nq1, nq2, nq3, nq4, iq0, iq1, iq2, iq3, iq4, iq5, iq6, iq7, iq8, c2]); (try (simp (disch := omega) only [W2, Int.cast_ofNat_Int]; (try simp only [S, TY, reduceCtorEq, nq0, nq1, nq2, nq3, nq4, iq0, iq1, iq2, iq3, iq4, iq5, iq6, iq7, iq8, c2]))))
  refine sg.st (h2.front 1) rfl rfl fun H3 h3 => ?_
  simp only [front_eq, fronts_nil, fronts_cons, List.getElem?_cons_zero, List.getElem?_cons_succ, List.eraseIdx_cons_zero, List.eraseIdx_cons_succ, List.cons_append, List.nil_append, putL_cons, putL_nil, List.set_cons_zero, List.set_cons_succ, Nat.reduceAdd] at h3
  have c3 := h3.c0
  ((try simp only [S, TY, reduceCtorEq, nq0, nq1, nq2, nq3, nq4, iq0, iq1, iq2, iq3, iq4, iq5, iq6, iq7, iq8, c3]); (try (simp (disch := omega) only [W2, Int.cast_ofNat_Int]; (try simp only [S, TY, reduceCtorEq, nq0, nq1, nq2, nq3, nq4, iq0, iq1, iq2, iq3, iq4, iq5, iq6, iq7, iq8, c3]))))
  refine sg.st h3 rfl rfl fun H4 h4 => ?_
  simp only [front_eq, fronts_nil, fronts_cons, List.getElem?_cons_zero, List.getElem?_cons_succ, List.eraseIdx_cons_zero, List.eraseIdx_cons_succ, List.cons_append, List.nil_append, putL_cons, putL_nil, List.set_cons_zero, List.set_cons_succ, Nat.reduceAdd] at h4
  have c4 := h4.c0
  ((try simp only [S, TY, reduceCtorEq, nq0, nq1, nq2, nq3, nq4, iq0, iq1, iq2, iq3, iq4, iq5, iq6, iq7, iq8, c4]); (try (simp (disch := omega) only [W2, Int.cast_ofNat_Int]; (try simp only [S, TY, reduceCtorEq, nq0, nq1, nq2, nq3, nq4, iq0, iq1, iq2, iq3, iq4, iq5, iq6, iq7, iq8, c4]))))
  refine sg.st h4 rfl rfl fun H5 h5 => ?_
  simp only [front_eq, fronts_nil, fronts_cons, List.getElem?_cons_zero, List.getElem?_cons_succ, List.eraseIdx_cons_zero, List.eraseIdx_cons_succ, List.cons_append, List.nil_append, putL_cons, putL_nil, List.set_cons_zero, List.set_cons_succ, Nat.reduceAdd] at h5
  have c5 := h5.c0
  ((try simp only [S, TY, reduceCtorEq, nq0, nq1, nq2, nq3, nq4, iq0, iq1, iq2, iq3, iq4, iq5, iq6, iq7, iq8, c5]); (try (simp (disch := omega) only [W2, Int.cast_ofNat_Int]; (try simp only [S, TY, reduceCtorEq, nq0, nq1, nq2, nq3, nq4, iq0, iq1, iq2, iq3, iq4, iq5, iq6, iq7, iq8, c5]))))
  refine sg.st h5 rfl rfl fun H6 h6 => ?_
  simp only [front_eq, fronts_nil, fronts_cons, List.getElem?_cons_zero, List.getElem?_cons_succ, List.eraseIdx_cons_zero, List.eraseIdx_cons_succ, List.cons_append, List.nil_append, putL_cons, putL_nil, List.set_cons_zero, List.set_cons_succ, Nat.reduceAdd] at h6
  have w6 := h6.li 0 rfl
  ((try simp only [S, TY, reduceCtorEq, nq0, nq1, nq2, nq3, nq4, iq0, iq1, iq2, iq3, iq4, iq5, iq6, iq7, iq8, w6]); (try (simp (disch := omega) only [W2, Int.cast_ofNat_Int]; (try simp only [S, TY, reduceCtorEq, nq0, nq1, nq2, nq3, nq4, iq0, iq1, iq2, iq3, iq4, iq5, iq6, iq7, iq8, w6]))))
  refine sg.st (h6.front 1) rfl rfl fun H7 h7 => ?_
  simp only [front_eq, fronts_nil, fronts_cons, List.getElem?_cons_zero, List.getElem?_cons_succ, List.eraseIdx_cons_zero, List.eraseIdx_cons_succ, List.cons_append, List.nil_append, putL_cons, putL_nil, List.set_cons_zero, List.set_cons_succ, Nat.reduceAdd] at h7
  have w7 := h7.li 0 rfl
  ((try simp only [S, TY, reduceCtorEq, nq0, nq1, nq2, nq3, nq4, iq0, iq1, iq2, iq3, iq4, iq5, iq6, iq7, iq8, w7]); (try (simp (disch := omega) only [W2, Int.cast_ofNat_Int]; (try simp only [S, TY, reduceCtorEq, nq0, nq1, nq2, nq3, nq4, iq0, iq1, iq2, iq3, iq4, iq5, iq6, iq7, iq8, w7]))))
  exact fin_take (B := []) h7 ⟨rfl, rfl⟩
def alike (x y : Fw) : Bool := decide (x = y ∨ x = y.back)
theorem alike_ok {G : Hp} (x y : Fw) : Con Try.prog G 189 [x.v, y.v] [] (fun r B => r = .bool (alike x y) ∧ B = []) := by
  have hR : alike x y = decide ((x.p = y.p ∧ x.s = y.s ∧ x.d = y.d ∧ x.a = y.a ∧ x.b = y.b) ∨ (x.p = y.p ∧ x.s = y.d ∧ x.d = y.s ∧ x.a = y.b ∧ x.b = y.a)) := by
    unfold alike Fw.back
    obtain ⟨p, s, d, a, b⟩ := x
    obtain ⟨p', s', d', a', b'⟩ := y
    simp only [Fw.mk.injEq]
  rw [hR]
  clear hR
  obtain ⟨p, s, d, a, b⟩ := x
  obtain ⟨p', s', d', a', b'⟩ := y
  simp only
  refine Con.intro Try.func189 rfl (Nat.le_of_ble_eq_true (by kernel_rfl)) (by kernel_rfl) Try.results189 ?_
  intro H h
  ((try simp only [S, TY, reduceCtorEq, nq0, nq1, nq2, nq3, nq4, iq0, iq1, iq2, iq3, iq4, iq5, iq6, iq7, iq8]); (try (simp (disch := omega) only [W2, Int.cast_ofNat_Int]; (try simp only [S, TY, reduceCtorEq, nq0, nq1, nq2, nq3, nq4, iq0, iq1, iq2, iq3, iq4, iq5, iq6, iq7, iq8]))); repeat ((first | (refine cl_drawi 1 D189_1 (List.range 10) (by decide) (by kernel_rfl) ?_; unfold D189_1)); simp only [S, TY, reduceCtorEq, nq0, nq1, nq2, nq3, nq4, iq0, iq1, iq2, iq3, iq4, iq5, iq6, iq7, iq8]; (try (simp (disch := omega) only [W2, Int.cast_ofNat_Int]; (try simp only [S, TY, reduceCtorEq, nq0, nq1, nq2, nq3, nq4, iq0, iq1, iq2, iq3, iq4, iq5, iq6, iq7, iq8])))))
  repeat' (((first
      | ((with_reducible show CallsH _ _ 197 _ _ _); first | (refine (Back_ok ⟨_, _, _, _, _⟩).at_ h [] _ rfl (fun r B H' hr h' => ?_); obtain ⟨rfl, rfl⟩ := hr; skip))
      | ((with_reducible show fin _ _ _); first | ((refine fin_take (B := []) h ⟨?_, rfl⟩; (try simp only [Fw.back]); (refine bb ?_; (try simp only [BB]) <;> (first | omega | grind)))))
      | ((with_reducible show New _ _ _); first | (refine New_sl h 6 rfl (fun b H' h' => ?_); skip) | (refine New_qsl h 6 rfl (fun b => rfl) (fun b H' h' => ?_); skip) | (refine New_ob h (fun b H' h' => ?_); skip) | (refine New_qob h (fun b H' h' => ?_); skip))
      | ((with_reducible show St _ _); first | (refine sg.st (h.front 0) rfl rfl (fun H' h' => ?_); skip) | (refine sg.st (h.front 1) rfl rfl (fun H' h' => ?_); skip) | (refine sg.st (h.front 2) rfl rfl (fun H' h' => ?_); skip) | (refine sg.st (h.front 3) rfl rfl (fun H' h' => ?_); skip) | (refine sg.st (h.front 4) rfl rfl (fun H' h' => ?_); skip) | (refine sg.st (h.front 5) rfl rfl (fun H' h' => ?_); skip))
      | ((with_reducible show Gate _ _ _); refine Gate.intro (fun g => ?_) (fun g => ?_) <;> (try subst g))
      ) <;> ((try ((try simp only [row, Rc.l, Fw.l, front_eq] at h'); (try simp only [front_eq, fronts_nil, fronts_cons, List.getElem?_cons_zero, List.getElem?_cons_succ, List.eraseIdx_cons_zero, List.eraseIdx_cons_succ, List.cons_append, List.nil_append, putL_cons, putL_nil, List.set_cons_zero, List.set_cons_succ, Nat.reduceAdd] at h'); clear h; have h := h'; clear h'; (try have fc := h.ci 0 rfl); (try have fl := h.li 0 rfl); (try have fc := h.ci 1 rfl); (try have fl := h.li 1 rfl); (try have fc := h.ci 2 rfl); (try have fl := h.li 2 rfl); (try have fc := h.ci 3 rfl); (try have fl := h.li 3 rfl); (try have fc := h.ci 4 rfl); (try have fl := h.li 4 rfl); (try have fc := h.ci 5 rfl); (try have fl := h.li 5 rfl))); ((try simp only [S, TY, reduceCtorEq, nq0, nq1, nq2, nq3, nq4, iq0, iq1, iq2, iq3, iq4, iq5, iq6, iq7, iq8, *]); (try (simp (disch := omega) only [W2, Int.cast_ofNat_Int]; (try simp only [S, TY, reduceCtorEq, nq0, nq1, nq2, nq3, nq4, iq0, iq1, iq2, iq3, iq4, iq5, iq6, iq7, iq8, *]))); repeat ((first | (refine cl_drawi 1 D189_1 (List.range 10) (by decide) (by kernel_rfl) ?_; unfold D189_1)); simp only [S, TY, reduceCtorEq, nq0, nq1, nq2, nq3, nq4, iq0, iq1, iq2, iq3, iq4, iq5, iq6, iq7, iq8, *]; (try (simp (disch := omega) only [W2, Int.cast_ofNat_Int]; (try simp only [S, TY, reduceCtorEq, nq0, nq1, nq2, nq3, nq4, iq0, iq1, iq2, iq3, iq4, iq5, iq6, iq7, iq8, *]))))))))
abbrev pF (q : Nat) (f : Fw) : Asn := ob q (.cells f.l.toArray 175 (0, 0))
theorem at1_ok {G : Hp} (f : Fw) (q : Nat) (x : Rc) : Con Try.prog G 188 [x.v, .pointer (some ⟨q, 0, none⟩)] [pF q f] (fun r B => r = .bool (alike x.f f) ∧ B = [pF q f]) := by
  obtain ⟨⟨p, s, d, a, b⟩, u⟩ := x
  obtain ⟨p', s', d', a', b'⟩ := f
  refine Con.intro Try.func188 rfl (Nat.le_of_ble_eq_true (by kernel_rfl)) (by kernel_rfl) Try.results188 ?_
  intro H h
  have w0 := h.li 0 rfl
  ((try simp only [S, TY, reduceCtorEq, nq0, nq1, nq2, nq3, nq4, iq0, iq1, iq2, iq3, iq4, iq5, iq6, iq7, iq8, w0]); (try (simp (disch := omega) only [W2, Int.cast_ofNat_Int]; (try simp only [S, TY, reduceCtorEq, nq0, nq1, nq2, nq3, nq4, iq0, iq1, iq2, iq3, iq4, iq5, iq6, iq7, iq8, w0]))))
  repeat' (((first
      | ((with_reducible show CallsH _ _ 189 _ _ _); first | (refine (alike_ok ⟨_, _, _, _, _⟩ ⟨_, _, _, _, _⟩).at_ h [] _ rfl (fun r B H' hr h' => ?_); obtain ⟨rfl, rfl⟩ := hr; skip))
      | ((with_reducible show fin _ _ _); first | (exact fin_take (B := [_]) (h.front 1) ⟨rfl, rfl⟩))
      | ((with_reducible show New _ _ _); first | (refine New_sl h 6 rfl (fun b H' h' => ?_); skip) | (refine New_qsl h 6 rfl (fun b => rfl) (fun b H' h' => ?_); skip) | (refine New_ob h (fun b H' h' => ?_); skip) | (refine New_qob h (fun b H' h' => ?_); skip))
      | ((with_reducible show St _ _); first | (refine sg.st (h.front 0) rfl rfl (fun H' h' => ?_); skip) | (refine sg.st (h.front 1) rfl rfl (fun H' h' => ?_); skip) | (refine sg.st (h.front 2) rfl rfl (fun H' h' => ?_); skip) | (refine sg.st (h.front 3) rfl rfl (fun H' h' => ?_); skip) | (refine sg.st (h.front 4) rfl rfl (fun H' h' => ?_); skip) | (refine sg.st (h.front 5) rfl rfl (fun H' h' => ?_); skip))
      | ((with_reducible show Gate _ _ _); refine Gate.intro (fun g => ?_) (fun g => ?_) <;> (try subst g))
      ) <;> ((try ((try simp only [row, Rc.l, Fw.l, front_eq] at h'); (try simp only [front_eq, fronts_nil, fronts_cons, List.getElem?_cons_zero, List.getElem?_cons_succ, List.eraseIdx_cons_zero, List.eraseIdx_cons_succ, List.cons_append, List.nil_append, putL_cons, putL_nil, List.set_cons_zero, List.set_cons_succ, Nat.reduceAdd] at h'); clear h; have h := h'; clear h'; (try have fc := h.ci 0 rfl); (try have fl := h.li 0 rfl); (try have fc := h.ci 1 rfl); (try have fl := h.li 1 rfl); (try have fc := h.ci 2 rfl); (try have fl := h.li 2 rfl); (try have fc := h.ci 3 rfl); (try have fl := h.li 3 rfl); (try have fc := h.ci 4 rfl); (try have fl := h.li 4 rfl); (try have fc := h.ci 5 rfl); (try have fl := h.li 5 rfl))); ((try simp only [S, TY, reduceCtorEq, nq0, nq1, nq2, nq3, nq4, iq0, iq1, iq2, iq3, iq4, iq5, iq6, iq7, iq8, *]); (try (simp (disch := omega) only [W2, Int.cast_ofNat_Int]; (try simp only [S, TY, reduceCtorEq, nq0, nq1, nq2, nq3, nq4, iq0, iq1, iq2, iq3, iq4, iq5, iq6, iq7, iq8, *])))))))
theorem hk1 : goes Try.prog 188 = true := by kernel_rfl
theorem at_ok {G : Hp} {v : Value} {l : List Rc} (f : Fw) (hv : rcs G v l) (hll : l.length ≤ 100000) : Con Try.prog G 167 [v, f.v] [] (fun r B => ((r = .int .i64 (-1) ∧ ∀ x ∈ l, alike x.f f = false) ∨ ∃ (j : Nat) (hj : j < l.length), r = .int .i64 j ∧ alike l[j].f f = true ∧ ∀ x ∈ l.take j, alike x.f f = false) ∧ B = []) := by
  have hv0 := hv
  obtain ⟨va, vn, vc, rfl, _, _⟩ := hv.slice
  obtain ⟨p, s, d, a, b⟩ := f
  refine Con.intro Try.func167 rfl (Nat.le_of_ble_eq_true (by kernel_rfl)) (by kernel_rfl) Try.results167 ?_
  intro H h
  ((try simp only [S, TY, reduceCtorEq, nq0, nq1, nq2, nq3, nq4, iq0, iq1, iq2, iq3, iq4, iq5, iq6, iq7, iq8, hk1]); (try (simp (disch := omega) only [W2, Int.cast_ofNat_Int]; (try simp only [S, TY, reduceCtorEq, nq0, nq1, nq2, nq3, nq4, iq0, iq1, iq2, iq3, iq4, iq5, iq6, iq7, iq8, hk1]))))
  intro q hq hg
  have h1 := h.new hq hg (.cells (Fw.l ⟨p, s, d, a, b⟩).toArray 175 (0, 0))
  ((try simp only [S, TY, reduceCtorEq, nq0, nq1, nq2, nq3, nq4, iq0, iq1, iq2, iq3, iq4, iq5, iq6, iq7, iq8, hk1]); (try (simp (disch := omega) only [W2, Int.cast_ofNat_Int]; (try simp only [S, TY, reduceCtorEq, nq0, nq1, nq2, nq3, nq4, iq0, iq1, iq2, iq3, iq4, iq5, iq6, iq7, iq8, hk1]))))
  refine (idx_ok hk1 hv0 hll (fun x => alike x.f ⟨p, s, d, a, b⟩) (at1_ok ⟨p, s, d, a, b⟩ q)).at_ h1 [0] _ rfl fun r B H2 hr h2 => ?_
  obtain ⟨hr, rfl⟩ := hr
  ((try simp only [S, TY, reduceCtorEq, nq0, nq1, nq2, nq3, nq4, iq0, iq1, iq2, iq3, iq4, iq5, iq6, iq7, iq8]); (try (simp (disch := omega) only [W2, Int.cast_ofNat_Int]; (try simp only [S, TY, reduceCtorEq, nq0, nq1, nq2, nq3, nq4, iq0, iq1, iq2, iq3, iq4, iq5, iq6, iq7, iq8]))))
  exact fin_take (B := []) h2 ⟨hr, rfl⟩
def live (l : List Rc) (now : Int) : List Rc := l.filter fun x => !decide (x.u ≤ now)
theorem recs1_ok {G : Hp} (now : Int) (q : Nat) (x : Rc) : Con Try.prog G 166 [x.v, .pointer (some ⟨q, 0, none⟩)] [ob q (.cells #[.int .i64 now] 3 (0, 0))] (fun r B => r = .bool (decide (x.u ≤ now)) ∧ B = [ob q (.cells #[.int .i64 now] 3 (0, 0))]) := by
  obtain ⟨⟨p, s, d, a, b⟩, u⟩ := x
  refine Con.intro Try.func166 rfl (Nat.le_of_ble_eq_true (by kernel_rfl)) (by kernel_rfl) Try.results166 ?_
  intro H h
  have c0 := h.ci 0 rfl
  ((try simp only [S, TY, reduceCtorEq, nq0, nq1, nq2, nq3, nq4, iq0, iq1, iq2, iq3, iq4, iq5, iq6, iq7, iq8, c0]); (try (simp (disch := omega) only [W2, Int.cast_ofNat_Int]; (try simp only [S, TY, reduceCtorEq, nq0, nq1, nq2, nq3, nq4, iq0, iq1, iq2, iq3, iq4, iq5, iq6, iq7, iq8, c0]))))
  repeat' (((first
      | ((with_reducible show fin _ _ _); first | (exact fin_take (B := [_]) (h.front 1) ⟨rfl, rfl⟩))
      | ((with_reducible show New _ _ _); first | (refine New_sl h 6 rfl (fun b H' h' => ?_); skip) | (refine New_qsl h 6 rfl (fun b => rfl) (fun b H' h' => ?_); skip) | (refine New_ob h (fun b H' h' => ?_); skip) | (refine New_qob h (fun b H' h' => ?_); skip))
      | ((with_reducible show St _ _); first | (refine sg.st (h.front 0) rfl rfl (fun H' h' => ?_); skip) | (refine sg.st (h.front 1) rfl rfl (fun H' h' => ?_); skip) | (refine sg.st (h.front 2) rfl rfl (fun H' h' => ?_); skip) | (refine sg.st (h.front 3) rfl rfl (fun H' h' => ?_); skip) | (refine sg.st (h.front 4) rfl rfl (fun H' h' => ?_); skip) | (refine sg.st (h.front 5) rfl rfl (fun H' h' => ?_); skip))
      | ((with_reducible show Gate _ _ _); refine Gate.intro (fun g => ?_) (fun g => ?_) <;> (try subst g))
      ) <;> ((try ((try simp only [row, Rc.l, Fw.l, front_eq] at h'); (try simp only [front_eq, fronts_nil, fronts_cons, List.getElem?_cons_zero, List.getElem?_cons_succ, List.eraseIdx_cons_zero, List.eraseIdx_cons_succ, List.cons_append, List.nil_append, putL_cons, putL_nil, List.set_cons_zero, List.set_cons_succ, Nat.reduceAdd] at h'); clear h; have h := h'; clear h'; (try have fc := h.ci 0 rfl); (try have fl := h.li 0 rfl); (try have fc := h.ci 1 rfl); (try have fl := h.li 1 rfl); (try have fc := h.ci 2 rfl); (try have fl := h.li 2 rfl); (try have fc := h.ci 3 rfl); (try have fl := h.li 3 rfl); (try have fc := h.ci 4 rfl); (try have fl := h.li 4 rfl); (try have fc := h.ci 5 rfl); (try have fl := h.li 5 rfl))); ((try simp only [S, TY, reduceCtorEq, nq0, nq1, nq2, nq3, nq4, iq0, iq1, iq2, iq3, iq4, iq5, iq6, iq7, iq8, *]); (try (simp (disch := omega) only [W2, Int.cast_ofNat_Int]; (try simp only [S, TY, reduceCtorEq, nq0, nq1, nq2, nq3, nq4, iq0, iq1, iq2, iq3, iq4, iq5, iq6, iq7, iq8, *])))))))
theorem hk2 : goes Try.prog 166 = true := by kernel_rfl
/-- A table. -/
def tT (p : Nat) (life : Int) (l : List Rc) : Asn := fun H => ∃ v, seps [ob p (.cells #[.int .i64 life, v] 278 (0, 0)), own 187 6 v (l.flatMap Rc.l)] H
theorem tT_open {G H : Hp} {p : Nat} {life : Int} {l : List Rc} {L : List Asn} (h : sg G (tT p life l :: L) H) : ∃ a c, l.length ≤ c ∧ sg G (ob p (.cells #[.int .i64 life, .slice a l.length c] 278 (0, 0)) :: own 187 6 (.slice a l.length c) (l.flatMap Rc.l) :: L) H := by
  obtain ⟨hd, H1, H2, rfl, hd2, ⟨v, ha⟩, h2⟩ := h
  have h3 : sg G (ob p (.cells #[.int .i64 life, v] 278 (0, 0)) :: own 187 6 v (l.flatMap Rc.l) :: L) (H1.un H2) := ⟨hd, seps_append (l := [_, _]).2 ⟨H1, H2, rfl, hd2, ha, h2⟩⟩
  obtain ⟨a, n, c, rfl, e1, e2⟩ := h3.sl 1 rfl Rd_own
  rw [flat_len Rc.len] at e1
  obtain rfl : l.length = n := by omega
  exact ⟨a, c, e2, h3⟩
theorem tT_shut {G H : Hp} {p : Nat} {life : Int} {v : Value} {l : List Rc} {L : List Asn} (h : sg G (ob p (.cells #[.int .i64 life, v] 278 (0, 0)) :: own 187 6 v (l.flatMap Rc.l) :: L) H) : sg G (tT p life l :: L) H :=
  h.shut [_, _] fun H hd ha => ⟨v, ha⟩
theorem Records_ok {G : Hp} {p : Nat} {life now : Int} {l : List Rc} (hll : l.length ≤ 100000) : Con Try.prog G 91 [.pointer (some ⟨p, 0, none⟩), .int .i64 now] [tT p life l] (fun r B => B = [own 187 6 r ((live l now).flatMap Rc.l), tT p life l]) := by
  refine Con.intro Try.func91 rfl (Nat.le_of_ble_eq_true (by kernel_rfl)) (by kernel_rfl) Try.results91 ?_
  intro H h
  obtain ⟨a, c, hc, h0⟩ := tT_open h
  ((try simp only [S, TY, reduceCtorEq, nq0, nq1, nq2, nq3, nq4, iq0, iq1, iq2, iq3, iq4, iq5, iq6, iq7, iq8, hk2]); (try (simp (disch := omega) only [W2, Int.cast_ofNat_Int]; (try simp only [S, TY, reduceCtorEq, nq0, nq1, nq2, nq3, nq4, iq0, iq1, iq2, iq3, iq4, iq5, iq6, iq7, iq8, hk2]))))
  intro q hq hg
  have h1 := h0.new hq hg (.cells #[.int .i64 now] 3 (0, 0))
  have c1 := (h1.front 1).c0
  ((try simp only [S, TY, reduceCtorEq, nq0, nq1, nq2, nq3, nq4, iq0, iq1, iq2, iq3, iq4, iq5, iq6, iq7, iq8, hk2, c1]); (try (simp (disch := omega) only [W2, Int.cast_ofNat_Int]; (try simp only [S, TY, reduceCtorEq, nq0, nq1, nq2, nq3, nq4, iq0, iq1, iq2, iq3, iq4, iq5, iq6, iq7, iq8, hk2, c1]))))
  refine Con.lend_at [] [own 187 6 _ _] h1 [2] rfl (fun F hF hs => clone_ok (seps_own hs 0 rfl).left hll) (fun r B H2 hr h2 => ?_)
  subst hr
  ((try simp only [S, TY, reduceCtorEq, nq0, nq1, nq2, nq3, nq4, iq0, iq1, iq2, iq3, iq4, iq5, iq6, iq7, iq8, hk2]); (try (simp (disch := omega) only [W2, Int.cast_ofNat_Int]; (try simp only [S, TY, reduceCtorEq, nq0, nq1, nq2, nq3, nq4, iq0, iq1, iq2, iq3, iq4, iq5, iq6, iq7, iq8, hk2]))))
  refine (del_ok hk2 hll (fun x => decide (x.u ≤ now)) (fun G' x => recs1_ok now q x)).at_ h2 [0, 1] _ rfl (fun r B H3 hr h3 => ?_)
  subst hr
  ((try simp only [S, TY, reduceCtorEq, nq0, nq1, nq2, nq3, nq4, iq0, iq1, iq2, iq3, iq4, iq5, iq6, iq7, iq8]); (try (simp (disch := omega) only [W2, Int.cast_ofNat_Int]; (try simp only [S, TY, reduceCtorEq, nq0, nq1, nq2, nq3, nq4, iq0, iq1, iq2, iq3, iq4, iq5, iq6, iq7, iq8]))))
  simp only [front_eq, fronts_nil, fronts_cons, List.getElem?_cons_zero, List.getElem?_cons_succ, List.eraseIdx_cons_zero, List.eraseIdx_cons_succ, List.cons_append, List.nil_append, putL_cons, putL_nil, List.set_cons_zero, List.set_cons_succ, Nat.reduceAdd] at h3
  exact fin_take (B := [_, _]) ((tT_shut (h3.fronts [3, 2])).front 1) rfl
theorem Records_nil {G : Hp} (now : Int) : Con Try.prog G 91 [.pointer none, .int .i64 now] [] (fun r B => r = .slice none 0 0 ∧ B = []) := by
  refine Con.intro Try.func91 rfl (Nat.le_of_ble_eq_true (by kernel_rfl)) (by kernel_rfl) Try.results91 ?_
  intro H h
  ((try simp only [S, TY, reduceCtorEq, nq0, nq1, nq2, nq3, nq4, iq0, iq1, iq2, iq3, iq4, iq5, iq6, iq7, iq8]); (try (simp (disch := omega) only [W2, Int.cast_ofNat_Int]; (try simp only [S, TY, reduceCtorEq, nq0, nq1, nq2, nq3, nq4, iq0, iq1, iq2, iq3, iq4, iq5, iq6, iq7, iq8]))))
  intro q hq hg
  ((try simp only [S, TY, reduceCtorEq, nq0, nq1, nq2, nq3, nq4, iq0, iq1, iq2, iq3, iq4, iq5, iq6, iq7, iq8]); (try (simp (disch := omega) only [W2, Int.cast_ofNat_Int]; (try simp only [S, TY, reduceCtorEq, nq0, nq1, nq2, nq3, nq4, iq0, iq1, iq2, iq3, iq4, iq5, iq6, iq7, iq8]))))
  exact fin_take (B := []) (h.new hq hg _) ⟨rfl, rfl⟩
end Go.Proofs.Ytanhmbdcdbcfmaa.TkO
