/- Flows that are tracked: what the document's table does; two lists of records compared. -/
import Derived.Test.YtanhmbdcdbcfmaaTkD
set_option linter.unusedVariables false
set_option linter.unusedSimpArgs false
set_option maxRecDepth 10000
set_option maxHeartbeats 2000000
namespace Go.Proofs.Ytanhmbdcdbcfmaa.TkE
open Nat renaming reduceEqDiff → nq0, reduceAdd → nq1, reduceLeDiff → nq2, reduceBEq → nq3, reduceMul → nq4
open Int renaming reduceBEq → iq0, reduceEq → iq1, reduceLT → iq2, reduceLE → iq3, reduceAdd → iq4, reduceSub → iq5, reduceMul → iq6, reduceToNat → iq7, cast_ofNat_Int → iq8
open Go Go.Sl Go.Proofs Go.Proofs.Ytanhmbdcdbcfmaa.SoI Go.Proofs.Ytanhmbdcdbcfmaa.Tk Go.Proofs.Ytanhmbdcdbcfmaa.TkO Go.Proofs.Ytanhmbdcdbcfmaa.TkP Go.Proofs.Ytanhmbdcdbcfmaa.TkQ Go.Proofs.Ytanhmbdcdbcfmaa.TkD
theorem TY : aggN Try.prog 3 = some none ∧
  aggN Try.prog 169 = some none ∧
  aggN Try.prog 170 = some none ∧
  aggN Try.prog 172 = some (some 2) ∧
  aggN Try.prog 175 = some (some 5) ∧
  aggN Try.prog 187 = some (some 6) ∧
  apI Try.prog 170 = some (187, 6, 40) ∧
  bIs Try.prog 172 = true ∧
  bIs Try.prog 175 = true ∧
  bIs Try.prog 187 = true ∧
  csz Try.prog 3 = some 1 ∧
  csz Try.prog 169 = some 1 ∧
  csz Try.prog 170 = some 1 ∧
  csz Try.prog 172 = some 2 ∧
  csz Try.prog 175 = some 5 ∧
  csz Try.prog 187 = some 6 ∧
  eqF Try.prog 175 = some [.i, .i, .i, .i, .i] ∧
  eqF Try.prog 187 = some [.i, .i, .i, .i, .i, .i] ∧
  fIs Try.prog 172 0 = true ∧
  fIs Try.prog 172 1 = true ∧
  fIs Try.prog 187 0 = true ∧
  fIs Try.prog 187 1 = true ∧
  fOff Try.prog 172 0 = 0 ∧
  fOff Try.prog 172 1 = 1 ∧
  fOff Try.prog 187 0 = 0 ∧
  fOff Try.prog 187 1 = 5 ∧
  fTy Try.prog 172 0 = 3 ∧
  fTy Try.prog 172 1 = 170 ∧
  fTy Try.prog 187 0 = 175 ∧
  fTy Try.prog 187 1 = 3 ∧
  goes Try.prog 92 = true ∧
  goes Try.prog 161 = true ∧
  goes Try.prog 162 = true ∧
  goes Try.prog 163 = true ∧
  goes Try.prog 168 = true ∧
  inIs Try.prog 3 = some .i64 ∧
  plcs Try.prog 172 = [(0, 1), (1, 1)] ∧
  plcs Try.prog 175 = [(0, 1), (1, 1), (2, 1), (3, 1), (4, 1)] ∧
  plcs Try.prog 187 = [(0, 5), (5, 1)] ∧
  ptIs Try.prog 169 = true ∧
  slEl Try.prog 170 = 187 ∧
  slIs Try.prog 170 = true ∧
  slSz Try.prog 170 = 6 ∧
  zcs Try.prog 172 = [.int .i64 0, .slice none 0 0] ∧
  zcs Try.prog 175 = [.int .i64 0, .int .u32 0, .int .u32 0, .int .i64 0, .int .i64 0] ∧
  zcs Try.prog 187 = [.int .i64 0, .int .u32 0, .int .u32 0, .int .i64 0, .int .i64 0, .int .i64 0] ∧
  zro Try.prog 3 = some (.int .i64 0) ∧
  zro Try.prog 169 = some (.pointer none) ∧
  zro Try.prog 170 = some (.slice none 0 0) ∧
  zro Try.prog 172 = some (.agg #[.int .i64 0, .slice none 0 0]) ∧
  zro Try.prog 175 = some (.agg #[.int .i64 0, .int .u32 0, .int .u32 0, .int .i64 0, .int .i64 0]) ∧
  zro Try.prog 187 = some (.agg #[.int .i64 0, .int .u32 0, .int .u32 0, .int .i64 0, .int .i64 0, .int .i64 0]) :=
  ⟨by kernel_rfl, by kernel_rfl, by kernel_rfl, by kernel_rfl, by kernel_rfl, by kernel_rfl, by kernel_rfl, by kernel_rfl, by kernel_rfl, by kernel_rfl, by kernel_rfl, by kernel_rfl, by kernel_rfl, by kernel_rfl, by kernel_rfl, by kernel_rfl, by kernel_rfl, by kernel_rfl, by kernel_rfl, by kernel_rfl, by kernel_rfl, by kernel_rfl, by kernel_rfl, by kernel_rfl, by kernel_rfl, by kernel_rfl, by kernel_rfl, by kernel_rfl, by kernel_rfl, by kernel_rfl, by kernel_rfl, by kernel_rfl, by kernel_rfl, by kernel_rfl, by kernel_rfl, by kernel_rfl, by kernel_rfl, by kernel_rfl, by kernel_rfl, by kernel_rfl, by kernel_rfl, by kernel_rfl, by kernel_rfl, by kernel_rfl, by kernel_rfl, by kernel_rfl, by kernel_rfl, by kernel_rfl, by kernel_rfl, by kernel_rfl, by kernel_rfl, by kernel_rfl⟩
def D87_5 : List Note := Go.Sl.nn [0, 1, 0, 0, 0, 0, 1, 0, 0, 0, 3, 0]
def D90_6 : List Note := Go.Sl.nn [0, 0, 0, 1, 0, 0, 0, 1, 0]
def D94_5 : List Note := Go.Sl.nn [0, 0, 0, 0, 1, 1, 3, 0]
theorem cmp_ok {G : Hp} {u v : Value} {l m : List Rc} (hu : rcs G u l) (hv : rcs G v m) (hll : l.length ≤ 100000) : Con Try.prog G 90 [u, v] [] (fun r B => r = .bool (decide (l = m)) ∧ B = []) := by
  obtain ⟨a, n, c, rfl, e1, _⟩ := hu.slice
  obtain ⟨a', n', c', rfl, f1, _⟩ := hv.slice
  rw [flat_len Rc.len] at e1 f1
  obtain rfl : l.length = n := by omega
  obtain rfl : m.length = n' := by omega
  clear e1 f1
  refine Con.intro Try.func90 rfl (Nat.le_of_ble_eq_true (by kernel_rfl)) (by kernel_rfl) Try.results90 ?_
  intro H h
  by_cases hlen : l.length = m.length
  · have hl2 : (l.length : Int) = m.length := by omega
    ((try simp only [S, TY, reduceCtorEq, nq0, nq1, nq2, nq3, nq4, iq0, iq1, iq2, iq3, iq4, iq5, iq6, iq7, iq8, hl2]); (try (simp (disch := omega) only [W2, Int.cast_ofNat_Int]; (try simp only [S, TY, reduceCtorEq, nq0, nq1, nq2, nq3, nq4, iq0, iq1, iq2, iq3, iq4, iq5, iq6, iq7, iq8, hl2]))); repeat ((first | (refine cl_drawi 6 D90_6 (List.range 9) (by decide) (by kernel_rfl) ?_; unfold D90_6)); simp only [S, TY, reduceCtorEq, nq0, nq1, nq2, nq3, nq4, iq0, iq1, iq2, iq3, iq4, iq5, iq6, iq7, iq8, hl2]; (try (simp (disch := omega) only [W2, Int.cast_ofNat_Int]; (try simp only [S, TY, reduceCtorEq, nq0, nq1, nq2, nq3, nq4, iq0, iq1, iq2, iq3, iq4, iq5, iq6, iq7, iq8, hl2])))))
    refine cl_loop (fun i e H => i ≤ l.length ∧ e 0 = .slice a l.length c ∧ e 1 = .slice a' m.length c' ∧ e 5 = .int .i64 (i : Nat) ∧ (∀ j (hj : j < l.length), j < i → l[j] = m[j]'(hlen ▸ hj)) ∧ sg G [] H) (fun i => l.length - i) 0
      ⟨by omega, rfl, rfl, rfl, fun j hj h => by omega, h⟩ ?_
    clear h
    rintro i e H ⟨q1, q2, q3, q5, q6, h⟩
    by_cases g1 : (i : Int) < l.length
    · obtain ⟨b, off, hl, rfl, hc, hld⟩ := hu.el Rc.len (i := i) (by omega) (by omega)
      obtain ⟨b', off', hm, rfl, hc', hld'⟩ := hv.el Rc.len (i := i) (by omega) (by omega)
      have g0 : (0 : Int) ≤ i ∧ (i : Int) < l.length := ⟨by omega, g1⟩
      have g0' : (0 : Int) ≤ i ∧ (i : Int) < m.length := ⟨by omega, by omega⟩
      have el := h.rold hld
      have el' := h.rold hld'
      clear hc hc'
      obtain ⟨x, hx⟩ : ∃ x, l[i] = x := ⟨_, rfl⟩
      obtain ⟨y, hy⟩ : ∃ y, m[i] = y := ⟨_, rfl⟩
      rw [hx] at el
      rw [hy] at el'
      obtain ⟨⟨x1, x2, x3, x4, x5⟩, x6⟩ := x
      obtain ⟨⟨y1, y2, y3, y4, y5⟩, y6⟩ := y
      clear hld hld'
      ((try simp only [S, TY, reduceCtorEq, nq0, nq1, nq2, nq3, nq4, iq0, iq1, iq2, iq3, iq4, iq5, iq6, iq7, iq8, q2, q3, q5, g1, g0, g0', el, el']); (try (simp (disch := omega) only [W2, Int.cast_ofNat_Int]; (try simp only [S, TY, reduceCtorEq, nq0, nq1, nq2, nq3, nq4, iq0, iq1, iq2, iq3, iq4, iq5, iq6, iq7, iq8, q2, q3, q5, g1, g0, g0', el, el']))); repeat ((first | (refine cl_drawi 6 D90_6 (List.range 9) (by decide) (by kernel_rfl) ?_; unfold D90_6)); simp only [S, TY, reduceCtorEq, nq0, nq1, nq2, nq3, nq4, iq0, iq1, iq2, iq3, iq4, iq5, iq6, iq7, iq8, q2, q3, q5, g1, g0, g0', el, el']; (try (simp (disch := omega) only [W2, Int.cast_ofNat_Int]; (try simp only [S, TY, reduceCtorEq, nq0, nq1, nq2, nq3, nq4, iq0, iq1, iq2, iq3, iq4, iq5, iq6, iq7, iq8, q2, q3, q5, g1, g0, g0', el, el'])))))
      refine Gate.intro (fun g => ?_) (fun g => ?_)
      · ((try simp only [S, TY, reduceCtorEq, nq0, nq1, nq2, nq3, nq4, iq0, iq1, iq2, iq3, iq4, iq5, iq6, iq7, iq8, g]); (try (simp (disch := omega) only [W2, Int.cast_ofNat_Int]; (try simp only [S, TY, reduceCtorEq, nq0, nq1, nq2, nq3, nq4, iq0, iq1, iq2, iq3, iq4, iq5, iq6, iq7, iq8, g]))); repeat ((first | (refine cl_drawi 6 D90_6 (List.range 9) (by decide) (by kernel_rfl) ?_; unfold D90_6)); simp only [S, TY, reduceCtorEq, nq0, nq1, nq2, nq3, nq4, iq0, iq1, iq2, iq3, iq4, iq5, iq6, iq7, iq8, g]; (try (simp (disch := omega) only [W2, Int.cast_ofNat_Int]; (try simp only [S, TY, reduceCtorEq, nq0, nq1, nq2, nq3, nq4, iq0, iq1, iq2, iq3, iq4, iq5, iq6, iq7, iq8, g])))))
        have hne : ¬ l = m := by
          intro z
          subst z
          rw [hx] at hy
          cases hy
          simp at g
        exact fin_take (B := []) h ⟨by rw [decide_eq_false hne], rfl⟩
      · ((try simp only [S, TY, reduceCtorEq, nq0, nq1, nq2, nq3, nq4, iq0, iq1, iq2, iq3, iq4, iq5, iq6, iq7, iq8, g, q5]); (try (simp (disch := omega) only [W2, Int.cast_ofNat_Int]; (try simp only [S, TY, reduceCtorEq, nq0, nq1, nq2, nq3, nq4, iq0, iq1, iq2, iq3, iq4, iq5, iq6, iq7, iq8, g, q5]))); repeat ((first | (refine cl_drawi 6 D90_6 (List.range 9) (by decide) (by kernel_rfl) ?_; unfold D90_6)); simp only [S, TY, reduceCtorEq, nq0, nq1, nq2, nq3, nq4, iq0, iq1, iq2, iq3, iq4, iq5, iq6, iq7, iq8, g, q5]; (try (simp (disch := omega) only [W2, Int.cast_ofNat_Int]; (try simp only [S, TY, reduceCtorEq, nq0, nq1, nq2, nq3, nq4, iq0, iq1, iq2, iq3, iq4, iq5, iq6, iq7, iq8, g, q5])))))
        refine .go (i + 1) (by omega) ⟨by omega, q2, q3, rfl, fun j hj hji => ?_, h⟩
        by_cases hij : j = i
        · subst hij
          rw [hx, hy]
          simp at g
          obtain ⟨rfl, rfl, rfl, rfl, rfl, rfl⟩ := g
          rfl
        · exact q6 j hj (by omega)
    · have g2 : ¬ (i : Int) < m.length := by omega
      ((try simp only [S, TY, reduceCtorEq, nq0, nq1, nq2, nq3, nq4, iq0, iq1, iq2, iq3, iq4, iq5, iq6, iq7, iq8, q2, q3, q5, g1, g2]); (try (simp (disch := omega) only [W2, Int.cast_ofNat_Int]; (try simp only [S, TY, reduceCtorEq, nq0, nq1, nq2, nq3, nq4, iq0, iq1, iq2, iq3, iq4, iq5, iq6, iq7, iq8, q2, q3, q5, g1, g2]))); repeat ((first | (refine cl_drawi 6 D90_6 (List.range 9) (by decide) (by kernel_rfl) ?_; unfold D90_6)); simp only [S, TY, reduceCtorEq, nq0, nq1, nq2, nq3, nq4, iq0, iq1, iq2, iq3, iq4, iq5, iq6, iq7, iq8, q2, q3, q5, g1, g2]; (try (simp (disch := omega) only [W2, Int.cast_ofNat_Int]; (try simp only [S, TY, reduceCtorEq, nq0, nq1, nq2, nq3, nq4, iq0, iq1, iq2, iq3, iq4, iq5, iq6, iq7, iq8, q2, q3, q5, g1, g2])))))
      have heq : l = m := List.ext_getElem hlen fun j h1 h2 => q6 j h1 (by omega)
      exact fin_take (B := []) h ⟨by rw [decide_eq_true heq], rfl⟩
  · have hne : ¬ l = m := fun z => hlen (by rw [z])
    have hl2 : ¬ (l.length : Int) = m.length := by omega
    ((try simp only [S, TY, reduceCtorEq, nq0, nq1, nq2, nq3, nq4, iq0, iq1, iq2, iq3, iq4, iq5, iq6, iq7, iq8, hl2]); (try (simp (disch := omega) only [W2, Int.cast_ofNat_Int]; (try simp only [S, TY, reduceCtorEq, nq0, nq1, nq2, nq3, nq4, iq0, iq1, iq2, iq3, iq4, iq5, iq6, iq7, iq8, hl2]))); repeat ((first | (refine cl_drawi 6 D90_6 (List.range 9) (by decide) (by kernel_rfl) ?_; unfold D90_6)); simp only [S, TY, reduceCtorEq, nq0, nq1, nq2, nq3, nq4, iq0, iq1, iq2, iq3, iq4, iq5, iq6, iq7, iq8, hl2]; (try (simp (disch := omega) only [W2, Int.cast_ofNat_Int]; (try simp only [S, TY, reduceCtorEq, nq0, nq1, nq2, nq3, nq4, iq0, iq1, iq2, iq3, iq4, iq5, iq6, iq7, iq8, hl2])))))
    exact fin_take (B := []) h ⟨by rw [decide_eq_false hne], rfl⟩
theorem dNote_ok {G : Hp} {p : Nat} {life : Int} {l : List Rc} (f : Fw) (now : Int) (h1 : 1 ≤ life) (h2 : life ≤ 2147483648) (hll : l.length ≤ 5000) :
    Con Try.prog G 87 [.pointer (some ⟨p, 0, none⟩), f.v, .int .i64 now] [dT p life l] (fun r B => r = .int .i64 (note life l f now).2 ∧ B = [dT p life (note life l f now).1]) := by
  obtain ⟨res, hres⟩ : ∃ r, note life l f now = r := ⟨_, rfl⟩
  rw [hres]
  unfold note at hres
  obtain ⟨b1, hb1⟩ : ∃ b, tok now = b := ⟨_, rfl⟩
  obtain ⟨b2, hb2⟩ : ∃ b, Fw.ok f = b := ⟨_, rfl⟩
  rw [hb1, hb2] at hres
  obtain ⟨p1, s1, d1, a1, c1⟩ := f
  refine Con.intro Try.func87 rfl (Nat.le_of_ble_eq_true (by kernel_rfl)) (by kernel_rfl) Try.results87 ?_
  intro H h
  ((try simp only [S, TY, reduceCtorEq, nq0, nq1, nq2, nq3, nq4, iq0, iq1, iq2, iq3, iq4, iq5, iq6, iq7, iq8]); (try (simp (disch := omega) only [W2, Int.cast_ofNat_Int]; (try simp only [S, TY, reduceCtorEq, nq0, nq1, nq2, nq3, nq4, iq0, iq1, iq2, iq3, iq4, iq5, iq6, iq7, iq8]))); repeat ((first | (refine cl_drawi 5 D87_5 (List.range 12) (by decide) (by kernel_rfl) ?_; unfold D87_5)); simp only [S, TY, reduceCtorEq, nq0, nq1, nq2, nq3, nq4, iq0, iq1, iq2, iq3, iq4, iq5, iq6, iq7, iq8]; (try (simp (disch := omega) only [W2, Int.cast_ofNat_Int]; (try simp only [S, TY, reduceCtorEq, nq0, nq1, nq2, nq3, nq4, iq0, iq1, iq2, iq3, iq4, iq5, iq6, iq7, iq8])))))
  intro q hq hg
  have h3 := h.new hq hg (.cells (Fw.l ⟨p1, s1, d1, a1, c1⟩).toArray 175 (0, 0))
  have w3 := h3.li 0 rfl
  ((try simp only [S, TY, reduceCtorEq, nq0, nq1, nq2, nq3, nq4, iq0, iq1, iq2, iq3, iq4, iq5, iq6, iq7, iq8, w3]); (try (simp (disch := omega) only [W2, Int.cast_ofNat_Int]; (try simp only [S, TY, reduceCtorEq, nq0, nq1, nq2, nq3, nq4, iq0, iq1, iq2, iq3, iq4, iq5, iq6, iq7, iq8, w3]))); repeat ((first | (refine cl_drawi 5 D87_5 (List.range 12) (by decide) (by kernel_rfl) ?_; unfold D87_5)); simp only [S, TY, reduceCtorEq, nq0, nq1, nq2, nq3, nq4, iq0, iq1, iq2, iq3, iq4, iq5, iq6, iq7, iq8, w3]; (try (simp (disch := omega) only [W2, Int.cast_ofNat_Int]; (try simp only [S, TY, reduceCtorEq, nq0, nq1, nq2, nq3, nq4, iq0, iq1, iq2, iq3, iq4, iq5, iq6, iq7, iq8, w3])))))
  refine (diRight_ok ⟨p1, s1, d1, a1, c1⟩).at_ h3 [] _ rfl fun r B H4 hr h4 => ?_
  obtain ⟨rfl, rfl⟩ := hr
  rw [hb2]
  cases b2 with
  | false =>
    rw [if_neg (by simp)] at hres
    subst hres
    ((try simp only [S, TY, reduceCtorEq, nq0, nq1, nq2, nq3, nq4, iq0, iq1, iq2, iq3, iq4, iq5, iq6, iq7, iq8]); (try (simp (disch := omega) only [W2, Int.cast_ofNat_Int]; (try simp only [S, TY, reduceCtorEq, nq0, nq1, nq2, nq3, nq4, iq0, iq1, iq2, iq3, iq4, iq5, iq6, iq7, iq8]))); repeat ((first | (refine cl_drawi 5 D87_5 (List.range 12) (by decide) (by kernel_rfl) ?_; unfold D87_5)); simp only [S, TY, reduceCtorEq, nq0, nq1, nq2, nq3, nq4, iq0, iq1, iq2, iq3, iq4, iq5, iq6, iq7, iq8]; (try (simp (disch := omega) only [W2, Int.cast_ofNat_Int]; (try simp only [S, TY, reduceCtorEq, nq0, nq1, nq2, nq3, nq4, iq0, iq1, iq2, iq3, iq4, iq5, iq6, iq7, iq8])))))
    exact fin_take (B := [_]) (h4.front 1) ⟨rfl, rfl⟩
  | true =>
    ((try simp only [S, TY, reduceCtorEq, nq0, nq1, nq2, nq3, nq4, iq0, iq1, iq2, iq3, iq4, iq5, iq6, iq7, iq8]); (try (simp (disch := omega) only [W2, Int.cast_ofNat_Int]; (try simp only [S, TY, reduceCtorEq, nq0, nq1, nq2, nq3, nq4, iq0, iq1, iq2, iq3, iq4, iq5, iq6, iq7, iq8]))); repeat ((first | (refine cl_drawi 5 D87_5 (List.range 12) (by decide) (by kernel_rfl) ?_; unfold D87_5)); simp only [S, TY, reduceCtorEq, nq0, nq1, nq2, nq3, nq4, iq0, iq1, iq2, iq3, iq4, iq5, iq6, iq7, iq8]; (try (simp (disch := omega) only [W2, Int.cast_ofNat_Int]; (try simp only [S, TY, reduceCtorEq, nq0, nq1, nq2, nq3, nq4, iq0, iq1, iq2, iq3, iq4, iq5, iq6, iq7, iq8])))))
    refine (dtime_ok now).at_ h4 [] _ rfl fun r B H5 hr h5 => ?_
    obtain ⟨rfl, rfl⟩ := hr
    rw [hb1]
    cases b1 with
    | false =>
      rw [if_neg (by simp)] at hres
      subst hres
      ((try simp only [S, TY, reduceCtorEq, nq0, nq1, nq2, nq3, nq4, iq0, iq1, iq2, iq3, iq4, iq5, iq6, iq7, iq8]); (try (simp (disch := omega) only [W2, Int.cast_ofNat_Int]; (try simp only [S, TY, reduceCtorEq, nq0, nq1, nq2, nq3, nq4, iq0, iq1, iq2, iq3, iq4, iq5, iq6, iq7, iq8]))); repeat ((first | (refine cl_drawi 5 D87_5 (List.range 12) (by decide) (by kernel_rfl) ?_; unfold D87_5)); simp only [S, TY, reduceCtorEq, nq0, nq1, nq2, nq3, nq4, iq0, iq1, iq2, iq3, iq4, iq5, iq6, iq7, iq8]; (try (simp (disch := omega) only [W2, Int.cast_ofNat_Int]; (try simp only [S, TY, reduceCtorEq, nq0, nq1, nq2, nq3, nq4, iq0, iq1, iq2, iq3, iq4, iq5, iq6, iq7, iq8])))))
      exact fin_take (B := [_]) (h5.front 1) ⟨rfl, rfl⟩
    | true =>
      have hnow : 0 ≤ now ∧ now ≤ 1099511627776 := by unfold tok at hb1; simpa using hb1
      rw [if_pos (by simp)] at hres
      ((try simp only [S, TY, reduceCtorEq, nq0, nq1, nq2, nq3, nq4, iq0, iq1, iq2, iq3, iq4, iq5, iq6, iq7, iq8]); (try (simp (disch := omega) only [W2, Int.cast_ofNat_Int]; (try simp only [S, TY, reduceCtorEq, nq0, nq1, nq2, nq3, nq4, iq0, iq1, iq2, iq3, iq4, iq5, iq6, iq7, iq8]))); repeat ((first | (refine cl_drawi 5 D87_5 (List.range 12) (by decide) (by kernel_rfl) ?_; unfold D87_5)); simp only [S, TY, reduceCtorEq, nq0, nq1, nq2, nq3, nq4, iq0, iq1, iq2, iq3, iq4, iq5, iq6, iq7, iq8]; (try (simp (disch := omega) only [W2, Int.cast_ofNat_Int]; (try simp only [S, TY, reduceCtorEq, nq0, nq1, nq2, nq3, nq4, iq0, iq1, iq2, iq3, iq4, iq5, iq6, iq7, iq8])))))
      refine (dRecords_ok (now := now) (by omega)).at_ h5 [1] _ rfl fun r B H6 hr h6 => ?_
      subst hr
      obtain ⟨ra, rn, rc, rfl, _, _⟩ := h6.sl 0 rfl Rd_own
      simp only [front_eq, fronts_nil, fronts_cons, List.getElem?_cons_zero, List.getElem?_cons_succ, List.eraseIdx_cons_zero, List.eraseIdx_cons_succ, List.cons_append, List.nil_append, putL_cons, putL_nil, List.set_cons_zero, List.set_cons_succ, Nat.reduceAdd] at h6
      obtain ⟨ta, tc, _, h7⟩ := dT_open (h6.front 1)
      simp only [front_eq, fronts_nil, fronts_cons, List.getElem?_cons_zero, List.getElem?_cons_succ, List.eraseIdx_cons_zero, List.eraseIdx_cons_succ, List.cons_append, List.nil_append, putL_cons, putL_nil, List.set_cons_zero, List.set_cons_succ, Nat.reduceAdd] at h7
      ((try simp only [S, TY, reduceCtorEq, nq0, nq1, nq2, nq3, nq4, iq0, iq1, iq2, iq3, iq4, iq5, iq6, iq7, iq8]); (try (simp (disch := omega) only [W2, Int.cast_ofNat_Int]; (try simp only [S, TY, reduceCtorEq, nq0, nq1, nq2, nq3, nq4, iq0, iq1, iq2, iq3, iq4, iq5, iq6, iq7, iq8]))); repeat ((first | (refine cl_drawi 5 D87_5 (List.range 12) (by decide) (by kernel_rfl) ?_; unfold D87_5)); simp only [S, TY, reduceCtorEq, nq0, nq1, nq2, nq3, nq4, iq0, iq1, iq2, iq3, iq4, iq5, iq6, iq7, iq8]; (try (simp (disch := omega) only [W2, Int.cast_ofNat_Int]; (try simp only [S, TY, reduceCtorEq, nq0, nq1, nq2, nq3, nq4, iq0, iq1, iq2, iq3, iq4, iq5, iq6, iq7, iq8])))))
      refine sg.st h7 rfl rfl fun H8 h8 => ?_
      simp only [front_eq, fronts_nil, fronts_cons, List.getElem?_cons_zero, List.getElem?_cons_succ, List.eraseIdx_cons_zero, List.eraseIdx_cons_succ, List.cons_append, List.nil_append, putL_cons, putL_nil, List.set_cons_zero, List.set_cons_succ, Nat.reduceAdd] at h8
      have c8 := h8.c0
      have w8 := h8.li 3 rfl
      have hmn : (if (1099511627776 : Int) < now + life then (1099511627776 : Int) else now + life) = min (now + life) 1099511627776 := by split <;> omega
      have wnl : IntKind.i64.wrap (now + life) = now + life := by rw [wrap_id] <;> omega
      ((try simp only [S, TY, reduceCtorEq, nq0, nq1, nq2, nq3, nq4, iq0, iq1, iq2, iq3, iq4, iq5, iq6, iq7, iq8, c8, w8, wnl, hmn]); (try (simp (disch := omega) only [W2, Int.cast_ofNat_Int]; (try simp only [S, TY, reduceCtorEq, nq0, nq1, nq2, nq3, nq4, iq0, iq1, iq2, iq3, iq4, iq5, iq6, iq7, iq8, c8, w8, wnl, hmn]))); repeat ((first | (refine cl_drawi 5 D87_5 (List.range 12) (by decide) (by kernel_rfl) ?_; unfold D87_5)); simp only [S, TY, reduceCtorEq, nq0, nq1, nq2, nq3, nq4, iq0, iq1, iq2, iq3, iq4, iq5, iq6, iq7, iq8, c8, w8, wnl, hmn]; (try (simp (disch := omega) only [W2, Int.cast_ofNat_Int]; (try simp only [S, TY, reduceCtorEq, nq0, nq1, nq2, nq3, nq4, iq0, iq1, iq2, iq3, iq4, iq5, iq6, iq7, iq8, c8, w8, wnl, hmn])))))
      have h9 := dT_shut (h8.fronts [0, 1])
      refine (dput_ok ⟨⟨p1, s1, d1, a1, c1⟩, min (now + life) 1099511627776⟩ (by have := live_len l now; omega)).at_ h9 [0] _ rfl fun r B H10 hr h10 => ?_
      obtain ⟨rfl, rfl⟩ := hr
      obtain ⟨⟨m, ok⟩, hm⟩ : ∃ r, put (live l now) ⟨⟨p1, s1, d1, a1, c1⟩, min (now + life) 1099511627776⟩ = r := ⟨_, rfl⟩
      rw [hm] at hres h10 ⊢
      simp only at hres h10 ⊢
      cases ok with
      | true =>
        subst hres
        ((try simp only [S, TY, reduceCtorEq, nq0, nq1, nq2, nq3, nq4, iq0, iq1, iq2, iq3, iq4, iq5, iq6, iq7, iq8]); (try (simp (disch := omega) only [W2, Int.cast_ofNat_Int]; (try simp only [S, TY, reduceCtorEq, nq0, nq1, nq2, nq3, nq4, iq0, iq1, iq2, iq3, iq4, iq5, iq6, iq7, iq8]))); repeat ((first | (refine cl_drawi 5 D87_5 (List.range 12) (by decide) (by kernel_rfl) ?_; unfold D87_5)); simp only [S, TY, reduceCtorEq, nq0, nq1, nq2, nq3, nq4, iq0, iq1, iq2, iq3, iq4, iq5, iq6, iq7, iq8]; (try (simp (disch := omega) only [W2, Int.cast_ofNat_Int]; (try simp only [S, TY, reduceCtorEq, nq0, nq1, nq2, nq3, nq4, iq0, iq1, iq2, iq3, iq4, iq5, iq6, iq7, iq8])))))
        exact fin_take (B := [_]) h10 ⟨rfl, rfl⟩
      | false =>
        subst hres
        ((try simp only [S, TY, reduceCtorEq, nq0, nq1, nq2, nq3, nq4, iq0, iq1, iq2, iq3, iq4, iq5, iq6, iq7, iq8]); (try (simp (disch := omega) only [W2, Int.cast_ofNat_Int]; (try simp only [S, TY, reduceCtorEq, nq0, nq1, nq2, nq3, nq4, iq0, iq1, iq2, iq3, iq4, iq5, iq6, iq7, iq8]))); repeat ((first | (refine cl_drawi 5 D87_5 (List.range 12) (by decide) (by kernel_rfl) ?_; unfold D87_5)); simp only [S, TY, reduceCtorEq, nq0, nq1, nq2, nq3, nq4, iq0, iq1, iq2, iq3, iq4, iq5, iq6, iq7, iq8]; (try (simp (disch := omega) only [W2, Int.cast_ofNat_Int]; (try simp only [S, TY, reduceCtorEq, nq0, nq1, nq2, nq3, nq4, iq0, iq1, iq2, iq3, iq4, iq5, iq6, iq7, iq8])))))
        exact fin_take (B := [_]) h10 ⟨rfl, rfl⟩
theorem dKnown_ok {G : Hp} {p : Nat} {life : Int} {l : List Rc} (f : Fw) (now : Int) (hll : l.length ≤ 5000) :
    Con Try.prog G 94 [.pointer (some ⟨p, 0, none⟩), f.v, .int .i64 now] [dT p life l] (fun r B => r = .bool (known l f now) ∧ B = [dT p life l]) := by
  obtain ⟨res, hres⟩ : ∃ r, known l f now = r := ⟨_, rfl⟩
  rw [hres]
  unfold known at hres
  have hlv := live_len l now
  obtain ⟨m, hm⟩ : ∃ m, live l now = m := ⟨_, rfl⟩
  rw [hm] at hres hlv
  obtain ⟨p1, s1, d1, a1, c1⟩ := f
  refine Con.intro Try.func94 rfl (Nat.le_of_ble_eq_true (by kernel_rfl)) (by kernel_rfl) Try.results94 ?_
  intro H h
  ((try simp only [S, TY, reduceCtorEq, nq0, nq1, nq2, nq3, nq4, iq0, iq1, iq2, iq3, iq4, iq5, iq6, iq7, iq8]); (try (simp (disch := omega) only [W2, Int.cast_ofNat_Int]; (try simp only [S, TY, reduceCtorEq, nq0, nq1, nq2, nq3, nq4, iq0, iq1, iq2, iq3, iq4, iq5, iq6, iq7, iq8]))); repeat ((first | (refine cl_drawi 5 D94_5 (List.range 8) (by decide) (by kernel_rfl) ?_; unfold D94_5)); simp only [S, TY, reduceCtorEq, nq0, nq1, nq2, nq3, nq4, iq0, iq1, iq2, iq3, iq4, iq5, iq6, iq7, iq8]; (try (simp (disch := omega) only [W2, Int.cast_ofNat_Int]; (try simp only [S, TY, reduceCtorEq, nq0, nq1, nq2, nq3, nq4, iq0, iq1, iq2, iq3, iq4, iq5, iq6, iq7, iq8])))))
  intro q hq hg
  have h3 := h.new hq hg (.cells (Fw.l ⟨p1, s1, d1, a1, c1⟩).toArray 175 (0, 0))
  ((try simp only [S, TY, reduceCtorEq, nq0, nq1, nq2, nq3, nq4, iq0, iq1, iq2, iq3, iq4, iq5, iq6, iq7, iq8]); (try (simp (disch := omega) only [W2, Int.cast_ofNat_Int]; (try simp only [S, TY, reduceCtorEq, nq0, nq1, nq2, nq3, nq4, iq0, iq1, iq2, iq3, iq4, iq5, iq6, iq7, iq8]))); repeat ((first | (refine cl_drawi 5 D94_5 (List.range 8) (by decide) (by kernel_rfl) ?_; unfold D94_5)); simp only [S, TY, reduceCtorEq, nq0, nq1, nq2, nq3, nq4, iq0, iq1, iq2, iq3, iq4, iq5, iq6, iq7, iq8]; (try (simp (disch := omega) only [W2, Int.cast_ofNat_Int]; (try simp only [S, TY, reduceCtorEq, nq0, nq1, nq2, nq3, nq4, iq0, iq1, iq2, iq3, iq4, iq5, iq6, iq7, iq8])))))
  refine (dRecords_ok (now := now) (by omega)).at_ h3 [1] _ rfl fun r B H6 hr h6 => ?_
  subst hr
  rw [hm] at h6
  obtain ⟨ra, rn, rc, rfl, e1, _⟩ := h6.sl 0 rfl Rd_own
  rw [flat_len Rc.len] at e1
  obtain rfl : m.length = rn := by omega
  simp only [front_eq, fronts_nil, fronts_cons, List.getElem?_cons_zero, List.getElem?_cons_succ, List.eraseIdx_cons_zero, List.eraseIdx_cons_succ, List.cons_append, List.nil_append, putL_cons, putL_nil, List.set_cons_zero, List.set_cons_succ, Nat.reduceAdd] at h6
  ((try simp only [S, TY, reduceCtorEq, nq0, nq1, nq2, nq3, nq4, iq0, iq1, iq2, iq3, iq4, iq5, iq6, iq7, iq8]); (try (simp (disch := omega) only [W2, Int.cast_ofNat_Int]; (try simp only [S, TY, reduceCtorEq, nq0, nq1, nq2, nq3, nq4, iq0, iq1, iq2, iq3, iq4, iq5, iq6, iq7, iq8]))); repeat ((first | (refine cl_drawi 5 D94_5 (List.range 8) (by decide) (by kernel_rfl) ?_; unfold D94_5)); simp only [S, TY, reduceCtorEq, nq0, nq1, nq2, nq3, nq4, iq0, iq1, iq2, iq3, iq4, iq5, iq6, iq7, iq8]; (try (simp (disch := omega) only [W2, Int.cast_ofNat_Int]; (try simp only [S, TY, reduceCtorEq, nq0, nq1, nq2, nq3, nq4, iq0, iq1, iq2, iq3, iq4, iq5, iq6, iq7, iq8])))))
  refine cl_loop (fun i e H => i ≤ m.length ∧ e 4 = .pointer (some ⟨q, 0, none⟩) ∧ e 7 = .slice ra m.length rc ∧ e 8 = .int .i64 (i : Nat) ∧ (∀ y ∈ m.take i, alike y.f ⟨p1, s1, d1, a1, c1⟩ = false) ∧
      sg G [own 187 6 (.slice ra m.length rc) (m.flatMap Rc.l), dT p life l, pF q ⟨p1, s1, d1, a1, c1⟩] H) (fun i : Nat => m.length - i) 0
    ⟨by omega, rfl, rfl, rfl, by simp, h6⟩ ?_
  clear h h3 h6
  rintro i e H ⟨q1, q4, q7, q8, hb, h⟩
  by_cases g1 : (i : Int) < m.length
  · have hi : i < m.length := by omega
    obtain ⟨b, off, hl', rfl, hcc, hld⟩ := (h.rdsi 0 rfl Rd_own).el Rc.len (i := i) hi (by omega)
    have g0 : (0 : Int) ≤ i ∧ (i : Int) < m.length := ⟨by omega, g1⟩
    have fl : ldl (H.un G) ⟨b, off + i * 6, none⟩ 0 5 = some (Fw.l m[i].f) := by
      have := ldl_of (R := H.un G) (b := b) (off := off + i * 6) (xs := Fw.l m[i].f) (fun k hk => by
        simp only [List.length_cons, List.length_nil] at hk
        rw [hcc k (by omega)]
        obtain rfl | rfl | rfl | rfl | rfl : k = 0 ∨ k = 1 ∨ k = 2 ∨ k = 3 ∨ k = 4 := by omega
        all_goals rfl) 5 0 (by simp)
      simpa using this
    have hs : m.take (i + 1) = m.take i ++ [m[i]] := by rw [List.take_add_one, List.getElem?_eq_getElem hi]; rfl
    have w1 := h.li 2 rfl
    ((try simp only [S, TY, reduceCtorEq, nq0, nq1, nq2, nq3, nq4, iq0, iq1, iq2, iq3, iq4, iq5, iq6, iq7, iq8, q4, q7, q8, g1, g0, fl, w1]); (try (simp (disch := omega) only [W2, Int.cast_ofNat_Int]; (try simp only [S, TY, reduceCtorEq, nq0, nq1, nq2, nq3, nq4, iq0, iq1, iq2, iq3, iq4, iq5, iq6, iq7, iq8, q4, q7, q8, g1, g0, fl, w1]))); repeat ((first | (refine cl_drawi 5 D94_5 (List.range 8) (by decide) (by kernel_rfl) ?_; unfold D94_5)); simp only [S, TY, reduceCtorEq, nq0, nq1, nq2, nq3, nq4, iq0, iq1, iq2, iq3, iq4, iq5, iq6, iq7, iq8, q4, q7, q8, g1, g0, fl, w1]; (try (simp (disch := omega) only [W2, Int.cast_ofNat_Int]; (try simp only [S, TY, reduceCtorEq, nq0, nq1, nq2, nq3, nq4, iq0, iq1, iq2, iq3, iq4, iq5, iq6, iq7, iq8, q4, q7, q8, g1, g0, fl, w1])))))
    refine (dAlike_ok m[i].f ⟨p1, s1, d1, a1, c1⟩).at_ h [] _ rfl fun r B H5 hr h5 => ?_
    obtain ⟨rfl, rfl⟩ := hr
    cases hal : alike m[i].f ⟨p1, s1, d1, a1, c1⟩ with
    | true =>
      have : res = true := by
        rw [← hres, List.any_eq_true]
        exact ⟨m[i], List.getElem_mem hi, hal⟩
      subst this
      ((try simp only [S, TY, reduceCtorEq, nq0, nq1, nq2, nq3, nq4, iq0, iq1, iq2, iq3, iq4, iq5, iq6, iq7, iq8, q4, q7, q8]); (try (simp (disch := omega) only [W2, Int.cast_ofNat_Int]; (try simp only [S, TY, reduceCtorEq, nq0, nq1, nq2, nq3, nq4, iq0, iq1, iq2, iq3, iq4, iq5, iq6, iq7, iq8, q4, q7, q8]))); repeat ((first | (refine cl_drawi 5 D94_5 (List.range 8) (by decide) (by kernel_rfl) ?_; unfold D94_5)); simp only [S, TY, reduceCtorEq, nq0, nq1, nq2, nq3, nq4, iq0, iq1, iq2, iq3, iq4, iq5, iq6, iq7, iq8, q4, q7, q8]; (try (simp (disch := omega) only [W2, Int.cast_ofNat_Int]; (try simp only [S, TY, reduceCtorEq, nq0, nq1, nq2, nq3, nq4, iq0, iq1, iq2, iq3, iq4, iq5, iq6, iq7, iq8, q4, q7, q8])))))
      exact fin_take (B := [_]) (h5.front 1) ⟨rfl, rfl⟩
    | false =>
      ((try simp only [S, TY, reduceCtorEq, nq0, nq1, nq2, nq3, nq4, iq0, iq1, iq2, iq3, iq4, iq5, iq6, iq7, iq8, q4, q7, q8]); (try (simp (disch := omega) only [W2, Int.cast_ofNat_Int]; (try simp only [S, TY, reduceCtorEq, nq0, nq1, nq2, nq3, nq4, iq0, iq1, iq2, iq3, iq4, iq5, iq6, iq7, iq8, q4, q7, q8]))); repeat ((first | (refine cl_drawi 5 D94_5 (List.range 8) (by decide) (by kernel_rfl) ?_; unfold D94_5)); simp only [S, TY, reduceCtorEq, nq0, nq1, nq2, nq3, nq4, iq0, iq1, iq2, iq3, iq4, iq5, iq6, iq7, iq8, q4, q7, q8]; (try (simp (disch := omega) only [W2, Int.cast_ofNat_Int]; (try simp only [S, TY, reduceCtorEq, nq0, nq1, nq2, nq3, nq4, iq0, iq1, iq2, iq3, iq4, iq5, iq6, iq7, iq8, q4, q7, q8])))))
      refine .go (i + 1) (by omega) ⟨by omega, q4, q7, rfl, ?_, h5⟩
      intro y hy
      rw [hs] at hy
      rcases List.mem_append.1 hy with hy | hy
      · exact hb y hy
      · rw [List.mem_singleton] at hy; subst hy; exact hal
  · rw [List.take_of_length_le (by omega)] at hb
    have : res = false := by
      rw [← hres, List.any_eq_false]
      intro x hx
      rw [hb x hx]; decide
    subst this
    ((try simp only [S, TY, reduceCtorEq, nq0, nq1, nq2, nq3, nq4, iq0, iq1, iq2, iq3, iq4, iq5, iq6, iq7, iq8, q4, q7, q8, g1]); (try (simp (disch := omega) only [W2, Int.cast_ofNat_Int]; (try simp only [S, TY, reduceCtorEq, nq0, nq1, nq2, nq3, nq4, iq0, iq1, iq2, iq3, iq4, iq5, iq6, iq7, iq8, q4, q7, q8, g1]))); repeat ((first | (refine cl_drawi 5 D94_5 (List.range 8) (by decide) (by kernel_rfl) ?_; unfold D94_5)); simp only [S, TY, reduceCtorEq, nq0, nq1, nq2, nq3, nq4, iq0, iq1, iq2, iq3, iq4, iq5, iq6, iq7, iq8, q4, q7, q8, g1]; (try (simp (disch := omega) only [W2, Int.cast_ofNat_Int]; (try simp only [S, TY, reduceCtorEq, nq0, nq1, nq2, nq3, nq4, iq0, iq1, iq2, iq3, iq4, iq5, iq6, iq7, iq8, q4, q7, q8, g1])))))
    exact fin_take (B := [_]) (h.front 1) ⟨rfl, rfl⟩
theorem dImport_ok {G : Hp} {p : Nat} {life : Int} {l m : List Rc} {u : Value} (now : Int) (hu : rcs G u m) (hml : m.length ≤ 1000) (hll : l.length ≤ 5000) :
    Con Try.prog G 89 [.pointer (some ⟨p, 0, none⟩), .int .i64 now, u] [dT p life l] (fun r B => r = .int .i64 ((imp l now m).2 : Nat) ∧ B = [dT p life (imp l now m).1]) := by
  obtain ⟨res, hres⟩ : ∃ r, imp l now m = r := ⟨_, rfl⟩
  rw [hres]
  unfold imp at hres
  obtain ⟨b1, hb1⟩ : ∃ b, tok now = b := ⟨_, rfl⟩
  rw [hb1] at hres
  obtain ⟨a, n, c, rfl, e1, e2⟩ := hu.slice
  rw [flat_len Rc.len] at e1
  obtain rfl : m.length = n := by omega
  clear e1
  refine Con.intro Try.func89 rfl (Nat.le_of_ble_eq_true (by kernel_rfl)) (by kernel_rfl) Try.results89 ?_
  intro H h
  ((try simp only [S, TY, reduceCtorEq, nq0, nq1, nq2, nq3, nq4, iq0, iq1, iq2, iq3, iq4, iq5, iq6, iq7, iq8]); (try (simp (disch := omega) only [W2, Int.cast_ofNat_Int]; (try simp only [S, TY, reduceCtorEq, nq0, nq1, nq2, nq3, nq4, iq0, iq1, iq2, iq3, iq4, iq5, iq6, iq7, iq8]))))
  refine (dtime_ok now).at_ h [] _ rfl fun r B H4 hr h4 => ?_
  obtain ⟨rfl, rfl⟩ := hr
  rw [hb1]
  cases b1 with
  | false =>
    rw [if_neg (by decide)] at hres
    subst hres
    ((try simp only [S, TY, reduceCtorEq, nq0, nq1, nq2, nq3, nq4, iq0, iq1, iq2, iq3, iq4, iq5, iq6, iq7, iq8]); (try (simp (disch := omega) only [W2, Int.cast_ofNat_Int]; (try simp only [S, TY, reduceCtorEq, nq0, nq1, nq2, nq3, nq4, iq0, iq1, iq2, iq3, iq4, iq5, iq6, iq7, iq8]))))
    exact fin_take (B := [_]) h4 ⟨rfl, rfl⟩
  | true =>
    rw [if_pos rfl] at hres
    ((try simp only [S, TY, reduceCtorEq, nq0, nq1, nq2, nq3, nq4, iq0, iq1, iq2, iq3, iq4, iq5, iq6, iq7, iq8]); (try (simp (disch := omega) only [W2, Int.cast_ofNat_Int]; (try simp only [S, TY, reduceCtorEq, nq0, nq1, nq2, nq3, nq4, iq0, iq1, iq2, iq3, iq4, iq5, iq6, iq7, iq8]))))
    refine (dRecords_ok (now := now) (by omega)).at_ h4 [0] _ rfl fun r B H6 hr h6 => ?_
    subst hr
    obtain ⟨ra, rn, rc, rfl, _, _⟩ := h6.sl 0 rfl Rd_own
    simp only [front_eq, fronts_nil, fronts_cons, List.getElem?_cons_zero, List.getElem?_cons_succ, List.eraseIdx_cons_zero, List.eraseIdx_cons_succ, List.cons_append, List.nil_append, putL_cons, putL_nil, List.set_cons_zero, List.set_cons_succ, Nat.reduceAdd] at h6
    obtain ⟨ta, tc, _, h7⟩ := dT_open (h6.front 1)
    simp only [front_eq, fronts_nil, fronts_cons, List.getElem?_cons_zero, List.getElem?_cons_succ, List.eraseIdx_cons_zero, List.eraseIdx_cons_succ, List.cons_append, List.nil_append, putL_cons, putL_nil, List.set_cons_zero, List.set_cons_succ, Nat.reduceAdd] at h7
    ((try simp only [S, TY, reduceCtorEq, nq0, nq1, nq2, nq3, nq4, iq0, iq1, iq2, iq3, iq4, iq5, iq6, iq7, iq8]); (try (simp (disch := omega) only [W2, Int.cast_ofNat_Int]; (try simp only [S, TY, reduceCtorEq, nq0, nq1, nq2, nq3, nq4, iq0, iq1, iq2, iq3, iq4, iq5, iq6, iq7, iq8]))))
    refine sg.st h7 rfl rfl fun H8 h8 => ?_
    simp only [front_eq, fronts_nil, fronts_cons, List.getElem?_cons_zero, List.getElem?_cons_succ, List.eraseIdx_cons_zero, List.eraseIdx_cons_succ, List.cons_append, List.nil_append, putL_cons, putL_nil, List.set_cons_zero, List.set_cons_succ, Nat.reduceAdd] at h8
    have h9 := dT_shut (h8.fronts [0, 1])
    ((try simp only [S, TY, reduceCtorEq, nq0, nq1, nq2, nq3, nq4, iq0, iq1, iq2, iq3, iq4, iq5, iq6, iq7, iq8]); (try (simp (disch := omega) only [W2, Int.cast_ofNat_Int]; (try simp only [S, TY, reduceCtorEq, nq0, nq1, nq2, nq3, nq4, iq0, iq1, iq2, iq3, iq4, iq5, iq6, iq7, iq8]))))
    refine cl_loop (fun i e H => i ≤ m.length ∧ e 0 = .pointer (some ⟨p, 0, none⟩) ∧ e 1 = .int .i64 now ∧ e 2 = .slice a m.length c ∧ e 8 = .int .i64 (i : Nat) ∧
        ∃ cur cnt, (m.take i).foldl (istep now) (live l now, 0) = (cur, cnt) ∧ cur.length ≤ l.length + i ∧ cnt ≤ i ∧ e 7 = .int .i64 (cnt : Nat) ∧ sg G [dT p life cur] H) (fun i : Nat => m.length - i) 0
      ⟨by omega, rfl, rfl, rfl, rfl, live l now, 0, rfl, live_len l now, by omega, rfl, h9.take1⟩ ?_
    clear h h4 h6 h7 h8 h9
    rintro i e H ⟨q1, q0, qn, q2, q8, cur, cnt, hfold, hcl, hcn, q7, h⟩
    by_cases g1 : (i : Int) < m.length
    · obtain ⟨b, off, hl, rfl, hc, hld⟩ := hu.el Rc.len (i := i) (by omega) (by omega)
      have g0 : (0 : Int) ≤ i ∧ (i : Int) < m.length := ⟨by omega, g1⟩
      have hs : m.take (i + 1) = m.take i ++ [m[i]] := by rw [List.take_add_one, List.getElem?_eq_getElem hl]; rfl
      have e5 := hc 5 (by decide)
      simp only [List.getElem?_cons_zero, List.getElem?_cons_succ] at e5
      have flG : ldl G ⟨b, off + i * 6, none⟩ 0 5 = some (Fw.l m[i].f) := by
        have := ldl_of (R := G) (b := b) (off := off + i * 6) (xs := Fw.l m[i].f) (fun k hk => by
          simp only [List.length_cons, List.length_nil] at hk
          rw [hc k (by omega)]
          obtain rfl | rfl | rfl | rfl | rfl : k = 0 ∨ k = 1 ∨ k = 2 ∨ k = 3 ∨ k = 4 := by omega
          all_goals rfl) 5 0 (by simp)
        simpa using this
      obtain ⟨x, hx⟩ : ∃ x, m[i] = x := ⟨_, rfl⟩
      rw [hx] at hs e5 flG hld
      have hst : (m.take (i + 1)).foldl (istep now) (live l now, 0) = istep now (cur, cnt) x := by rw [hs, List.foldl_append, hfold]; rfl
      obtain ⟨b2, hb2⟩ : ∃ b, Fw.ok x.f = b := ⟨_, rfl⟩
      obtain ⟨⟨p1, s1, d1, a1, c1⟩, u1⟩ := x
      have fl := h.rold flG
      ((try simp only [S, TY, reduceCtorEq, nq0, nq1, nq2, nq3, nq4, iq0, iq1, iq2, iq3, iq4, iq5, iq6, iq7, iq8, q0, qn, q2, q8, q7, g1, g0, fl]); (try (simp (disch := omega) only [W2, Int.cast_ofNat_Int]; (try simp only [S, TY, reduceCtorEq, nq0, nq1, nq2, nq3, nq4, iq0, iq1, iq2, iq3, iq4, iq5, iq6, iq7, iq8, q0, qn, q2, q8, q7, g1, g0, fl]))))
      refine (diRight_ok ⟨p1, s1, d1, a1, c1⟩).at_ h [] _ rfl fun r B H3 hr h3 => ?_
      obtain ⟨rfl, rfl⟩ := hr
      rw [hb2]
      have e3 := h3.roc e5
      have el3 := h3.rold hld
      cases b2 with
      | false =>
        have hi : istep now (cur, cnt) ⟨⟨p1, s1, d1, a1, c1⟩, u1⟩ = (cur, cnt) := by unfold istep; rw [if_neg (by rw [hb2]; simp)]
        ((try simp only [S, TY, reduceCtorEq, nq0, nq1, nq2, nq3, nq4, iq0, iq1, iq2, iq3, iq4, iq5, iq6, iq7, iq8, q0, qn, q2, q8, q7]); (try (simp (disch := omega) only [W2, Int.cast_ofNat_Int]; (try simp only [S, TY, reduceCtorEq, nq0, nq1, nq2, nq3, nq4, iq0, iq1, iq2, iq3, iq4, iq5, iq6, iq7, iq8, q0, qn, q2, q8, q7]))))
        exact .go (i + 1) (by omega) ⟨by omega, q0, qn, q2, rfl, cur, cnt, by rw [hst, hi], by omega, by omega, q7, h3⟩
      | true =>
        by_cases g2 : u1 ≤ now
        · have hi : istep now (cur, cnt) ⟨⟨p1, s1, d1, a1, c1⟩, u1⟩ = (cur, cnt) := by unfold istep; rw [if_neg (fun z => absurd z.2.1 (by simp only; omega))]
          ((try simp only [S, TY, reduceCtorEq, nq0, nq1, nq2, nq3, nq4, iq0, iq1, iq2, iq3, iq4, iq5, iq6, iq7, iq8, q0, qn, q2, q8, q7, g0, e3, g2]); (try (simp (disch := omega) only [W2, Int.cast_ofNat_Int]; (try simp only [S, TY, reduceCtorEq, nq0, nq1, nq2, nq3, nq4, iq0, iq1, iq2, iq3, iq4, iq5, iq6, iq7, iq8, q0, qn, q2, q8, q7, g0, e3, g2]))))
          exact .go (i + 1) (by omega) ⟨by omega, q0, qn, q2, rfl, cur, cnt, by rw [hst, hi], by omega, by omega, q7, h3⟩
        · by_cases g3 : (1099511627776 : Int) < u1
          · have hi : istep now (cur, cnt) ⟨⟨p1, s1, d1, a1, c1⟩, u1⟩ = (cur, cnt) := by unfold istep; rw [if_neg (fun z => absurd z.2.2 (by simp only; omega))]
            ((try simp only [S, TY, reduceCtorEq, nq0, nq1, nq2, nq3, nq4, iq0, iq1, iq2, iq3, iq4, iq5, iq6, iq7, iq8, q0, qn, q2, q8, q7, g0, e3, g2, g3]); (try (simp (disch := omega) only [W2, Int.cast_ofNat_Int]; (try simp only [S, TY, reduceCtorEq, nq0, nq1, nq2, nq3, nq4, iq0, iq1, iq2, iq3, iq4, iq5, iq6, iq7, iq8, q0, qn, q2, q8, q7, g0, e3, g2, g3]))))
            exact .go (i + 1) (by omega) ⟨by omega, q0, qn, q2, rfl, cur, cnt, by rw [hst, hi], by omega, by omega, q7, h3⟩
          · have hi : istep now (cur, cnt) ⟨⟨p1, s1, d1, a1, c1⟩, u1⟩ = ((put cur ⟨⟨p1, s1, d1, a1, c1⟩, u1⟩).1, if (put cur ⟨⟨p1, s1, d1, a1, c1⟩, u1⟩).2 = true then cnt + 1 else cnt) := by unfold istep; rw [if_pos ⟨hb2, by simp only; omega, by simp only; omega⟩]
            ((try simp only [S, TY, reduceCtorEq, nq0, nq1, nq2, nq3, nq4, iq0, iq1, iq2, iq3, iq4, iq5, iq6, iq7, iq8, q0, qn, q2, q8, q7, g0, e3, g2, g3, el3]); (try (simp (disch := omega) only [W2, Int.cast_ofNat_Int]; (try simp only [S, TY, reduceCtorEq, nq0, nq1, nq2, nq3, nq4, iq0, iq1, iq2, iq3, iq4, iq5, iq6, iq7, iq8, q0, qn, q2, q8, q7, g0, e3, g2, g3, el3]))))
            refine (dput_ok ⟨⟨p1, s1, d1, a1, c1⟩, u1⟩ (by omega)).at_ h3 [0] _ rfl fun r B H4 hr h4 => ?_
            obtain ⟨rfl, rfl⟩ := hr
            have hpl := put_len cur ⟨⟨p1, s1, d1, a1, c1⟩, u1⟩
            obtain ⟨⟨cur2, ok⟩, hpp⟩ : ∃ r, put cur ⟨⟨p1, s1, d1, a1, c1⟩, u1⟩ = r := ⟨_, rfl⟩
            rw [hpp] at hi h4 hpl ⊢
            simp only at hi h4 hpl ⊢
            cases ok with
            | true =>
              rw [if_pos rfl] at hi
              ((try simp only [S, TY, reduceCtorEq, nq0, nq1, nq2, nq3, nq4, iq0, iq1, iq2, iq3, iq4, iq5, iq6, iq7, iq8, q0, qn, q2, q8, q7]); (try (simp (disch := omega) only [W2, Int.cast_ofNat_Int]; (try simp only [S, TY, reduceCtorEq, nq0, nq1, nq2, nq3, nq4, iq0, iq1, iq2, iq3, iq4, iq5, iq6, iq7, iq8, q0, qn, q2, q8, q7]))))
              exact .go (i + 1) (by omega) ⟨by omega, q0, qn, q2, rfl, cur2, cnt + 1, by rw [hst, hi], by omega, by omega, rfl, h4⟩
            | false =>
              rw [if_neg (by decide)] at hi
              ((try simp only [S, TY, reduceCtorEq, nq0, nq1, nq2, nq3, nq4, iq0, iq1, iq2, iq3, iq4, iq5, iq6, iq7, iq8, q0, qn, q2, q8, q7]); (try (simp (disch := omega) only [W2, Int.cast_ofNat_Int]; (try simp only [S, TY, reduceCtorEq, nq0, nq1, nq2, nq3, nq4, iq0, iq1, iq2, iq3, iq4, iq5, iq6, iq7, iq8, q0, qn, q2, q8, q7]))))
              exact .go (i + 1) (by omega) ⟨by omega, q0, qn, q2, rfl, cur2, cnt, by rw [hst, hi], by omega, by omega, q7, h4⟩
    · rw [List.take_of_length_le (by omega), hres] at hfold
      subst hfold
      ((try simp only [S, TY, reduceCtorEq, nq0, nq1, nq2, nq3, nq4, iq0, iq1, iq2, iq3, iq4, iq5, iq6, iq7, iq8, q0, qn, q2, q8, q7, g1]); (try (simp (disch := omega) only [W2, Int.cast_ofNat_Int]; (try simp only [S, TY, reduceCtorEq, nq0, nq1, nq2, nq3, nq4, iq0, iq1, iq2, iq3, iq4, iq5, iq6, iq7, iq8, q0, qn, q2, q8, q7, g1]))))
      exact fin_take (B := [_]) h ⟨rfl, rfl⟩
end Go.Proofs.Ytanhmbdcdbcfmaa.TkE
