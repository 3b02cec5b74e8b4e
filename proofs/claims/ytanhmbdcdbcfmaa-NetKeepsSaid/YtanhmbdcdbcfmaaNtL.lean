/- Nets: the laws' live question; acts. -/
import Derived.Test.YtanhmbdcdbcfmaaNtD
set_option linter.unusedVariables false
set_option linter.unusedSimpArgs false
set_option maxRecDepth 10000
set_option maxHeartbeats 4000000
namespace Go.Proofs.Ytanhmbdcdbcfmaa.NtL
open Nat renaming reduceEqDiff → nq0, reduceAdd → nq1, reduceLeDiff → nq2, reduceBEq → nq3, reduceMul → nq4
open Int renaming reduceBEq → iq0, reduceEq → iq1, reduceLT → iq2, reduceLE → iq3, reduceAdd → iq4, reduceSub → iq5, reduceMul → iq6, reduceToNat → iq7, cast_ofNat_Int → iq8
open Go Go.Sl Go.Proofs Go.Proofs.Ytanhmbdcdbcfmaa.NtP Go.Proofs.Ytanhmbdcdbcfmaa.Nt Go.Proofs.Ytanhmbdcdbcfmaa.NtK Go.Proofs.Ytanhmbdcdbcfmaa.NtD
theorem TY : aggN Try.prog 3 = some none ∧
  aggN Try.prog 5 = some none ∧
  aggN Try.prog 24 = some none ∧
  aggN Try.prog 138 = some none ∧
  aggN Try.prog 143 = some none ∧
  aggN Try.prog 148 = some none ∧
  aggN Try.prog 150 = some (some 3) ∧
  aggN Try.prog 152 = some (some 3) ∧
  aggN Try.prog 160 = some (some 3) ∧
  apI Try.prog 24 = some (5, 1, 1) ∧
  apI Try.prog 138 = some (150, 3, 40) ∧
  apI Try.prog 148 = some (152, 3, 40) ∧
  bIs Try.prog 150 = true ∧
  bIs Try.prog 152 = true ∧
  bIs Try.prog 160 = true ∧
  bySl Try.prog 24 = true ∧
  csz Try.prog 3 = some 1 ∧
  csz Try.prog 5 = some 1 ∧
  csz Try.prog 24 = some 1 ∧
  csz Try.prog 138 = some 1 ∧
  csz Try.prog 143 = some 1 ∧
  csz Try.prog 148 = some 1 ∧
  csz Try.prog 150 = some 3 ∧
  csz Try.prog 152 = some 3 ∧
  csz Try.prog 160 = some 3 ∧
  eqF Try.prog 160 = some [.i, .i, .s] ∧
  fIs Try.prog 150 1 = true ∧
  fIs Try.prog 152 2 = true ∧
  fOff Try.prog 150 1 = 1 ∧
  fOff Try.prog 152 2 = 2 ∧
  fTy Try.prog 150 1 = 148 ∧
  fTy Try.prog 152 2 = 24 ∧
  goes Try.prog 81 = true ∧
  goes Try.prog 184 = true ∧
  inIs Try.prog 3 = some .i64 ∧
  inIs Try.prog 5 = some .u8 ∧
  plcs Try.prog 150 = [(0, 1), (1, 1), (2, 1)] ∧
  plcs Try.prog 152 = [(0, 1), (1, 1), (2, 1)] ∧
  plcs Try.prog 160 = [(0, 1), (1, 1), (2, 1)] ∧
  ptIs Try.prog 143 = true ∧
  slEl Try.prog 24 = 5 ∧
  slEl Try.prog 138 = 150 ∧
  slEl Try.prog 148 = 152 ∧
  slIs Try.prog 24 = true ∧
  slIs Try.prog 138 = true ∧
  slIs Try.prog 148 = true ∧
  slSz Try.prog 24 = 1 ∧
  slSz Try.prog 138 = 3 ∧
  slSz Try.prog 148 = 3 ∧
  zcs Try.prog 150 = [.int .u8 0, .slice none 0 0, .int .i64 0] ∧
  zcs Try.prog 152 = [.int .i64 0, .int .i64 0, .slice none 0 0] ∧
  zcs Try.prog 160 = [.int .i64 0, .int .i64 0, .string ByteArray.empty] ∧
  zro Try.prog 3 = some (.int .i64 0) ∧
  zro Try.prog 5 = some (.int .u8 0) ∧
  zro Try.prog 24 = some (.slice none 0 0) ∧
  zro Try.prog 138 = some (.slice none 0 0) ∧
  zro Try.prog 143 = some (.pointer none) ∧
  zro Try.prog 148 = some (.slice none 0 0) ∧
  zro Try.prog 150 = some (.agg #[.int .u8 0, .slice none 0 0, .int .i64 0]) ∧
  zro Try.prog 152 = some (.agg #[.int .i64 0, .int .i64 0, .slice none 0 0]) ∧
  zro Try.prog 160 = some (.agg #[.int .i64 0, .int .i64 0, .string ByteArray.empty]) :=
  ⟨by kernel_rfl, by kernel_rfl, by kernel_rfl, by kernel_rfl, by kernel_rfl, by kernel_rfl, by kernel_rfl, by kernel_rfl, by kernel_rfl, by kernel_rfl, by kernel_rfl, by kernel_rfl, by kernel_rfl, by kernel_rfl, by kernel_rfl, by kernel_rfl, by kernel_rfl, by kernel_rfl, by kernel_rfl, by kernel_rfl, by kernel_rfl, by kernel_rfl, by kernel_rfl, by kernel_rfl, by kernel_rfl, by kernel_rfl, by kernel_rfl, by kernel_rfl, by kernel_rfl, by kernel_rfl, by kernel_rfl, by kernel_rfl, by kernel_rfl, by kernel_rfl, by kernel_rfl, by kernel_rfl, by kernel_rfl, by kernel_rfl, by kernel_rfl, by kernel_rfl, by kernel_rfl, by kernel_rfl, by kernel_rfl, by kernel_rfl, by kernel_rfl, by kernel_rfl, by kernel_rfl, by kernel_rfl, by kernel_rfl, by kernel_rfl, by kernel_rfl, by kernel_rfl, by kernel_rfl, by kernel_rfl, by kernel_rfl, by kernel_rfl, by kernel_rfl, by kernel_rfl, by kernel_rfl, by kernel_rfl, by kernel_rfl⟩
abbrev IT : Ty := .st (.pr (.int .i64) (.pr (.int .i64) (.pr .bytes .un)))
abbrev AT : Ty := .st (.pr (.int .u8) (.pr (.sl IT) (.pr (.int .i64) .un)))
def toIt (x : IT.den) : It := ⟨x.1, x.2.1, x.2.2.1⟩
theorem item_l {G : Hp} {cs : List Value} {x : IT.den} (h : IT.R G cs x) : ∃ u, cs = ic (toIt x, u) ∧ rds G 1 u (bv (toIt x).b) := by
  obtain ⟨_, _, rfl, -, ⟨rfl, -⟩, _, _, rfl, -, ⟨rfl, -⟩, _, _, rfl, -, ⟨u, rfl, hu⟩, rfl⟩ := h
  exact ⟨u, rfl, hu⟩
theorem items_ex {G : Hp} : ∀ {css : List (List Value)} {xs : List IT.den}, RL 3 (IT.R G) css xs → ∃ yl : List (It × Value), yl.map (·.1) = xs.map toIt ∧ css.flatMap id = yl.flatMap ic ∧ blobs (yl.map (·.2)) (yl.map (·.1.b)) G
  | [], [], _ => ⟨[], rfl, rfl, trivial⟩
  | [], x :: xs, h => by have := h.1; simp at this
  | c :: css, [], h => by have := h.1; simp at this
  | c :: css, x :: xs, h => by
    obtain ⟨yl, h1, h2, h3⟩ := items_ex (css := css) (xs := xs) ⟨by have := h.1; simpa using this, fun d hd => h.2.1 d (List.mem_cons_of_mem _ hd), fun i d y hd hy => h.2.2 (i + 1) d y (by simpa using hd) (by simpa using hy)⟩
    obtain ⟨u, e1, e2⟩ := item_l (h.2.2 0 c x rfl rfl)
    refine ⟨(toIt x, u) :: yl, by rw [List.map_cons, List.map_cons, h1], ?_, ⟨e2, h3⟩⟩
    rw [List.flatMap_cons, List.flatMap_cons, h2, e1]
    rfl
theorem items {G : Hp} {w : Value} {xs : List IT.den} (h : rdl G 3 (IT.R G) w xs) : ∃ yl : List (It × Value), yl.map (·.1) = xs.map toIt ∧ yl.length = xs.length ∧ rds G 3 w (yl.flatMap ic) ∧ blobs (yl.map (·.2)) (yl.map (·.1.b)) G := by
  obtain ⟨css, h1, h2⟩ := h
  obtain ⟨yl, e1, e2, e3⟩ := items_ex h2
  have := congrArg List.length e1
  rw [List.length_map, List.length_map] at this
  exact ⟨yl, e1, this, by rw [← e2]; exact h1, e3⟩
abbrev Acts (G : Hp) (v : Value) (l : List AT.den) : Prop := rdl G 3 (AT.R G) v l
abbrev actl (k : Int) (w : Value) (i : Int) : List Value := [.int .u8 k, w, .int .i64 i]
theorem act_l {G : Hp} {cs : List Value} {x : AT.den} (h : AT.R G cs x) : ∃ (k : Int) (w : Value) (yl : List (It × Value)) (i : Int), cs = actl k w i ∧ rds G 3 w (yl.flatMap ic) ∧ blobs (yl.map (·.2)) (yl.map (·.1.b)) G ∧ yl.length = x.2.1.length := by
  obtain ⟨_, _, rfl, -, ⟨rfl, -⟩, _, _, rfl, -, ⟨w, rfl, hb⟩, _, _, rfl, -, ⟨rfl, -⟩, rfl⟩ := h
  obtain ⟨yl, e1, e2, e3, e4⟩ := items hb
  exact ⟨x.1, w, yl, x.2.2.1, rfl, e3, e4, e2⟩
theorem fitsQ {G : Hp} {α : Type} {len : α → Nat} {Q : List Value → α → Prop} {v : Value} {l : List α} (hQ0 : ∀ cs x, Q cs x → ∃ (k : Int) (w : Value) (yl : List (It × Value)) (i : Int), cs = actl k w i ∧ rds G 3 w (yl.flatMap ic) ∧ blobs (yl.map (·.2)) (yl.map (·.1.b)) G ∧ yl.length = len x) (hv : rdl G 3 Q v l) :
    Con Try.prog G 70 [v] [] (fun r B => ∃ b : Bool, r = .bool b ∧ B = [] ∧ (b = true → l.length ≤ 100 ∧ ∀ x ∈ l, len x ≤ 100)) := by
  refine Con.intro Try.func70 rfl (Nat.le_of_ble_eq_true (by kernel_rfl)) (by kernel_rfl) Try.results70 ?_
  intro H hH
  obtain ⟨a, n, c, rfl, e1, e2⟩ := hv.shape (by decide)
  ((try simp only [S, TY, reduceCtorEq, nq0, nq1, nq2, nq3, nq4, iq0, iq1, iq2, iq3, iq4, iq5, iq6, iq7, iq8]); (try (simp (disch := omega) only [W2, Int.cast_ofNat_Int]; (try simp only [S, TY, reduceCtorEq, nq0, nq1, nq2, nq3, nq4, iq0, iq1, iq2, iq3, iq4, iq5, iq6, iq7, iq8]))))
  refine cl_loop (fun i e H => i ≤ n ∧ i ≤ 101 ∧ e 0 = .slice a n c ∧ e 4 = .int .i64 (i : Nat) ∧ ∃ t : Nat, e 3 = .int .i64 (t : Nat) ∧ t ≤ 101 * i ∧ (∀ (j : Nat) (x : α), j < i → l[j]? = some x → min (len x) 101 ≤ t) ∧ sg G [] H) (fun i : Nat => n - i) 0
    ⟨by omega, by omega, rfl, rfl, 0, rfl, by omega, fun j x hj => by omega, hH⟩ ?_
  rintro i e H ⟨q1, q2, q0, q4, t, q3, ht, hall, hH⟩
  by_cases g1 : (i : Int) < n
  · by_cases g2 : (i : Int) ≤ 100
    · obtain ⟨b, off, cs, hl, rfl, hQ, _, hc, _⟩ := hv.at (by decide) (i := i) (by omega)
      obtain ⟨k, w, yl, at_, rfl, hw, hb, hyl⟩ := hQ0 _ _ hQ
      have hw0 := hw
      obtain ⟨wa, wn, wc, rfl, f1, _⟩ := hw.slice
      rw [flat_len ic_len] at f1
      obtain rfl : wn = yl.length := by omega
      have d1 := hc 1 (by decide)
      simp only [List.getElem?_cons_zero, List.getElem?_cons_succ] at d1
      have g0 : (0 : Int) ≤ i ∧ (i : Int) < n := ⟨by omega, g1⟩
      ((try simp only [S, TY, reduceCtorEq, nq0, nq1, nq2, nq3, nq4, iq0, iq1, iq2, iq3, iq4, iq5, iq6, iq7, iq8, q0, q3, q4, g1, g2]); (try (simp (disch := omega) only [W2, Int.cast_ofNat_Int]; (try simp only [S, TY, reduceCtorEq, nq0, nq1, nq2, nq3, nq4, iq0, iq1, iq2, iq3, iq4, iq5, iq6, iq7, iq8, q0, q3, q4, g1, g2]))))
      refine cl_loop (fun k e H => k ≤ yl.length ∧ k ≤ 101 ∧ e 0 = .slice (some ⟨b, off, none⟩) n c ∧ e 4 = .int .i64 (i : Nat) ∧ e 3 = .int .i64 ((t + k : Nat) : Int) ∧ e 5 = .int .i64 (k : Nat) ∧ sg G [] H) (fun k : Nat => yl.length - k) 0
        ⟨by omega, by omega, q0, q4, q3, rfl, hH⟩ ?_
      clear hH
      rintro m e H ⟨p1, p2, p0, p4, p3, p5, hH⟩
      have d1' := hH.roc d1
      by_cases g3 : (m : Int) < yl.length
      · by_cases g4 : (m : Int) ≤ 100
        · have g5 : (0 : Int) ≤ m ∧ (m : Int) < yl.length := ⟨by omega, g3⟩
          obtain ⟨b2, off2, hl2, rfl, hcc, _⟩ := (hH.ro hw0).el ic_len (i := m) (by omega) (by omega)
          have hu : rds G 1 yl[m].2 (bv yl[m].1.b) := by
            have := hb.get m (by rw [List.length_map]; exact hl2) (by rw [List.length_map]; exact hl2)
            rw [List.getElem_map, List.getElem_map] at this
            exact this
          have e2 := hcc 2 (by decide)
          simp only [List.getElem?_cons_zero, List.getElem?_cons_succ] at e2
          obtain ⟨ua, un, uc, hue, _, _⟩ := hu.slice
          rw [hue] at e2
          by_cases g6 : (3000 : Int) < un
          · ((try simp only [S, TY, reduceCtorEq, nq0, nq1, nq2, nq3, nq4, iq0, iq1, iq2, iq3, iq4, iq5, iq6, iq7, iq8, p0, p3, p4, p5, g0, d1', g3, g4, g5, e2, g6]); (try (simp (disch := omega) only [W2, Int.cast_ofNat_Int]; (try simp only [S, TY, reduceCtorEq, nq0, nq1, nq2, nq3, nq4, iq0, iq1, iq2, iq3, iq4, iq5, iq6, iq7, iq8, p0, p3, p4, p5, g0, d1', g3, g4, g5, e2, g6]))))
            exact fin_ret hH ⟨false, rfl, rfl, fun h => by cases h⟩
          · ((try simp only [S, TY, reduceCtorEq, nq0, nq1, nq2, nq3, nq4, iq0, iq1, iq2, iq3, iq4, iq5, iq6, iq7, iq8, p0, p3, p4, p5, g0, d1', g3, g4, g5, e2, g6]); (try (simp (disch := omega) only [W2, Int.cast_ofNat_Int]; (try simp only [S, TY, reduceCtorEq, nq0, nq1, nq2, nq3, nq4, iq0, iq1, iq2, iq3, iq4, iq5, iq6, iq7, iq8, p0, p3, p4, p5, g0, d1', g3, g4, g5, e2, g6]))))
            exact .go (m + 1) (by omega) ⟨by omega, by omega, p0, p4, by show Value.int IntKind.i64 (((t + m : Nat) : Int) + 1) = _; congr 1, rfl, hH⟩
        · ((try simp only [S, TY, reduceCtorEq, nq0, nq1, nq2, nq3, nq4, iq0, iq1, iq2, iq3, iq4, iq5, iq6, iq7, iq8, p0, p3, p4, p5, g0, d1', g3, g4]); (try (simp (disch := omega) only [W2, Int.cast_ofNat_Int]; (try simp only [S, TY, reduceCtorEq, nq0, nq1, nq2, nq3, nq4, iq0, iq1, iq2, iq3, iq4, iq5, iq6, iq7, iq8, p0, p3, p4, p5, g0, d1', g3, g4]))))
          refine .go (i + 1) (by omega) ⟨by omega, by omega, p0, rfl, t + m, p3, by omega, ?_, hH⟩
          intro j x hj hx
          by_cases hji : j = i
          · subst hji
            rw [List.getElem?_eq_getElem hl] at hx
            cases hx
            omega
          · have := hall j x (by omega) hx
            omega
      · ((try simp only [S, TY, reduceCtorEq, nq0, nq1, nq2, nq3, nq4, iq0, iq1, iq2, iq3, iq4, iq5, iq6, iq7, iq8, p0, p3, p4, p5, g0, d1', g3]); (try (simp (disch := omega) only [W2, Int.cast_ofNat_Int]; (try simp only [S, TY, reduceCtorEq, nq0, nq1, nq2, nq3, nq4, iq0, iq1, iq2, iq3, iq4, iq5, iq6, iq7, iq8, p0, p3, p4, p5, g0, d1', g3]))))
        refine .go (i + 1) (by omega) ⟨by omega, by omega, p0, rfl, t + m, p3, by omega, ?_, hH⟩
        intro j x hj hx
        by_cases hji : j = i
        · subst hji
          rw [List.getElem?_eq_getElem hl] at hx
          cases hx
          omega
        · have := hall j x (by omega) hx
          omega
    · have g3 : ¬ (n : Int) ≤ 100 := by omega
      ((try simp only [S, TY, reduceCtorEq, nq0, nq1, nq2, nq3, nq4, iq0, iq1, iq2, iq3, iq4, iq5, iq6, iq7, iq8, q0, q3, q4, g1, g2, g3]); (try (simp (disch := omega) only [W2, Int.cast_ofNat_Int]; (try simp only [S, TY, reduceCtorEq, nq0, nq1, nq2, nq3, nq4, iq0, iq1, iq2, iq3, iq4, iq5, iq6, iq7, iq8, q0, q3, q4, g1, g2, g3]))))
      exact fin_ret hH ⟨false, rfl, rfl, fun h => by cases h⟩
  · by_cases g3 : (n : Int) ≤ 100
    · by_cases g4 : (t : Int) ≤ 100
      · ((try simp only [S, TY, reduceCtorEq, nq0, nq1, nq2, nq3, nq4, iq0, iq1, iq2, iq3, iq4, iq5, iq6, iq7, iq8, q0, q3, q4, g1, g3, g4]); (try (simp (disch := omega) only [W2, Int.cast_ofNat_Int]; (try simp only [S, TY, reduceCtorEq, nq0, nq1, nq2, nq3, nq4, iq0, iq1, iq2, iq3, iq4, iq5, iq6, iq7, iq8, q0, q3, q4, g1, g3, g4]))))
        exact fin_ret hH ⟨_, rfl, rfl, fun _ => ⟨by omega, fun x hx => by obtain ⟨j, hj⟩ := List.getElem?_of_mem hx; have := hall j x (by have := (List.getElem?_eq_some_iff.1 hj).1; omega) hj; omega⟩⟩
      · ((try simp only [S, TY, reduceCtorEq, nq0, nq1, nq2, nq3, nq4, iq0, iq1, iq2, iq3, iq4, iq5, iq6, iq7, iq8, q0, q3, q4, g1, g3, g4]); (try (simp (disch := omega) only [W2, Int.cast_ofNat_Int]; (try simp only [S, TY, reduceCtorEq, nq0, nq1, nq2, nq3, nq4, iq0, iq1, iq2, iq3, iq4, iq5, iq6, iq7, iq8, q0, q3, q4, g1, g3, g4]))))
        exact fin_ret hH ⟨false, rfl, rfl, fun h => by cases h⟩
    · ((try simp only [S, TY, reduceCtorEq, nq0, nq1, nq2, nq3, nq4, iq0, iq1, iq2, iq3, iq4, iq5, iq6, iq7, iq8, q0, q3, q4, g1, g3]); (try (simp (disch := omega) only [W2, Int.cast_ofNat_Int]; (try simp only [S, TY, reduceCtorEq, nq0, nq1, nq2, nq3, nq4, iq0, iq1, iq2, iq3, iq4, iq5, iq6, iq7, iq8, q0, q3, q4, g1, g3]))))
      exact fin_ret hH ⟨false, rfl, rfl, fun h => by cases h⟩
theorem fits {G : Hp} {v : Value} {l : List AT.den} (hv : Acts G v l) : Con Try.prog G 70 [v] [] (fun r B => ∃ b : Bool, r = .bool b ∧ B = [] ∧ (b = true → l.length ≤ 100 ∧ ∀ x ∈ l, x.2.1.length ≤ 100)) :=
  fitsQ (len := fun x : AT.den => x.2.1.length) (fun _ _ h => act_l h) hv
theorem puts_ok {G : Hp} {p : Nat} {n : Nt} {N : Int} {w : Value} {yl : List (It × Value)} (hw : n.wf N) (hN : 0 ≤ N ∧ N ≤ 100000) (hy : yl.length ≤ 1000) (hr : rds G 3 w (yl.flatMap ic)) (hb : blobs (yl.map (·.2)) (yl.map (·.1.b)) G) :
    Con Try.prog G 149 [.pointer (some ⟨p, 0, none⟩), w] [dN p n] (fun r B => r = .int .i64 (n.puts (yl.map (·.1))).2 ∧ B = [dN p (n.puts (yl.map (·.1))).1]) := by
  have hr0 := hr
  obtain ⟨wa, wn, wc, rfl, e1, _⟩ := hr.slice
  rw [flat_len ic_len] at e1
  obtain rfl : wn = yl.length := by omega
  refine Con.intro Try.func149 rfl (Nat.le_of_ble_eq_true (by kernel_rfl)) (by kernel_rfl) Try.results149 ?_
  intro H h
  ((try simp only [S, TY, reduceCtorEq, nq0, nq1, nq2, nq3, nq4, iq0, iq1, iq2, iq3, iq4, iq5, iq6, iq7, iq8]); (try (simp (disch := omega) only [W2, Int.cast_ofNat_Int]; (try simp only [S, TY, reduceCtorEq, nq0, nq1, nq2, nq3, nq4, iq0, iq1, iq2, iq3, iq4, iq5, iq6, iq7, iq8]))))
  refine cl_loop (fun i e H => i ≤ yl.length ∧ e 0 = .pointer (some ⟨p, 0, none⟩) ∧ e 1 = .slice wa yl.length wc ∧ e 6 = .int .i64 (i : Nat) ∧ ∃ (m : Nt) (came : Nat), n.puts ((yl.take i).map (·.1)) = (m, came) ∧ e 5 = .int .i64 (came : Nat) ∧ sg G [dN p m] H) (fun i : Nat => yl.length - i) 0
    ⟨by omega, rfl, rfl, rfl, n, 0, rfl, rfl, h⟩ ?_
  clear h
  rintro i e H ⟨qi, q0, q1, q6, m, came, hm, q5, h⟩
  have hwm : m.wf (N + i) := by
    have := wf_puts hw ((yl.take i).map (·.1))
    rw [hm] at this
    exact this.mono (by rw [List.length_map, List.length_take]; omega)
  have hcame : came ≤ i := by
    have := puts_le n ((yl.take i).map (·.1))
    rw [hm, List.length_map, List.length_take] at this
    simp only at this
    omega
  by_cases g1 : (i : Int) < yl.length
  · have g2 : (0 : Int) ≤ i ∧ (i : Int) < yl.length := ⟨by omega, g1⟩
    have hi : i < yl.length := by omega
    have hs : (yl.take (i + 1)).map (·.1) = (yl.take i).map (·.1) ++ [yl[i].1] := by rw [List.take_add_one, List.getElem?_eq_getElem hi, List.map_append]; rfl
    obtain ⟨k, off, hl', rfl, _, d1⟩ := hr0.el ic_len (i := i) hi (by omega)
    have hu : rds G 1 yl[i].2 (bv yl[i].1.b) := by
      have := hb.get i (by rw [List.length_map]; exact hi) (by rw [List.length_map]; exact hi)
      rw [List.getElem_map, List.getElem_map] at this
      exact this
    replace d1 := h.rold d1
    ((try simp only [S, TY, reduceCtorEq, nq0, nq1, nq2, nq3, nq4, iq0, iq1, iq2, iq3, iq4, iq5, iq6, iq7, iq8, q0, q1, q5, q6, g1, g2, d1]); (try (simp (disch := omega) only [W2, Int.cast_ofNat_Int]; (try simp only [S, TY, reduceCtorEq, nq0, nq1, nq2, nq3, nq4, iq0, iq1, iq2, iq3, iq4, iq5, iq6, iq7, iq8, q0, q1, q5, q6, g1, g2, d1]))))
    refine (Of_ok yl[i].1 hu).at_ h [] _ rfl fun r B H2 hr h2 => ?_
    obtain ⟨rfl, rfl⟩ := hr
    ((try simp only [S, TY, reduceCtorEq, nq0, nq1, nq2, nq3, nq4, iq0, iq1, iq2, iq3, iq4, iq5, iq6, iq7, iq8, q0, q1, q5, q6]); (try (simp (disch := omega) only [W2, Int.cast_ofNat_Int]; (try simp only [S, TY, reduceCtorEq, nq0, nq1, nq2, nq3, nq4, iq0, iq1, iq2, iq3, iq4, iq5, iq6, iq7, iq8, q0, q1, q5, q6]))))
    refine (dPut_ok hwm (by omega) yl[i].1).at_ h2 [0] _ rfl fun r B H3 hr h3 => ?_
    obtain ⟨rfl, rfl⟩ := hr
    simp only [front_eq, fronts_nil, fronts_cons, List.getElem?_cons_zero, List.getElem?_cons_succ, List.eraseIdx_cons_zero, List.eraseIdx_cons_succ, List.cons_append, List.nil_append, putL_cons, putL_nil, List.set_cons_zero, List.set_cons_succ, Nat.reduceAdd] at h3
    have hp : n.puts ((yl.take (i + 1)).map (·.1)) = ((m.put1 yl[i].1).1, if (m.put1 yl[i].1).2 = true then came + 1 else came) := by
      rw [hs, puts_snoc, hm]
      rfl
    cases hb2 : (m.put1 yl[i].1).2 with
    | true =>
      rw [hb2] at hp
      simp only [if_true] at hp
      ((try simp only [S, TY, reduceCtorEq, nq0, nq1, nq2, nq3, nq4, iq0, iq1, iq2, iq3, iq4, iq5, iq6, iq7, iq8, q0, q1, q5, q6]); (try (simp (disch := omega) only [W2, Int.cast_ofNat_Int]; (try simp only [S, TY, reduceCtorEq, nq0, nq1, nq2, nq3, nq4, iq0, iq1, iq2, iq3, iq4, iq5, iq6, iq7, iq8, q0, q1, q5, q6]))))
      exact .go (i + 1) (by omega) ⟨by omega, q0, q1, rfl, _, _, hp, rfl, h3⟩
    | false =>
      rw [hb2] at hp
      simp only [Bool.false_eq_true, if_false] at hp
      ((try simp only [S, TY, reduceCtorEq, nq0, nq1, nq2, nq3, nq4, iq0, iq1, iq2, iq3, iq4, iq5, iq6, iq7, iq8, q0, q1, q5, q6]); (try (simp (disch := omega) only [W2, Int.cast_ofNat_Int]; (try simp only [S, TY, reduceCtorEq, nq0, nq1, nq2, nq3, nq4, iq0, iq1, iq2, iq3, iq4, iq5, iq6, iq7, iq8, q0, q1, q5, q6]))))
      exact .go (i + 1) (by omega) ⟨by omega, q0, q1, rfl, _, _, hp, q5, h3⟩
  · obtain rfl : i = yl.length := by omega
    rw [List.take_length] at hm
    rw [hm]
    ((try simp only [S, TY, reduceCtorEq, nq0, nq1, nq2, nq3, nq4, iq0, iq1, iq2, iq3, iq4, iq5, iq6, iq7, iq8, q0, q1, q5, q6, g1]); (try (simp (disch := omega) only [W2, Int.cast_ofNat_Int]; (try simp only [S, TY, reduceCtorEq, nq0, nq1, nq2, nq3, nq4, iq0, iq1, iq2, iq3, iq4, iq5, iq6, iq7, iq8, q0, q1, q5, q6, g1]))))
    exact fin_take (B := [_]) h ⟨rfl, rfl⟩
end Go.Proofs.Ytanhmbdcdbcfmaa.NtL
