/- tunnel's functions on packets, over the machine. -/
import Derived.Test.YtanhmbdcdbcfmaaTunP
import Derived.Test.YtanhmbdcdbcfmaaEth
set_option linter.unusedVariables false
set_option linter.unusedSimpArgs false
set_option maxRecDepth 10000
namespace Go.Proofs.Ytanhmbdcdbcfmaa.Tun
open Nat renaming reduceEqDiff → nq0, reduceAdd → nq1, reduceLeDiff → nq2, reduceBEq → nq3, reduceMul → nq4
open Int renaming reduceBEq → iq0, reduceEq → iq1, reduceLT → iq2, reduceLE → iq3, reduceAdd → iq4, reduceSub → iq5, reduceMul → iq6, reduceToNat → iq7, cast_ofNat_Int → iq8
open Go Go.Sl Go.Proofs Go.Proofs.Ytanhmbdcdbcfmaa.Buf Go.Proofs.Ytanhmbdcdbcfmaa.BufRd Go.Proofs.Ytanhmbdcdbcfmaa.BufRe Go.Proofs.Ytanhmbdcdbcfmaa.BufP Go.Proofs.Ytanhmbdcdbcfmaa.TunP
theorem TY : aggN Try.prog 3 = some none ∧
  aggN Try.prog 5 = some none ∧
  aggN Try.prog 23 = some none ∧
  aggN Try.prog 24 = some none ∧
  aggN Try.prog 26 = some (some 8) ∧
  aggN Try.prog 57 = some none ∧
  apI Try.prog 24 = some (5, 1, 1) ∧
  apI Try.prog 57 = some (3, 1, 8) ∧
  bIs Try.prog 26 = true ∧
  bySl Try.prog 24 = true ∧
  csz Try.prog 3 = some 1 ∧
  csz Try.prog 5 = some 1 ∧
  csz Try.prog 23 = some 1 ∧
  csz Try.prog 24 = some 1 ∧
  csz Try.prog 26 = some 8 ∧
  csz Try.prog 57 = some 1 ∧
  fIs Try.prog 26 0 = true ∧
  fIs Try.prog 26 1 = true ∧
  fIs Try.prog 26 2 = true ∧
  fIs Try.prog 26 3 = true ∧
  fIs Try.prog 26 4 = true ∧
  fIs Try.prog 26 5 = true ∧
  fIs Try.prog 26 6 = true ∧
  fIs Try.prog 26 7 = true ∧
  fOff Try.prog 26 0 = 0 ∧
  fOff Try.prog 26 1 = 1 ∧
  fOff Try.prog 26 2 = 2 ∧
  fOff Try.prog 26 3 = 3 ∧
  fOff Try.prog 26 4 = 4 ∧
  fOff Try.prog 26 5 = 5 ∧
  fOff Try.prog 26 6 = 6 ∧
  fOff Try.prog 26 7 = 7 ∧
  fTy Try.prog 26 0 = 23 ∧
  fTy Try.prog 26 1 = 3 ∧
  fTy Try.prog 26 2 = 3 ∧
  fTy Try.prog 26 3 = 3 ∧
  fTy Try.prog 26 4 = 3 ∧
  fTy Try.prog 26 5 = 3 ∧
  fTy Try.prog 26 6 = 3 ∧
  fTy Try.prog 26 7 = 24 ∧
  goes Try.prog 171 = true ∧
  goes Try.prog 172 = true ∧
  inIs Try.prog 3 = some .i64 ∧
  inIs Try.prog 5 = some .u8 ∧
  inIs Try.prog 23 = some .i64 ∧
  plcs Try.prog 26 = [(0, 1), (1, 1), (2, 1), (3, 1), (4, 1), (5, 1), (6, 1), (7, 1)] ∧
  slEl Try.prog 24 = 5 ∧
  slEl Try.prog 57 = 3 ∧
  slIs Try.prog 24 = true ∧
  slIs Try.prog 57 = true ∧
  slSz Try.prog 24 = 1 ∧
  slSz Try.prog 57 = 1 ∧
  zcs Try.prog 26 = [.int .i64 0, .int .i64 0, .int .i64 0, .int .i64 0, .int .i64 0, .int .i64 0, .int .i64 0, .slice none 0 0] ∧
  zro Try.prog 3 = some (.int .i64 0) ∧
  zro Try.prog 5 = some (.int .u8 0) ∧
  zro Try.prog 23 = some (.int .i64 0) ∧
  zro Try.prog 24 = some (.slice none 0 0) ∧
  zro Try.prog 26 = some (.agg #[.int .i64 0, .int .i64 0, .int .i64 0, .int .i64 0, .int .i64 0, .int .i64 0, .int .i64 0, .slice none 0 0]) ∧
  zro Try.prog 57 = some (.slice none 0 0) :=
  ⟨by kernel_rfl, by kernel_rfl, by kernel_rfl, by kernel_rfl, by kernel_rfl, by kernel_rfl, by kernel_rfl, by kernel_rfl, by kernel_rfl, by kernel_rfl, by kernel_rfl, by kernel_rfl, by kernel_rfl, by kernel_rfl, by kernel_rfl, by kernel_rfl, by kernel_rfl, by kernel_rfl, by kernel_rfl, by kernel_rfl, by kernel_rfl, by kernel_rfl, by kernel_rfl, by kernel_rfl, by kernel_rfl, by kernel_rfl, by kernel_rfl, by kernel_rfl, by kernel_rfl, by kernel_rfl, by kernel_rfl, by kernel_rfl, by kernel_rfl, by kernel_rfl, by kernel_rfl, by kernel_rfl, by kernel_rfl, by kernel_rfl, by kernel_rfl, by kernel_rfl, by kernel_rfl, by kernel_rfl, by kernel_rfl, by kernel_rfl, by kernel_rfl, by kernel_rfl, by kernel_rfl, by kernel_rfl, by kernel_rfl, by kernel_rfl, by kernel_rfl, by kernel_rfl, by kernel_rfl, by kernel_rfl, by kernel_rfl, by kernel_rfl, by kernel_rfl, by kernel_rfl, by kernel_rfl⟩
abbrev pkl (k o f t p g i : Int) (v : Value) : List Value := [.int .i64 k, .int .i64 o, .int .i64 f, .int .i64 t, .int .i64 p, .int .i64 g, .int .i64 i, v]
abbrev pkv (k o f t p g i : Int) (v : Value) : Value := .agg (pkl k o f t p g i v).toArray
def chas (x : Int) : Bool := decide (0 ≤ x ∧ x ≤ 15)
theorem chassis_ok {G : Hp} {v : Value} {l : List Int} (hv : rds G 1 v (iv l)) (hl : l.length ≤ 1000) : Con Try.prog G 171 [v] [] (fun r B => r = .bool (l.all chas) ∧ B = []) := by
  refine Con.intro Try.func171 rfl (Nat.le_of_ble_eq_true (by kernel_rfl)) (by kernel_rfl) Try.results171 ?_
  intro H hH
  obtain ⟨a, n, c, rfl, e1, e2⟩ := hv.slice
  rw [iv, List.length_map] at e1
  ((try simp only [S, TY, reduceCtorEq, nq0, nq1, nq2, nq3, nq4, iq0, iq1, iq2, iq3, iq4, iq5, iq6, iq7, iq8]); (try (simp (disch := omega) only [W2, Int.cast_ofNat_Int]; (try simp only [S, TY, reduceCtorEq, nq0, nq1, nq2, nq3, nq4, iq0, iq1, iq2, iq3, iq4, iq5, iq6, iq7, iq8]))))
  refine cl_loop (fun i e H => i ≤ n ∧ e 5 = .slice a n c ∧ e 6 = .int .i64 n ∧ e 7 = .int .i64 i ∧ (l.take i).all chas = true ∧ sg G [] H) (fun i => n - i) 0
    ⟨by omega, rfl, rfl, rfl, by simp, hH⟩ ?_
  rintro i e H ⟨q1, q3, q4, q5, q6, hH⟩
  by_cases g1 : (i : Int) < n
  · have hi : i < l.length := by omega
    obtain ⟨b, off, rfl, d1⟩ := (hH.ro hv).at1 (i := i) (by omega)
    rw [iv, List.getElem?_map, List.getElem?_eq_getElem hi, Option.map_some] at d1
    have g0 : (0 : Int) ≤ i ∧ (i : Int) < n := ⟨by omega, g1⟩
    have ht := List.take_succ_eq_append_getElem hi
    have bad : ¬ (0 ≤ l[i] ∧ l[i] ≤ 15) → l.all chas = false := fun g => by
      refine Bool.eq_false_iff.2 fun q => g ?_
      have := List.all_eq_true.1 q l[i] (List.getElem_mem hi)
      unfold chas at this
      simpa using this
    by_cases g2 : l[i] < 0
    · ((try simp only [S, TY, reduceCtorEq, nq0, nq1, nq2, nq3, nq4, iq0, iq1, iq2, iq3, iq4, iq5, iq6, iq7, iq8, q3, q4, q5, g1, g0, d1, g2]); (try (simp (disch := omega) only [W2, Int.cast_ofNat_Int]; (try simp only [S, TY, reduceCtorEq, nq0, nq1, nq2, nq3, nq4, iq0, iq1, iq2, iq3, iq4, iq5, iq6, iq7, iq8, q3, q4, q5, g1, g0, d1, g2]))))
      exact fin_take (B := []) hH ⟨by rw [bad (by omega)], rfl⟩
    by_cases g3 : (16 : Int) ≤ l[i]
    · ((try simp only [S, TY, reduceCtorEq, nq0, nq1, nq2, nq3, nq4, iq0, iq1, iq2, iq3, iq4, iq5, iq6, iq7, iq8, q3, q4, q5, g1, g0, d1, g2, g3]); (try (simp (disch := omega) only [W2, Int.cast_ofNat_Int]; (try simp only [S, TY, reduceCtorEq, nq0, nq1, nq2, nq3, nq4, iq0, iq1, iq2, iq3, iq4, iq5, iq6, iq7, iq8, q3, q4, q5, g1, g0, d1, g2, g3]))))
      exact fin_take (B := []) hH ⟨by rw [bad (by omega)], rfl⟩
    ((try simp only [S, TY, reduceCtorEq, nq0, nq1, nq2, nq3, nq4, iq0, iq1, iq2, iq3, iq4, iq5, iq6, iq7, iq8, q3, q4, q5, g1, g0, d1, g2, g3]); (try (simp (disch := omega) only [W2, Int.cast_ofNat_Int]; (try simp only [S, TY, reduceCtorEq, nq0, nq1, nq2, nq3, nq4, iq0, iq1, iq2, iq3, iq4, iq5, iq6, iq7, iq8, q3, q4, q5, g1, g0, d1, g2, g3]))))
    exact .go (i + 1) (by omega) ⟨by omega, q3, q4, rfl, by
      rw [ht, List.all_append, q6]
      unfold chas
      simp; omega, hH⟩
  · ((try simp only [S, TY, reduceCtorEq, nq0, nq1, nq2, nq3, nq4, iq0, iq1, iq2, iq3, iq4, iq5, iq6, iq7, iq8, q3, q4, q5, g1]); (try (simp (disch := omega) only [W2, Int.cast_ofNat_Int]; (try simp only [S, TY, reduceCtorEq, nq0, nq1, nq2, nq3, nq4, iq0, iq1, iq2, iq3, iq4, iq5, iq6, iq7, iq8, q3, q4, q5, g1]))))
    rw [List.take_of_length_le (by omega)] at q6
    exact fin_take (B := []) hH ⟨by rw [q6], rfl⟩
theorem way_ok {G : Hp} {v : Value} (k o f t p g i : Int) : Con Try.prog G 172 [pkv k o f t p g i v] [] (fun r B => r = .bool (way k o f t) ∧ B = []) := by
  refine Con.intro Try.func172 rfl (Nat.le_of_ble_eq_true (by kernel_rfl)) (by kernel_rfl) Try.results172 ?_
  intro H hH
  ((try simp only [S, TY, reduceCtorEq, nq0, nq1, nq2, nq3, nq4, iq0, iq1, iq2, iq3, iq4, iq5, iq6, iq7, iq8]); (try (simp (disch := omega) only [W2, Int.cast_ofNat_Int]; (try simp only [S, TY, reduceCtorEq, nq0, nq1, nq2, nq3, nq4, iq0, iq1, iq2, iq3, iq4, iq5, iq6, iq7, iq8]))))
  intro b hb hg
  ((try simp only [S, TY, reduceCtorEq, nq0, nq1, nq2, nq3, nq4, iq0, iq1, iq2, iq3, iq4, iq5, iq6, iq7, iq8]); (try (simp (disch := omega) only [W2, Int.cast_ofNat_Int]; (try simp only [S, TY, reduceCtorEq, nq0, nq1, nq2, nq3, nq4, iq0, iq1, iq2, iq3, iq4, iq5, iq6, iq7, iq8]))))
  generalize hq : H.set b _ = H1
  have h1 : sg G [ob b (.cells (pkl k o f t p g i v).toArray 26 (0, 0))] H1 := hq ▸ hH.new hb hg _
  have c1 := h1.c0
  ((try simp only [S, TY, reduceCtorEq, nq0, nq1, nq2, nq3, nq4, iq0, iq1, iq2, iq3, iq4, iq5, iq6, iq7, iq8, c1]); (try (simp (disch := omega) only [W2, Int.cast_ofNat_Int]; (try simp only [S, TY, reduceCtorEq, nq0, nq1, nq2, nq3, nq4, iq0, iq1, iq2, iq3, iq4, iq5, iq6, iq7, iq8, c1]))))
  repeat' (refine Gate.intro (fun g => ?_) (fun g => ?_) <;> ((try simp only [S, TY, reduceCtorEq, nq0, nq1, nq2, nq3, nq4, iq0, iq1, iq2, iq3, iq4, iq5, iq6, iq7, iq8, c1, g]); (try (simp (disch := omega) only [W2, Int.cast_ofNat_Int]; (try simp only [S, TY, reduceCtorEq, nq0, nq1, nq2, nq3, nq4, iq0, iq1, iq2, iq3, iq4, iq5, iq6, iq7, iq8, c1, g])))))
  all_goals exact fin_take (B := []) h1 ⟨by (refine bb ?_; (try simp only [way, BB]) <;> (first | omega | grind)), rfl⟩
theorem Right_ok {G : Hp} {v : Value} {l : List UInt8} (k o f t p g i : Int) (hv : rds G 1 v (bv l)) :
    Con Try.prog G 100 [pkv k o f t p g i v] [] (fun r B => r = .bool (right k o f t p g i l.length) ∧ B = []) := by
  refine Con.intro Try.func100 rfl (Nat.le_of_ble_eq_true (by kernel_rfl)) (by kernel_rfl) Try.results100 ?_
  intro H hH
  obtain ⟨a, n, c, rfl, e1, e2⟩ := hv.slice
  rw [bv_length] at e1
  ((try simp only [S, TY, reduceCtorEq, nq0, nq1, nq2, nq3, nq4, iq0, iq1, iq2, iq3, iq4, iq5, iq6, iq7, iq8]); (try (simp (disch := omega) only [W2, Int.cast_ofNat_Int]; (try simp only [S, TY, reduceCtorEq, nq0, nq1, nq2, nq3, nq4, iq0, iq1, iq2, iq3, iq4, iq5, iq6, iq7, iq8]))))
  intro b hb hg
  ((try simp only [S, TY, reduceCtorEq, nq0, nq1, nq2, nq3, nq4, iq0, iq1, iq2, iq3, iq4, iq5, iq6, iq7, iq8]); (try (simp (disch := omega) only [W2, Int.cast_ofNat_Int]; (try simp only [S, TY, reduceCtorEq, nq0, nq1, nq2, nq3, nq4, iq0, iq1, iq2, iq3, iq4, iq5, iq6, iq7, iq8]))))
  generalize hq : H.set b _ = H1
  have h1 : sg G [ob b (.cells (pkl k o f t p g i (.slice a n c)).toArray 26 (0, 0))] H1 := hq ▸ hH.new hb hg _
  have c1 := h1.c0
  ((try simp only [S, TY, reduceCtorEq, nq0, nq1, nq2, nq3, nq4, iq0, iq1, iq2, iq3, iq4, iq5, iq6, iq7, iq8, c1]); (try (simp (disch := omega) only [W2, Int.cast_ofNat_Int]; (try simp only [S, TY, reduceCtorEq, nq0, nq1, nq2, nq3, nq4, iq0, iq1, iq2, iq3, iq4, iq5, iq6, iq7, iq8, c1]))))
  intro b2 hb2 hg2
  have h2 := h1.newsl (e := 3) (sz := 1) (n := 3) (xs := iv [o, f, t]) hb2 hg2 rfl
  ((try simp only [S, TY, reduceCtorEq, nq0, nq1, nq2, nq3, nq4, iq0, iq1, iq2, iq3, iq4, iq5, iq6, iq7, iq8]); (try (simp (disch := omega) only [W2, Int.cast_ofNat_Int]; (try simp only [S, TY, reduceCtorEq, nq0, nq1, nq2, nq3, nq4, iq0, iq1, iq2, iq3, iq4, iq5, iq6, iq7, iq8]))))
  refine Con.lend_at [] [own 3 1 _ _] h2 [0] rfl (fun F hF hs => chassis_ok (l := [o, f, t]) (seps_own hs 0 rfl).left (by simp)) fun r B H3 hr h3 => ?_
  obtain ⟨rfl, rfl⟩ := hr
  by_cases g1 : [o, f, t].all chas = true
  · have g1' := g1
    simp only [List.all_cons, List.all_nil, Bool.and_eq_true, chas, decide_eq_true_eq, and_true] at g1'
    have w3 := (h3.front 1).ld
    simp only [List.length_cons, List.length_nil, Nat.reduceAdd] at w3
    ((try simp only [S, TY, reduceCtorEq, nq0, nq1, nq2, nq3, nq4, iq0, iq1, iq2, iq3, iq4, iq5, iq6, iq7, iq8, g1, w3]); (try (simp (disch := omega) only [W2, Int.cast_ofNat_Int]; (try simp only [S, TY, reduceCtorEq, nq0, nq1, nq2, nq3, nq4, iq0, iq1, iq2, iq3, iq4, iq5, iq6, iq7, iq8, g1, w3]))))
    refine (way_ok k o f t p g i).at_ h3 [] _ rfl fun r B H4 hr h4 => ?_
    obtain ⟨rfl, rfl⟩ := hr
    have c4 := (h4.front 1).c0
    obtain ⟨wy, hw⟩ : ∃ w, way k o f t = w := ⟨_, rfl⟩
    rw [hw]
    cases wy with
    | false =>
      ((try simp only [S, TY, reduceCtorEq, nq0, nq1, nq2, nq3, nq4, iq0, iq1, iq2, iq3, iq4, iq5, iq6, iq7, iq8]); (try (simp (disch := omega) only [W2, Int.cast_ofNat_Int]; (try simp only [S, TY, reduceCtorEq, nq0, nq1, nq2, nq3, nq4, iq0, iq1, iq2, iq3, iq4, iq5, iq6, iq7, iq8]))))
      exact fin_take (B := []) h4 ⟨by (refine bb ?_; (try simp only [right, hw, BB]) <;> (first | omega | grind)), rfl⟩
    | true =>
      ((try simp only [S, TY, reduceCtorEq, nq0, nq1, nq2, nq3, nq4, iq0, iq1, iq2, iq3, iq4, iq5, iq6, iq7, iq8, c4]); (try (simp (disch := omega) only [W2, Int.cast_ofNat_Int]; (try simp only [S, TY, reduceCtorEq, nq0, nq1, nq2, nq3, nq4, iq0, iq1, iq2, iq3, iq4, iq5, iq6, iq7, iq8, c4]))))
      repeat' (refine Gate.intro (fun g => ?_) (fun g => ?_) <;> ((try simp only [S, TY, reduceCtorEq, nq0, nq1, nq2, nq3, nq4, iq0, iq1, iq2, iq3, iq4, iq5, iq6, iq7, iq8, c4, g]); (try (simp (disch := omega) only [W2, Int.cast_ofNat_Int]; (try simp only [S, TY, reduceCtorEq, nq0, nq1, nq2, nq3, nq4, iq0, iq1, iq2, iq3, iq4, iq5, iq6, iq7, iq8, c4, g])))))
      all_goals exact fin_take (B := []) h4 ⟨by (refine bb ?_; (try simp only [right, hw, BB]) <;> (first | omega | grind)), rfl⟩
  · rw [Bool.not_eq_true] at g1
    ((try simp only [S, TY, reduceCtorEq, nq0, nq1, nq2, nq3, nq4, iq0, iq1, iq2, iq3, iq4, iq5, iq6, iq7, iq8, g1]); (try (simp (disch := omega) only [W2, Int.cast_ofNat_Int]; (try simp only [S, TY, reduceCtorEq, nq0, nq1, nq2, nq3, nq4, iq0, iq1, iq2, iq3, iq4, iq5, iq6, iq7, iq8, g1]))))
    refine fin_take (B := []) h3 ⟨?_, rfl⟩
    have : right k o f t p g i l.length = false := by
      refine Bool.eq_false_iff.2 fun q => ?_
      unfold right at q
      rw [decide_eq_true_eq] at q
      have : [o, f, t].all chas = true := by
        simp only [List.all_cons, List.all_nil, Bool.and_eq_true, chas, decide_eq_true_eq, and_true]
        exact ⟨q.1, q.2.1, q.2.2.1⟩
      rw [g1] at this
      cases this
    rw [this]
end Go.Proofs.Ytanhmbdcdbcfmaa.Tun
