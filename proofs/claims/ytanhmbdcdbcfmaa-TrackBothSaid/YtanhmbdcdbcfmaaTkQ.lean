/- Flows that are tracked: records taken over. -/
import Derived.Test.YtanhmbdcdbcfmaaTkP
set_option linter.unusedVariables false
set_option linter.unusedSimpArgs false
set_option maxRecDepth 10000
set_option maxHeartbeats 2000000
namespace Go.Proofs.Ytanhmbdcdbcfmaa.TkQ
open Nat renaming reduceEqDiff → nq0, reduceAdd → nq1, reduceLeDiff → nq2, reduceBEq → nq3, reduceMul → nq4
open Int renaming reduceBEq → iq0, reduceEq → iq1, reduceLT → iq2, reduceLE → iq3, reduceAdd → iq4, reduceSub → iq5, reduceMul → iq6, reduceToNat → iq7, cast_ofNat_Int → iq8
open Go Go.Sl Go.Proofs Go.Proofs.Ytanhmbdcdbcfmaa.SoI Go.Proofs.Ytanhmbdcdbcfmaa.Tk Go.Proofs.Ytanhmbdcdbcfmaa.TkO Go.Proofs.Ytanhmbdcdbcfmaa.TkP
theorem TY : aggN Try.prog 3 = some none ∧
  aggN Try.prog 166 = some none ∧
  aggN Try.prog 170 = some none ∧
  aggN Try.prog 175 = some (some 5) ∧
  aggN Try.prog 187 = some (some 6) ∧
  aggN Try.prog 278 = some (some 2) ∧
  apI Try.prog 170 = some (187, 6, 40) ∧
  bIs Try.prog 175 = true ∧
  bIs Try.prog 187 = true ∧
  bIs Try.prog 278 = true ∧
  csz Try.prog 3 = some 1 ∧
  csz Try.prog 166 = some 1 ∧
  csz Try.prog 170 = some 1 ∧
  csz Try.prog 175 = some 5 ∧
  csz Try.prog 187 = some 6 ∧
  csz Try.prog 278 = some 2 ∧
  eqF Try.prog 175 = some [.i, .i, .i, .i, .i] ∧
  eqF Try.prog 187 = some [.i, .i, .i, .i, .i, .i] ∧
  fIs Try.prog 187 0 = true ∧
  fIs Try.prog 187 1 = true ∧
  fIs Try.prog 278 1 = true ∧
  fOff Try.prog 187 0 = 0 ∧
  fOff Try.prog 187 1 = 5 ∧
  fOff Try.prog 278 1 = 1 ∧
  fTy Try.prog 187 0 = 175 ∧
  fTy Try.prog 187 1 = 3 ∧
  fTy Try.prog 278 1 = 170 ∧
  goes Try.prog 91 = true ∧
  goes Try.prog 158 = true ∧
  goes Try.prog 159 = true ∧
  goes Try.prog 160 = true ∧
  inIs Try.prog 3 = some .i64 ∧
  plcs Try.prog 175 = [(0, 1), (1, 1), (2, 1), (3, 1), (4, 1)] ∧
  plcs Try.prog 187 = [(0, 5), (5, 1)] ∧
  plcs Try.prog 278 = [(0, 1), (1, 1)] ∧
  ptIs Try.prog 166 = true ∧
  slEl Try.prog 170 = 187 ∧
  slIs Try.prog 170 = true ∧
  slSz Try.prog 170 = 6 ∧
  zcs Try.prog 175 = [.int .i64 0, .int .u32 0, .int .u32 0, .int .i64 0, .int .i64 0] ∧
  zcs Try.prog 187 = [.int .i64 0, .int .u32 0, .int .u32 0, .int .i64 0, .int .i64 0, .int .i64 0] ∧
  zcs Try.prog 278 = [.int .i64 0, .slice none 0 0] ∧
  zro Try.prog 3 = some (.int .i64 0) ∧
  zro Try.prog 166 = some (.pointer none) ∧
  zro Try.prog 170 = some (.slice none 0 0) ∧
  zro Try.prog 175 = some (.agg #[.int .i64 0, .int .u32 0, .int .u32 0, .int .i64 0, .int .i64 0]) ∧
  zro Try.prog 187 = some (.agg #[.int .i64 0, .int .u32 0, .int .u32 0, .int .i64 0, .int .i64 0, .int .i64 0]) ∧
  zro Try.prog 278 = some (.agg #[.int .i64 0, .slice none 0 0]) :=
  ⟨by kernel_rfl, by kernel_rfl, by kernel_rfl, by kernel_rfl, by kernel_rfl, by kernel_rfl, by kernel_rfl, by kernel_rfl, by kernel_rfl, by kernel_rfl, by kernel_rfl, by kernel_rfl, by kernel_rfl, by kernel_rfl, by kernel_rfl, by kernel_rfl, by kernel_rfl, by kernel_rfl, by kernel_rfl, by kernel_rfl, by kernel_rfl, by kernel_rfl, by kernel_rfl, by kernel_rfl, by kernel_rfl, by kernel_rfl, by kernel_rfl, by kernel_rfl, by kernel_rfl, by kernel_rfl, by kernel_rfl, by kernel_rfl, by kernel_rfl, by kernel_rfl, by kernel_rfl, by kernel_rfl, by kernel_rfl, by kernel_rfl, by kernel_rfl, by kernel_rfl, by kernel_rfl, by kernel_rfl, by kernel_rfl, by kernel_rfl, by kernel_rfl, by kernel_rfl, by kernel_rfl, by kernel_rfl⟩
def istep (now : Int) (a : List Rc × Nat) (x : Rc) : List Rc × Nat := if Fw.ok x.f = true ∧ now < x.u ∧ x.u ≤ 1099511627776 then ((put a.1 x).1, if (put a.1 x).2 = true then a.2 + 1 else a.2) else a
def imp (l : List Rc) (now : Int) (m : List Rc) : List Rc × Nat := if tok now = true then m.foldl (istep now) (live l now, 0) else (l, 0)
theorem istep_len (now : Int) (a : List Rc × Nat) (x : Rc) : (istep now a x).1.length ≤ a.1.length + 1 ∧ (istep now a x).2 ≤ a.2 + 1 := by
  unfold istep
  split
  · refine ⟨put_len _ _, ?_⟩
    simp only
    split <;> omega
  · omega
theorem Import_ok {G : Hp} {p : Nat} {life : Int} {l m : List Rc} {u : Value} (now : Int) (hu : rcs G u m) (hml : m.length ≤ 1000) (hll : l.length ≤ 5000) :
    Con Try.prog G 88 [.pointer (some ⟨p, 0, none⟩), .int .i64 now, u] [tT p life l] (fun r B => r = .int .i64 ((imp l now m).2 : Nat) ∧ B = [tT p life (imp l now m).1]) := by
  obtain ⟨res, hres⟩ : ∃ r, imp l now m = r := ⟨_, rfl⟩
  rw [hres]
  unfold imp at hres
  obtain ⟨b1, hb1⟩ : ∃ b, tok now = b := ⟨_, rfl⟩
  rw [hb1] at hres
  obtain ⟨a, n, c, rfl, e1, e2⟩ := hu.slice
  rw [flat_len Rc.len] at e1
  obtain rfl : m.length = n := by omega
  clear e1
  refine Con.intro Try.func88 rfl (Nat.le_of_ble_eq_true (by kernel_rfl)) (by kernel_rfl) Try.results88 ?_
  intro H h
  ((try simp only [S, TY, reduceCtorEq, nq0, nq1, nq2, nq3, nq4, iq0, iq1, iq2, iq3, iq4, iq5, iq6, iq7, iq8]); (try (simp (disch := omega) only [W2, Int.cast_ofNat_Int]; (try simp only [S, TY, reduceCtorEq, nq0, nq1, nq2, nq3, nq4, iq0, iq1, iq2, iq3, iq4, iq5, iq6, iq7, iq8]))))
  refine (time_ok now).at_ h [] _ rfl fun r B H4 hr h4 => ?_
  obtain ⟨rfl, rfl⟩ := hr
  rw [hb1]
  cases b1 with
  | false =>
    rw [if_neg (by decide)] at hres
    subst hres
    ((try simp only [S, TY, reduceCtorEq, nq0, nq1, nq2, nq3, nq4, iq0, iq1, iq2, iq3, iq4, iq5, iq6, iq7, iq8]); (try (simp (disch := omega) only [W2, Int.cast_ofNat_Int]; (try simp only [S, TY, reduceCtorEq, nq0, nq1, nq2, nq3, nq4, iq0, iq1, iq2, iq3, iq4, iq5, iq6, iq7, iq8]))))
    exact fin_take (B := [_]) h4 ⟨rfl, rfl⟩
  | true =>
    rw [if_pos rfl] at hres
    ((try simp only [S, TY, reduceCtorEq, nq0, nq1, nq2, nq3, nq4, iq0, iq1, iq2, iq3, iq4, iq5, iq6, iq7, iq8]); (try (simp (disch := omega) only [W2, Int.cast_ofNat_Int]; (try simp only [S, TY, reduceCtorEq, nq0, nq1, nq2, nq3, nq4, iq0, iq1, iq2, iq3, iq4, iq5, iq6, iq7, iq8]))))
    refine (Records_ok (now := now) (by omega)).at_ h4 [0] _ rfl fun r B H6 hr h6 => ?_
    subst hr
    obtain ⟨ra, rn, rc, rfl, _, _⟩ := h6.sl 0 rfl Rd_own
    simp only [front_eq, fronts_nil, fronts_cons, List.getElem?_cons_zero, List.getElem?_cons_succ, List.eraseIdx_cons_zero, List.eraseIdx_cons_succ, List.cons_append, List.nil_append, putL_cons, putL_nil, List.set_cons_zero, List.set_cons_succ, Nat.reduceAdd] at h6
    obtain ⟨ta, tc, _, h7⟩ := tT_open (h6.front 1)
    simp only [front_eq, fronts_nil, fronts_cons, List.getElem?_cons_zero, List.getElem?_cons_succ, List.eraseIdx_cons_zero, List.eraseIdx_cons_succ, List.cons_append, List.nil_append, putL_cons, putL_nil, List.set_cons_zero, List.set_cons_succ, Nat.reduceAdd] at h7
    ((try simp only [S, TY, reduceCtorEq, nq0, nq1, nq2, nq3, nq4, iq0, iq1, iq2, iq3, iq4, iq5, iq6, iq7, iq8]); (try (simp (disch := omega) only [W2, Int.cast_ofNat_Int]; (try simp only [S, TY, reduceCtorEq, nq0, nq1, nq2, nq3, nq4, iq0, iq1, iq2, iq3, iq4, iq5, iq6, iq7, iq8]))))
    refine sg.st h7 rfl rfl fun H8 h8 => ?_
    simp only [front_eq, fronts_nil, fronts_cons, List.getElem?_cons_zero, List.getElem?_cons_succ, List.eraseIdx_cons_zero, List.eraseIdx_cons_succ, List.cons_append, List.nil_append, putL_cons, putL_nil, List.set_cons_zero, List.set_cons_succ, Nat.reduceAdd] at h8
    have h9 := tT_shut (h8.fronts [0, 1])
    ((try simp only [S, TY, reduceCtorEq, nq0, nq1, nq2, nq3, nq4, iq0, iq1, iq2, iq3, iq4, iq5, iq6, iq7, iq8]); (try (simp (disch := omega) only [W2, Int.cast_ofNat_Int]; (try simp only [S, TY, reduceCtorEq, nq0, nq1, nq2, nq3, nq4, iq0, iq1, iq2, iq3, iq4, iq5, iq6, iq7, iq8]))))
    refine cl_loop (fun i e H => i ≤ m.length ∧ e 0 = .pointer (some ⟨p, 0, none⟩) ∧ e 1 = .int .i64 now ∧ e 23 = .slice a m.length c ∧ e 24 = .int .i64 (m.length : Nat) ∧ e 25 = .int .i64 (i : Nat) ∧
        ∃ cur cnt, (m.take i).foldl (istep now) (live l now, 0) = (cur, cnt) ∧ cur.length ≤ l.length + i ∧ cnt ≤ i ∧ e 7 = .int .i64 (cnt : Nat) ∧ sg G [tT p life cur] H) (fun i : Nat => m.length - i) 0
      ⟨by omega, rfl, rfl, rfl, rfl, rfl, live l now, 0, rfl, live_len l now, by omega, rfl, h9.take1⟩ ?_
    clear h h4 h6 h7 h8 h9
    rintro i e H ⟨q1, q0, qn, q23, q24, q25, cur, cnt, hfold, hcl, hcn, q7, h⟩
    by_cases g1 : (i : Int) < m.length
    · obtain ⟨b, off, hl, rfl, hc, hld⟩ := hu.el Rc.len (i := i) (by omega) (by omega)
      have g0 : (0 : Int) ≤ i ∧ (i : Int) < m.length := ⟨by omega, g1⟩
      have el := h.rold hld
      have hs : m.take (i + 1) = m.take i ++ [m[i]] := by rw [List.take_add_one, List.getElem?_eq_getElem hl]; rfl
      clear hc
      obtain ⟨x, hx⟩ : ∃ x, m[i] = x := ⟨_, rfl⟩
      rw [hx] at hs el
      have hst : (m.take (i + 1)).foldl (istep now) (live l now, 0) = istep now (cur, cnt) x := by rw [hs, List.foldl_append, hfold]; rfl
      obtain ⟨b2, hb2⟩ : ∃ b, Fw.ok x.f = b := ⟨_, rfl⟩
      obtain ⟨⟨p1, s1, d1, a1, c1⟩, u1⟩ := x
      ((try simp only [S, TY, reduceCtorEq, nq0, nq1, nq2, nq3, nq4, iq0, iq1, iq2, iq3, iq4, iq5, iq6, iq7, iq8, q0, qn, q23, q24, q25, q7, g1, g0, el]); (try (simp (disch := omega) only [W2, Int.cast_ofNat_Int]; (try simp only [S, TY, reduceCtorEq, nq0, nq1, nq2, nq3, nq4, iq0, iq1, iq2, iq3, iq4, iq5, iq6, iq7, iq8, q0, qn, q23, q24, q25, q7, g1, g0, el]))))
      intro q hq hg
      have h1 := h.new hq hg (.cells (Rc.l ⟨⟨0, 0, 0, 0, 0⟩, 0⟩).toArray 187 (0, 0))
      ((try simp only [S, TY, reduceCtorEq, nq0, nq1, nq2, nq3, nq4, iq0, iq1, iq2, iq3, iq4, iq5, iq6, iq7, iq8, q0, qn, q23, q24, q25, q7]); (try (simp (disch := omega) only [W2, Int.cast_ofNat_Int]; (try simp only [S, TY, reduceCtorEq, nq0, nq1, nq2, nq3, nq4, iq0, iq1, iq2, iq3, iq4, iq5, iq6, iq7, iq8, q0, qn, q23, q24, q25, q7]))))
      refine sg.st h1 rfl rfl fun H2 h2 => ?_
      simp only [front_eq, fronts_nil, fronts_cons, List.getElem?_cons_zero, List.getElem?_cons_succ, List.eraseIdx_cons_zero, List.eraseIdx_cons_succ, List.cons_append, List.nil_append, putL_cons, putL_nil, List.set_cons_zero, List.set_cons_succ, Nat.reduceAdd] at h2
      have w2 := h2.li 0 rfl
      ((try simp only [S, TY, reduceCtorEq, nq0, nq1, nq2, nq3, nq4, iq0, iq1, iq2, iq3, iq4, iq5, iq6, iq7, iq8, q0, qn, q23, q24, q25, q7, w2]); (try (simp (disch := omega) only [W2, Int.cast_ofNat_Int]; (try simp only [S, TY, reduceCtorEq, nq0, nq1, nq2, nq3, nq4, iq0, iq1, iq2, iq3, iq4, iq5, iq6, iq7, iq8, q0, qn, q23, q24, q25, q7, w2]))))
      refine (iRight_ok ⟨p1, s1, d1, a1, c1⟩).at_ h2 [] _ rfl fun r B H3 hr h3 => ?_
      obtain ⟨rfl, rfl⟩ := hr
      rw [hb2]
      have skip_ : ∀ (H' : Hp) (L : List Asn) (e' : Env), istep now (cur, cnt) ⟨⟨p1, s1, d1, a1, c1⟩, u1⟩ = (cur, cnt) → True := fun _ _ _ _ => trivial
      have c3 := h3.c0
      cases b2 with
      | false =>
        have hi : istep now (cur, cnt) ⟨⟨p1, s1, d1, a1, c1⟩, u1⟩ = (cur, cnt) := by unfold istep; rw [if_neg (by rw [hb2]; simp)]
        ((try simp only [S, TY, reduceCtorEq, nq0, nq1, nq2, nq3, nq4, iq0, iq1, iq2, iq3, iq4, iq5, iq6, iq7, iq8, q0, qn, q23, q24, q25, q7]); (try (simp (disch := omega) only [W2, Int.cast_ofNat_Int]; (try simp only [S, TY, reduceCtorEq, nq0, nq1, nq2, nq3, nq4, iq0, iq1, iq2, iq3, iq4, iq5, iq6, iq7, iq8, q0, qn, q23, q24, q25, q7]))))
        exact .go (i + 1) (by omega) ⟨by omega, q0, qn, q23, q24, rfl, cur, cnt, by rw [hst, hi], by omega, by omega, q7, (h3.front 1).take1⟩
      | true =>
        by_cases g2 : now < u1
        · by_cases g3 : u1 ≤ 1099511627776
          · have hi : istep now (cur, cnt) ⟨⟨p1, s1, d1, a1, c1⟩, u1⟩ = ((put cur ⟨⟨p1, s1, d1, a1, c1⟩, u1⟩).1, if (put cur ⟨⟨p1, s1, d1, a1, c1⟩, u1⟩).2 = true then cnt + 1 else cnt) := by unfold istep; rw [if_pos ⟨hb2, g2, g3⟩]
            have w3 := h3.li 0 rfl
            ((try simp only [S, TY, reduceCtorEq, nq0, nq1, nq2, nq3, nq4, iq0, iq1, iq2, iq3, iq4, iq5, iq6, iq7, iq8, q0, qn, q23, q24, q25, q7, c3, g2, g3, w3]); (try (simp (disch := omega) only [W2, Int.cast_ofNat_Int]; (try simp only [S, TY, reduceCtorEq, nq0, nq1, nq2, nq3, nq4, iq0, iq1, iq2, iq3, iq4, iq5, iq6, iq7, iq8, q0, qn, q23, q24, q25, q7, c3, g2, g3, w3]))))
            refine (put_ok ⟨⟨p1, s1, d1, a1, c1⟩, u1⟩ (by omega)).at_ h3 [1] _ rfl fun r B H4 hr h4 => ?_
            obtain ⟨rfl, rfl⟩ := hr
            have hpl := put_len cur ⟨⟨p1, s1, d1, a1, c1⟩, u1⟩
            obtain ⟨⟨cur2, ok⟩, hpp⟩ : ∃ r, put cur ⟨⟨p1, s1, d1, a1, c1⟩, u1⟩ = r := ⟨_, rfl⟩
            rw [hpp] at hi h4 hpl ⊢
            simp only at hi h4 hpl ⊢
            cases ok with
            | true =>
              rw [if_pos rfl] at hi
              ((try simp only [S, TY, reduceCtorEq, nq0, nq1, nq2, nq3, nq4, iq0, iq1, iq2, iq3, iq4, iq5, iq6, iq7, iq8, q0, qn, q23, q24, q25, q7]); (try (simp (disch := omega) only [W2, Int.cast_ofNat_Int]; (try simp only [S, TY, reduceCtorEq, nq0, nq1, nq2, nq3, nq4, iq0, iq1, iq2, iq3, iq4, iq5, iq6, iq7, iq8, q0, qn, q23, q24, q25, q7]))))
              exact .go (i + 1) (by omega) ⟨by omega, q0, qn, q23, q24, rfl, cur2, cnt + 1, by rw [hst, hi], by omega, by omega, rfl, h4.take1⟩
            | false =>
              rw [if_neg (by decide)] at hi
              ((try simp only [S, TY, reduceCtorEq, nq0, nq1, nq2, nq3, nq4, iq0, iq1, iq2, iq3, iq4, iq5, iq6, iq7, iq8, q0, qn, q23, q24, q25, q7]); (try (simp (disch := omega) only [W2, Int.cast_ofNat_Int]; (try simp only [S, TY, reduceCtorEq, nq0, nq1, nq2, nq3, nq4, iq0, iq1, iq2, iq3, iq4, iq5, iq6, iq7, iq8, q0, qn, q23, q24, q25, q7]))))
              exact .go (i + 1) (by omega) ⟨by omega, q0, qn, q23, q24, rfl, cur2, cnt, by rw [hst, hi], by omega, by omega, q7, h4.take1⟩
          · have hi : istep now (cur, cnt) ⟨⟨p1, s1, d1, a1, c1⟩, u1⟩ = (cur, cnt) := by unfold istep; rw [if_neg (fun z => g3 z.2.2)]
            ((try simp only [S, TY, reduceCtorEq, nq0, nq1, nq2, nq3, nq4, iq0, iq1, iq2, iq3, iq4, iq5, iq6, iq7, iq8, q0, qn, q23, q24, q25, q7, c3, g2, g3]); (try (simp (disch := omega) only [W2, Int.cast_ofNat_Int]; (try simp only [S, TY, reduceCtorEq, nq0, nq1, nq2, nq3, nq4, iq0, iq1, iq2, iq3, iq4, iq5, iq6, iq7, iq8, q0, qn, q23, q24, q25, q7, c3, g2, g3]))))
            exact .go (i + 1) (by omega) ⟨by omega, q0, qn, q23, q24, rfl, cur, cnt, by rw [hst, hi], by omega, by omega, q7, (h3.front 1).take1⟩
        · have hi : istep now (cur, cnt) ⟨⟨p1, s1, d1, a1, c1⟩, u1⟩ = (cur, cnt) := by unfold istep; rw [if_neg (fun z => g2 z.2.1)]
          ((try simp only [S, TY, reduceCtorEq, nq0, nq1, nq2, nq3, nq4, iq0, iq1, iq2, iq3, iq4, iq5, iq6, iq7, iq8, q0, qn, q23, q24, q25, q7, c3, g2]); (try (simp (disch := omega) only [W2, Int.cast_ofNat_Int]; (try simp only [S, TY, reduceCtorEq, nq0, nq1, nq2, nq3, nq4, iq0, iq1, iq2, iq3, iq4, iq5, iq6, iq7, iq8, q0, qn, q23, q24, q25, q7, c3, g2]))))
          exact .go (i + 1) (by omega) ⟨by omega, q0, qn, q23, q24, rfl, cur, cnt, by rw [hst, hi], by omega, by omega, q7, (h3.front 1).take1⟩
    · rw [List.take_of_length_le (by omega), hres] at hfold
      subst hfold
      ((try simp only [S, TY, reduceCtorEq, nq0, nq1, nq2, nq3, nq4, iq0, iq1, iq2, iq3, iq4, iq5, iq6, iq7, iq8, q0, qn, q23, q24, q25, q7, g1]); (try (simp (disch := omega) only [W2, Int.cast_ofNat_Int]; (try simp only [S, TY, reduceCtorEq, nq0, nq1, nq2, nq3, nq4, iq0, iq1, iq2, iq3, iq4, iq5, iq6, iq7, iq8, q0, qn, q23, q24, q25, q7, g1]))))
      exact fin_take (B := [_]) h ⟨rfl, rfl⟩
theorem Import_nil {G : Hp} (now : Int) (u : Value) : Con Try.prog G 88 [.pointer none, .int .i64 now, u] [] (fun r B => r = .int .i64 0 ∧ B = []) := by
  refine Con.intro Try.func88 rfl (Nat.le_of_ble_eq_true (by kernel_rfl)) (by kernel_rfl) Try.results88 ?_
  intro H h
  ((try simp only [S, TY, reduceCtorEq, nq0, nq1, nq2, nq3, nq4, iq0, iq1, iq2, iq3, iq4, iq5, iq6, iq7, iq8]); (try (simp (disch := omega) only [W2, Int.cast_ofNat_Int]; (try simp only [S, TY, reduceCtorEq, nq0, nq1, nq2, nq3, nq4, iq0, iq1, iq2, iq3, iq4, iq5, iq6, iq7, iq8]))))
  exact fin_take (B := []) h ⟨rfl, rfl⟩
end Go.Proofs.Ytanhmbdcdbcfmaa.TkQ
