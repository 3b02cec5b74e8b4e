/- Flows that are tracked: slices of records. -/
import Derived.Test.YtanhmbdcdbcfmaaSoI
import Derived.Test.YtanhmbdcdbcfmaaClr
set_option linter.unusedVariables false
set_option linter.unusedSimpArgs false
set_option maxRecDepth 10000
set_option maxHeartbeats 2000000
namespace Go.Proofs.Ytanhmbdcdbcfmaa.Tk
open Nat renaming reduceEqDiff → nq0, reduceAdd → nq1, reduceLeDiff → nq2, reduceBEq → nq3, reduceMul → nq4
open Int renaming reduceBEq → iq0, reduceEq → iq1, reduceLT → iq2, reduceLE → iq3, reduceAdd → iq4, reduceSub → iq5, reduceMul → iq6, reduceToNat → iq7, cast_ofNat_Int → iq8
open Go Go.Sl Go.Proofs Go.Proofs.Ytanhmbdcdbcfmaa.SoI
theorem TY : aggN Try.prog 3 = some none ∧
  aggN Try.prog 170 = some none ∧
  aggN Try.prog 187 = some (some 6) ∧
  aggN Try.prog 281 = some none ∧
  apI Try.prog 170 = some (187, 6, 40) ∧
  bIs Try.prog 187 = true ∧
  csz Try.prog 3 = some 1 ∧
  csz Try.prog 170 = some 1 ∧
  csz Try.prog 187 = some 6 ∧
  csz Try.prog 281 = some 1 ∧
  eqF Try.prog 187 = some [.i, .i, .i, .i, .i, .i] ∧
  fnIs Try.prog 281 = true ∧
  goes Try.prog 187 = true ∧
  inIs Try.prog 3 = some .i64 ∧
  plcs Try.prog 187 = [(0, 5), (5, 1)] ∧
  slEl Try.prog 170 = 187 ∧
  slIs Try.prog 170 = true ∧
  slSz Try.prog 170 = 6 ∧
  zcs Try.prog 187 = [.int .i64 0, .int .u32 0, .int .u32 0, .int .i64 0, .int .i64 0, .int .i64 0] ∧
  zro Try.prog 3 = some (.int .i64 0) ∧
  zro Try.prog 170 = some (.slice none 0 0) ∧
  zro Try.prog 187 = some (.agg #[.int .i64 0, .int .u32 0, .int .u32 0, .int .i64 0, .int .i64 0, .int .i64 0]) ∧
  zro Try.prog 281 = some (.nilFunc) :=
  ⟨by kernel_rfl, by kernel_rfl, by kernel_rfl, by kernel_rfl, by kernel_rfl, by kernel_rfl, by kernel_rfl, by kernel_rfl, by kernel_rfl, by kernel_rfl, by kernel_rfl, by kernel_rfl, by kernel_rfl, by kernel_rfl, by kernel_rfl, by kernel_rfl, by kernel_rfl, by kernel_rfl, by kernel_rfl, by kernel_rfl, by kernel_rfl, by kernel_rfl, by kernel_rfl⟩
structure Fw where
  p : Int
  s : Int
  d : Int
  a : Int
  b : Int
  deriving DecidableEq
abbrev Fw.l (x : Fw) : List Value := [.int .i64 x.p, .int .u32 x.s, .int .u32 x.d, .int .i64 x.a, .int .i64 x.b]
abbrev Fw.v (x : Fw) : Value := .agg x.l.toArray
def Fw.back (x : Fw) : Fw := ⟨x.p, x.d, x.s, x.b, x.a⟩
structure Rc where
  f : Fw
  u : Int
  deriving DecidableEq
abbrev Rc.l (x : Rc) : List Value := [.int .i64 x.f.p, .int .u32 x.f.s, .int .u32 x.f.d, .int .i64 x.f.a, .int .i64 x.f.b, .int .i64 x.u]
abbrev Rc.v (x : Rc) : Value := .agg x.l.toArray
theorem Rc.len (x : Rc) : x.l.length = 6 := rfl
abbrev rcs (G : Hp) (v : Value) (l : List Rc) : Prop := rds G 6 v (l.flatMap Rc.l)
theorem rc_one (l : List Rc) : ∀ v ∈ l.flatMap Rc.l, v.oneCell' = true := by
  intro v hv
  obtain ⟨x, -, hx⟩ := List.mem_flatMap.1 hv
  simp only [List.mem_cons, List.not_mem_nil, or_false] at hx
  rcases hx with rfl | rfl | rfl | rfl | rfl | rfl <;> rfl
theorem none_ {R : Hp} {n c sz : Nat} {xs : List Value} (h : rds R sz (.slice none n c) xs) : xs = [] := by
  obtain ⟨a, n', c', e, h2, h3, h4⟩ := h
  cases e
  rcases h4 with h4 | ⟨b, off, h4, -⟩
  · exact h4
  · cases h4
theorem clone_ok {G : Hp} {v : Value} {l : List Rc} (hv : rcs G v l) (hl : l.length ≤ 100000) :
    Con Try.prog G 165 [v] [] (fun r B => B = [own 187 6 r (l.flatMap Rc.l)]) := by
  refine Con.intro Try.func165 rfl (Nat.le_of_ble_eq_true (by kernel_rfl)) (by kernel_rfl) Try.results165 ?_
  intro H hH
  obtain ⟨a, n, c, rfl, e1, e2⟩ := hv.slice
  cases a with
  | none =>
    have h0 := none_ hv
    rw [h0]
    ((try simp only [S, TY, reduceCtorEq, nq0, nq1, nq2, nq3, nq4, iq0, iq1, iq2, iq3, iq4, iq5, iq6, iq7, iq8]); (try (simp (disch := omega) only [W2, Int.cast_ofNat_Int]; (try simp only [S, TY, reduceCtorEq, nq0, nq1, nq2, nq3, nq4, iq0, iq1, iq2, iq3, iq4, iq5, iq6, iq7, iq8]))))
    exact fin_ret (hH.nil_ 187 6) rfl
  | some a =>
    ((try simp only [S, TY, reduceCtorEq, nq0, nq1, nq2, nq3, nq4, iq0, iq1, iq2, iq3, iq4, iq5, iq6, iq7, iq8]); (try (simp (disch := omega) only [W2, Int.cast_ofNat_Int]; (try simp only [S, TY, reduceCtorEq, nq0, nq1, nq2, nq3, nq4, iq0, iq1, iq2, iq3, iq4, iq5, iq6, iq7, iq8]))))
    intro b hb hg
    have h1 := hH.newsl (e := 187) (sz := 6) (n := 0) (xs := []) hb hg rfl
    ((try simp only [S, TY, reduceCtorEq, nq0, nq1, nq2, nq3, nq4, iq0, iq1, iq2, iq3, iq4, iq5, iq6, iq7, iq8]); (try (simp (disch := omega) only [W2, Int.cast_ofNat_Int]; (try simp only [S, TY, reduceCtorEq, nq0, nq1, nq2, nq3, nq4, iq0, iq1, iq2, iq3, iq4, iq5, iq6, iq7, iq8]))))
    refine append_sl (show apI Try.prog 170 = some (187, 6, 40) from by kernel_rfl) (show slIs Try.prog 170 = true from by kernel_rfl) h1 (h1.ro hv) (rc_one _) (by rw [flat_len Rc.len, List.length_nil]; omega) fun v H2 h2 => ?_
    ((try simp only [S, TY, reduceCtorEq, nq0, nq1, nq2, nq3, nq4, iq0, iq1, iq2, iq3, iq4, iq5, iq6, iq7, iq8]); (try (simp (disch := omega) only [W2, Int.cast_ofNat_Int]; (try simp only [S, TY, reduceCtorEq, nq0, nq1, nq2, nq3, nq4, iq0, iq1, iq2, iq3, iq4, iq5, iq6, iq7, iq8]))))
    exact fin_ret h2 (by simp only [List.nil_append])
/-- The place of the first one that a function takes; the function has one thing of its own. -/
theorem idx_ok {G : Hp} {X : Asn} {cap : Value} {k : FuncId} (hk : goes Try.prog k = true) {v : Value} {l : List Rc} (hv : rcs G v l) (hll : l.length ≤ 100000) (p : Rc → Bool) (f : ∀ x, Con Try.prog G k [x.v, cap] [X] (fun r B => r = .bool (p x) ∧ B = [X])) :
    Con Try.prog G 187 [v, .func (.func k) #[] #[cap]] [X] (fun r B => ((r = .int .i64 (-1) ∧ ∀ x ∈ l, p x = false) ∨ ∃ (j : Nat) (hj : j < l.length), r = .int .i64 j ∧ p l[j] = true ∧ ∀ x ∈ l.take j, p x = false) ∧ B = [X]) := by
  obtain ⟨a, n, c, rfl, e1, e2⟩ := hv.slice
  rw [flat_len Rc.len] at e1
  obtain rfl : l.length = n := by omega
  clear e1
  refine Con.intro Try.func187 rfl (Nat.le_of_ble_eq_true (by kernel_rfl)) (by kernel_rfl) Try.results187 ?_
  intro H h
  ((try simp only [S, TY, reduceCtorEq, nq0, nq1, nq2, nq3, nq4, iq0, iq1, iq2, iq3, iq4, iq5, iq6, iq7, iq8]); (try (simp (disch := omega) only [W2, Int.cast_ofNat_Int]; (try simp only [S, TY, reduceCtorEq, nq0, nq1, nq2, nq3, nq4, iq0, iq1, iq2, iq3, iq4, iq5, iq6, iq7, iq8]))))
  refine cl_loop (fun i e H => i ≤ l.length ∧ e 0 = .slice a l.length c ∧ e 1 = .func (.func k) #[] #[cap] ∧ e 7 = .int .i64 l.length ∧ e 8 = .int .i64 i ∧ (∀ x ∈ l.take i, p x = false) ∧ sg G [X] H) (fun i => l.length - i) 0
    ⟨by omega, rfl, rfl, rfl, rfl, by simp, h⟩ ?_
  clear h
  rintro i e H ⟨q1, q2, q3, q4, q5, q6, h⟩
  by_cases g1 : (i : Int) < l.length
  · obtain ⟨b, off, hl, rfl, hc, hld⟩ := hv.el Rc.len (i := i) (by omega) (by omega)
    have g0 : (0 : Int) ≤ i ∧ (i : Int) < l.length := ⟨by omega, g1⟩
    have el := h.rold hld
    have hs : l.take (i + 1) = l.take i ++ [l[i]] := by rw [List.take_add_one, List.getElem?_eq_getElem hl]; rfl
    clear hc
    ((try simp only [S, TY, reduceCtorEq, nq0, nq1, nq2, nq3, nq4, iq0, iq1, iq2, iq3, iq4, iq5, iq6, iq7, iq8, q2, q3, q4, q5, g1, g0, el, hk]); (try (simp (disch := omega) only [W2, Int.cast_ofNat_Int]; (try simp only [S, TY, reduceCtorEq, nq0, nq1, nq2, nq3, nq4, iq0, iq1, iq2, iq3, iq4, iq5, iq6, iq7, iq8, q2, q3, q4, q5, g1, g0, el, hk]))))
    refine (f l[i]).at_ h [0] _ rfl (fun r B H' hr h' => ?_)
    obtain ⟨rfl, rfl⟩ := hr
    cases hp : p l[i] with
    | true =>
      ((try simp only [S, TY, reduceCtorEq, nq0, nq1, nq2, nq3, nq4, iq0, iq1, iq2, iq3, iq4, iq5, iq6, iq7, iq8, q2, q3, q4, q5, hp]); (try (simp (disch := omega) only [W2, Int.cast_ofNat_Int]; (try simp only [S, TY, reduceCtorEq, nq0, nq1, nq2, nq3, nq4, iq0, iq1, iq2, iq3, iq4, iq5, iq6, iq7, iq8, q2, q3, q4, q5, hp]))))
      exact fin_take (B := [_]) h' ⟨.inr ⟨i, hl, rfl, hp, q6⟩, rfl⟩
    | false =>
      ((try simp only [S, TY, reduceCtorEq, nq0, nq1, nq2, nq3, nq4, iq0, iq1, iq2, iq3, iq4, iq5, iq6, iq7, iq8, q2, q3, q4, q5, hp]); (try (simp (disch := omega) only [W2, Int.cast_ofNat_Int]; (try simp only [S, TY, reduceCtorEq, nq0, nq1, nq2, nq3, nq4, iq0, iq1, iq2, iq3, iq4, iq5, iq6, iq7, iq8, q2, q3, q4, q5, hp]))))
      refine .go (i + 1) (by omega) ⟨by omega, q2, q3, q4, rfl, ?_, h'⟩
      intro x hx
      rw [hs] at hx
      rcases List.mem_append.1 hx with hx | hx
      · exact q6 x hx
      · rw [List.mem_singleton] at hx; subst hx; exact hp
  · ((try simp only [S, TY, reduceCtorEq, nq0, nq1, nq2, nq3, nq4, iq0, iq1, iq2, iq3, iq4, iq5, iq6, iq7, iq8, q2, q3, q4, q5, g1]); (try (simp (disch := omega) only [W2, Int.cast_ofNat_Int]; (try simp only [S, TY, reduceCtorEq, nq0, nq1, nq2, nq3, nq4, iq0, iq1, iq2, iq3, iq4, iq5, iq6, iq7, iq8, q2, q3, q4, q5, g1]))))
    rw [List.take_of_length_le (by omega)] at q6
    exact fin_take (B := [_]) h ⟨.inl ⟨rfl, q6⟩, rfl⟩
theorem filter_all {l : List Rc} {p : Rc → Bool} (h : ∀ x ∈ l, p x = false) : l.filter (fun x => !p x) = l := by
  rw [List.filter_eq_self]
  intro x hx
  rw [h x hx]; rfl
/-- Those that a function takes are let go. -/
theorem del_ok {G : Hp} {X : Asn} {cap : Value} {k : FuncId} (hk : goes Try.prog k = true) {v : Value} {l : List Rc} (hll : l.length ≤ 100000) (p : Rc → Bool) (f : ∀ (G : Hp) (x : Rc), Con Try.prog G k [x.v, cap] [X] (fun r B => r = .bool (p x) ∧ B = [X])) :
    Con Try.prog G 164 [v, .func (.func k) #[] #[cap]] [own 187 6 v (l.flatMap Rc.l), X] (fun r B => B = [own 187 6 r ((l.filter fun x => !p x).flatMap Rc.l), X]) := by
  refine Con.intro Try.func164 rfl (Nat.le_of_ble_eq_true (by kernel_rfl)) (by kernel_rfl) Try.results164 ?_
  intro H h
  obtain ⟨a, n, c, rfl, e1, e2⟩ := h.sl 0 rfl Rd_own
  rw [flat_len Rc.len] at e1
  obtain rfl : l.length = n := by omega
  clear e1
  ((try simp only [S, TY, reduceCtorEq, nq0, nq1, nq2, nq3, nq4, iq0, iq1, iq2, iq3, iq4, iq5, iq6, iq7, iq8]); (try (simp (disch := omega) only [W2, Int.cast_ofNat_Int]; (try simp only [S, TY, reduceCtorEq, nq0, nq1, nq2, nq3, nq4, iq0, iq1, iq2, iq3, iq4, iq5, iq6, iq7, iq8]))))
  refine Con.lend_at [X] [own 187 6 _ (l.flatMap Rc.l)] h [1, 0] rfl (fun F hF hs => idx_ok hk (seps_own hs 0 rfl).left hll p (f _)) (fun r B H2 hr h2 => ?_)
  obtain ⟨hr, rfl⟩ := hr
  rcases hr with ⟨rfl, hall⟩ | ⟨j0, hj0, rfl, hp0, hbe⟩
  · ((try simp only [S, TY, reduceCtorEq, nq0, nq1, nq2, nq3, nq4, iq0, iq1, iq2, iq3, iq4, iq5, iq6, iq7, iq8]); (try (simp (disch := omega) only [W2, Int.cast_ofNat_Int]; (try simp only [S, TY, reduceCtorEq, nq0, nq1, nq2, nq3, nq4, iq0, iq1, iq2, iq3, iq4, iq5, iq6, iq7, iq8]))))
    rw [filter_all hall]
    exact fin_take (B := [_, _]) (h2.fronts [1, 0]) rfl
  · have nm : ¬ (j0 : Int) = -1 := by omega
    have w0 : IntKind.i64.wrap ((j0 : Int) + 1) = ((j0 + 1 : Nat) : Int) := by rw [wrap_id] <;> omega
    ((try simp only [S, TY, reduceCtorEq, nq0, nq1, nq2, nq3, nq4, iq0, iq1, iq2, iq3, iq4, iq5, iq6, iq7, iq8, nm, w0]); (try (simp (disch := omega) only [W2, Int.cast_ofNat_Int]; (try simp only [S, TY, reduceCtorEq, nq0, nq1, nq2, nq3, nq4, iq0, iq1, iq2, iq3, iq4, iq5, iq6, iq7, iq8, nm, w0]))))
    refine cl_loop (fun j e H => j ≤ l.length ∧ e 0 = .slice a l.length c ∧ e 1 = .func (.func k) #[] #[cap] ∧ e 6 = .int .i64 (j : Nat) ∧ ∃ (kept junk : List Rc) (y : Rc), kept = (l.take j).filter (fun x => !p x) ∧ e 5 = .int .i64 (kept.length : Nat) ∧ kept.length + (junk.length + 1) = j ∧
        sg G [own 187 6 (.slice a l.length c) ((kept ++ y :: (junk ++ l.drop j)).flatMap Rc.l), X] H) (fun j : Nat => l.length - j) (j0 + 1)
      ⟨by omega, rfl, rfl, rfl, l.take j0, [], l[j0], ?_, ?_, ?_, ?_⟩ ?_
    · rw [List.take_add_one, List.getElem?_eq_getElem hj0, List.filter_append, filter_all hbe]
      simp [hp0]
    · rw [List.length_take, Nat.min_eq_left (by omega)]; rfl
    · rw [List.length_take, Nat.min_eq_left (by omega)]; rfl
    · have : l.take j0 ++ l[j0] :: ([] ++ l.drop (j0 + 1)) = l := by rw [List.nil_append, ← List.drop_eq_getElem_cons hj0, List.take_append_drop]
      rw [this]
      exact ⟨h2.1, seps_take (B := [_, _]) (h2.fronts [1, 0]).2⟩
    clear h h2
    rintro j e H ⟨q1, q0, q2, q6, kept, junk, y, hkp, q5, hjl, h⟩
    by_cases g1 : (j : Int) < l.length
    · have hj : j < l.length := by omega
      have g0 : (0 : Int) ≤ j ∧ (j : Int) < l.length := ⟨by omega, g1⟩
      have hd : l.drop j = l[j] :: l.drop (j + 1) := List.drop_eq_getElem_cons hj
      have hs : l.take (j + 1) = l.take j ++ [l[j]] := by rw [List.take_add_one, List.getElem?_eq_getElem hj]; rfl
      obtain ⟨x, hx⟩ : ∃ x, l[j] = x := ⟨_, rfl⟩
      rw [hx] at hd hs
      rw [hd] at h
      obtain ⟨bl, off, rfl, hjn, el⟩ := rdE Rc.len (by decide) (h.rdsi 0 rfl Rd_own) (j := j) (X := kept ++ y :: junk) (x := x) (Y := l.drop (j + 1)) (by simp) (by simp; omega)
      ((try simp only [S, TY, reduceCtorEq, nq0, nq1, nq2, nq3, nq4, iq0, iq1, iq2, iq3, iq4, iq5, iq6, iq7, iq8, q0, q2, q5, q6, g1, g0, el]); (try (simp (disch := omega) only [W2, Int.cast_ofNat_Int]; (try simp only [S, TY, reduceCtorEq, nq0, nq1, nq2, nq3, nq4, iq0, iq1, iq2, iq3, iq4, iq5, iq6, iq7, iq8, q0, q2, q5, q6, g1, g0, el]))))
      intro bv hbv hgv
      have h3 := h.new hbv hgv (.cells #[.int .i64 0, .int .u32 0, .int .u32 0, .int .i64 0, .int .i64 0, .int .i64 0] 187 (0, 0))
      ((try simp only [S, TY, reduceCtorEq, nq0, nq1, nq2, nq3, nq4, iq0, iq1, iq2, iq3, iq4, iq5, iq6, iq7, iq8, q0, q2, q5, q6, hk]); (try (simp (disch := omega) only [W2, Int.cast_ofNat_Int]; (try simp only [S, TY, reduceCtorEq, nq0, nq1, nq2, nq3, nq4, iq0, iq1, iq2, iq3, iq4, iq5, iq6, iq7, iq8, q0, q2, q5, q6, hk]))))
      refine sg.st h3 rfl rfl fun H4 h4 => ?_
      simp only [front_eq, fronts_nil, fronts_cons, List.getElem?_cons_zero, List.getElem?_cons_succ, List.eraseIdx_cons_zero, List.eraseIdx_cons_succ, List.cons_append, List.nil_append, putL_cons, putL_nil, List.set_cons_zero, List.set_cons_succ, Nat.reduceAdd] at h4
      have w4 := h4.li 0 rfl
      ((try simp only [S, TY, reduceCtorEq, nq0, nq1, nq2, nq3, nq4, iq0, iq1, iq2, iq3, iq4, iq5, iq6, iq7, iq8, q0, q2, q5, q6, w4, hk]); (try (simp (disch := omega) only [W2, Int.cast_ofNat_Int]; (try simp only [S, TY, reduceCtorEq, nq0, nq1, nq2, nq3, nq4, iq0, iq1, iq2, iq3, iq4, iq5, iq6, iq7, iq8, q0, q2, q5, q6, w4, hk]))))
      refine (f G x).at_ h4 [2] _ rfl (fun r B H5 hr h5 => ?_)
      obtain ⟨rfl, rfl⟩ := hr
      simp only [front_eq, fronts_nil, fronts_cons, List.getElem?_cons_zero, List.getElem?_cons_succ, List.eraseIdx_cons_zero, List.eraseIdx_cons_succ, List.cons_append, List.nil_append, putL_cons, putL_nil, List.set_cons_zero, List.set_cons_succ, Nat.reduceAdd] at h5
      cases hp : p x with
      | true =>
        ((try simp only [S, TY, reduceCtorEq, nq0, nq1, nq2, nq3, nq4, iq0, iq1, iq2, iq3, iq4, iq5, iq6, iq7, iq8, q0, q2, q5, q6, hp]); (try (simp (disch := omega) only [W2, Int.cast_ofNat_Int]; (try simp only [S, TY, reduceCtorEq, nq0, nq1, nq2, nq3, nq4, iq0, iq1, iq2, iq3, iq4, iq5, iq6, iq7, iq8, q0, q2, q5, q6, hp]))))
        refine .go (j + 1) (by omega) ⟨by omega, q0, q2, rfl, kept, junk ++ [x], y, ?_, q5, by simp; omega, ?_⟩
        · rw [hs, List.filter_append, ← hkp]; simp [hp]
        · have := h5.fronts [2, 0]
          simp only [List.append_assoc, List.cons_append, List.nil_append]
          exact ⟨h5.1, seps_take (B := [_, _]) (h5.fronts [2, 0]).2⟩
      | false =>
        have gk : (0 : Int) ≤ (kept.length : Nat) ∧ ((kept.length : Nat) : Int) < l.length := by omega
        have wk : IntKind.i64.wrap ((kept.length : Int) + 1) = ((kept.length + 1 : Nat) : Int) := by rw [wrap_id] <;> omega
        have w5 := h5.li 1 rfl
        ((try simp only [S, TY, reduceCtorEq, nq0, nq1, nq2, nq3, nq4, iq0, iq1, iq2, iq3, iq4, iq5, iq6, iq7, iq8, q0, q2, q5, q6, hp, w5, gk, wk]); (try (simp (disch := omega) only [W2, Int.cast_ofNat_Int]; (try simp only [S, TY, reduceCtorEq, nq0, nq1, nq2, nq3, nq4, iq0, iq1, iq2, iq3, iq4, iq5, iq6, iq7, iq8, q0, q2, q5, q6, hp, w5, gk, wk]))))
        refine stE Rc.len (h5.front 2) (X := kept) (y := y) (Y := junk ++ x :: l.drop (j + 1)) rfl rfl x rfl (fun H6 h6 => ?_)
        ((try simp only [S, TY, reduceCtorEq, nq0, nq1, nq2, nq3, nq4, iq0, iq1, iq2, iq3, iq4, iq5, iq6, iq7, iq8, q0, q2, q5, q6, hp, gk, wk]); (try (simp (disch := omega) only [W2, Int.cast_ofNat_Int]; (try simp only [S, TY, reduceCtorEq, nq0, nq1, nq2, nq3, nq4, iq0, iq1, iq2, iq3, iq4, iq5, iq6, iq7, iq8, q0, q2, q5, q6, hp, gk, wk]))))
        have hj2 : ∃ y' junk', junk ++ [x] = y' :: junk' := by
          cases junk with
          | nil => exact ⟨x, [], rfl⟩
          | cons z zs => exact ⟨z, zs ++ [x], rfl⟩
        obtain ⟨y', junk', hyj⟩ := hj2
        have hlen := congrArg List.length hyj
        simp only [List.length_append, List.length_cons, List.length_nil] at hlen
        refine .go (j + 1) (by omega) ⟨by omega, q0, q2, rfl, kept ++ [x], junk', y', ?_, ?_, by simp; omega, ?_⟩
        · rw [hs, List.filter_append, ← hkp]; simp [hp]
        · rw [List.length_append]; rfl
        · have e2 : kept ++ [x] ++ y' :: (junk' ++ l.drop (j + 1)) = kept ++ x :: (junk ++ x :: l.drop (j + 1)) := by
            rw [← List.cons_append, ← hyj]; simp
          rw [e2]
          exact ⟨h6.1, seps_take (B := [_, _]) (h6.fronts [0, 0]).2⟩
    · have hjl2 : j = l.length := by omega
      subst hjl2
      rw [List.take_length] at hkp
      rw [List.drop_length, List.append_nil] at h
      obtain ⟨m, hm⟩ : ∃ m, kept.length = m := ⟨_, rfl⟩
      have hml : m ≤ l.length := by omega
      rw [hm] at q5
      have gk : (0 : Int) ≤ (m : Nat) ∧ ((m : Nat) : Int) ≤ l.length := by omega
      have gc : (0 : Int) ≤ (m : Nat) ∧ ((m : Nat) : Int) ≤ (c : Nat) := by omega
      ((try simp only [S, TY, reduceCtorEq, nq0, nq1, nq2, nq3, nq4, iq0, iq1, iq2, iq3, iq4, iq5, iq6, iq7, iq8, q0, q2, q5, q6, g1, gk, gc, opV_clear]); (try (simp (disch := omega) only [W2, Int.cast_ofNat_Int]; (try simp only [S, TY, reduceCtorEq, nq0, nq1, nq2, nq3, nq4, iq0, iq1, iq2, iq3, iq4, iq5, iq6, iq7, iq8, q0, q2, q5, q6, g1, gk, gc, opV_clear]))))
      refine clear_own (m := m) (show apI Try.prog 170 = some (187, 6, 40) from by kernel_rfl) hml h (fun H7 h7 => ?_)
      ((try simp only [S, TY, reduceCtorEq, nq0, nq1, nq2, nq3, nq4, iq0, iq1, iq2, iq3, iq4, iq5, iq6, iq7, iq8, q0, q2, q5, q6, g1, gk, gc]); (try (simp (disch := omega) only [W2, Int.cast_ofNat_Int]; (try simp only [S, TY, reduceCtorEq, nq0, nq1, nq2, nq3, nq4, iq0, iq1, iq2, iq3, iq4, iq5, iq6, iq7, iq8, q0, q2, q5, q6, g1, gk, gc]))))
      have e3 : ((kept ++ y :: junk).flatMap Rc.l).take (m * 6) = kept.flatMap Rc.l := by
        rw [List.flatMap_append, List.take_append_of_le_length (by rw [flat_len Rc.len, hm]; omega), List.take_of_length_le (by rw [flat_len Rc.len, hm]; omega)]
      rw [e3, hkp] at h7
      exact fin_take (B := [_, _]) h7 rfl
end Go.Proofs.Ytanhmbdcdbcfmaa.Tk
