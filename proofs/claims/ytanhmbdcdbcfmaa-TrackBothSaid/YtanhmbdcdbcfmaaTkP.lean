/- Flows that are tracked: what the program's table does. -/
import Derived.Test.YtanhmbdcdbcfmaaTkO
set_option linter.unusedVariables false
set_option linter.unusedSimpArgs false
set_option maxRecDepth 10000
set_option maxHeartbeats 2000000
namespace Go.Proofs.Ytanhmbdcdbcfmaa.TkP
open Nat renaming reduceEqDiff → nq0, reduceAdd → nq1, reduceLeDiff → nq2, reduceBEq → nq3, reduceMul → nq4
open Int renaming reduceBEq → iq0, reduceEq → iq1, reduceLT → iq2, reduceLE → iq3, reduceAdd → iq4, reduceSub → iq5, reduceMul → iq6, reduceToNat → iq7, cast_ofNat_Int → iq8
open Go Go.Sl Go.Proofs Go.Proofs.Ytanhmbdcdbcfmaa.SoI Go.Proofs.Ytanhmbdcdbcfmaa.Tk Go.Proofs.Ytanhmbdcdbcfmaa.TkO
theorem TY : aggN Try.prog 3 = some none ∧
  aggN Try.prog 166 = some none ∧
  aggN Try.prog 170 = some none ∧
  aggN Try.prog 175 = some (some 5) ∧
  aggN Try.prog 187 = some (some 6) ∧
  aggN Try.prog 278 = some (some 2) ∧
  apI Try.prog 170 = some (187, 6, 40) ∧
  bIs Try.prog 175 = true ∧
  bIs Try.prog 187 = true ∧
  bIs Try.prog 278 = true ∧
  csz Try.prog 3 = some 1 ∧
  csz Try.prog 166 = some 1 ∧
  csz Try.prog 170 = some 1 ∧
  csz Try.prog 175 = some 5 ∧
  csz Try.prog 187 = some 6 ∧
  csz Try.prog 278 = some 2 ∧
  eqF Try.prog 175 = some [.i, .i, .i, .i, .i] ∧
  eqF Try.prog 187 = some [.i, .i, .i, .i, .i, .i] ∧
  fIs Try.prog 187 0 = true ∧
  fIs Try.prog 187 1 = true ∧
  fIs Try.prog 278 0 = true ∧
  fIs Try.prog 278 1 = true ∧
  fOff Try.prog 187 0 = 0 ∧
  fOff Try.prog 187 1 = 5 ∧
  fOff Try.prog 278 0 = 0 ∧
  fOff Try.prog 278 1 = 1 ∧
  fTy Try.prog 187 0 = 175 ∧
  fTy Try.prog 187 1 = 3 ∧
  fTy Try.prog 278 0 = 3 ∧
  fTy Try.prog 278 1 = 170 ∧
  goes Try.prog 91 = true ∧
  goes Try.prog 158 = true ∧
  goes Try.prog 159 = true ∧
  goes Try.prog 160 = true ∧
  goes Try.prog 167 = true ∧
  inIs Try.prog 3 = some .i64 ∧
  plcs Try.prog 175 = [(0, 1), (1, 1), (2, 1), (3, 1), (4, 1)] ∧
  plcs Try.prog 187 = [(0, 5), (5, 1)] ∧
  plcs Try.prog 278 = [(0, 1), (1, 1)] ∧
  ptIs Try.prog 166 = true ∧
  slEl Try.prog 170 = 187 ∧
  slIs Try.prog 170 = true ∧
  slSz Try.prog 170 = 6 ∧
  zcs Try.prog 175 = [.int .i64 0, .int .u32 0, .int .u32 0, .int .i64 0, .int .i64 0] ∧
  zcs Try.prog 187 = [.int .i64 0, .int .u32 0, .int .u32 0, .int .i64 0, .int .i64 0, .int .i64 0] ∧
  zcs Try.prog 278 = [.int .i64 0, .slice none 0 0] ∧
  zro Try.prog 3 = some (.int .i64 0) ∧
  zro Try.prog 166 = some (.pointer none) ∧
  zro Try.prog 170 = some (.slice none 0 0) ∧
  zro Try.prog 175 = some (.agg #[.int .i64 0, .int .u32 0, .int .u32 0, .int .i64 0, .int .i64 0]) ∧
  zro Try.prog 187 = some (.agg #[.int .i64 0, .int .u32 0, .int .u32 0, .int .i64 0, .int .i64 0, .int .i64 0]) ∧
  zro Try.prog 278 = some (.agg #[.int .i64 0, .slice none 0 0]) :=
  ⟨by kernel_rfl, by kernel_rfl, by kernel_rfl, by kernel_rfl, by kernel_rfl, by kernel_rfl, by kernel_rfl, by kernel_rfl, by kernel_rfl, by kernel_rfl, by kernel_rfl, by kernel_rfl, by kernel_rfl, by kernel_rfl, by kernel_rfl, by kernel_rfl, by kernel_rfl, by kernel_rfl, by kernel_rfl, by kernel_rfl, by kernel_rfl, by kernel_rfl, by kernel_rfl, by kernel_rfl, by kernel_rfl, by kernel_rfl, by kernel_rfl, by kernel_rfl, by kernel_rfl, by kernel_rfl, by kernel_rfl, by kernel_rfl, by kernel_rfl, by kernel_rfl, by kernel_rfl, by kernel_rfl, by kernel_rfl, by kernel_rfl, by kernel_rfl, by kernel_rfl, by kernel_rfl, by kernel_rfl, by kernel_rfl, by kernel_rfl, by kernel_rfl, by kernel_rfl, by kernel_rfl, by kernel_rfl, by kernel_rfl, by kernel_rfl, by kernel_rfl, by kernel_rfl⟩
def D86_4 : List Note := Go.Sl.nn [0, 1, 0, 0, 0, 0, 1, 0, 0, 0, 3, 0]
def D93_1 : List Note := Go.Sl.nn [0, 0, 3, 1, 3, 0, 0]
def D160_1 : List Note := Go.Sl.nn [0, 0, 0, 1, 0, 1, 3, 0]
def D160_3 : List Note := Go.Sl.nn [0, 0, 0, 1, 0, 0, 0, 0, 1, 0, 0, 0, 1, 0, 1, 0, 0, 0, 3]
def D160_7 : List Note := Go.Sl.nn [0, 0, 0, 0, 1, 1, 2, 3, 0, 0, 3]
def upd : List Rc → Rc → Option (List Rc)
  | [], _ => none
  | y :: l, x => if alike y.f x.f = true then some ({ y with u := max y.u x.u } :: l) else (upd l x).map fun m => y :: m
def put (l : List Rc) (x : Rc) : List Rc × Bool := match upd l x with
  | some m => (m, true)
  | none => if 16 ≤ l.length then (l, false) else (l ++ [x], true)
theorem upd_none {x : Rc} : ∀ {l : List Rc}, (∀ y ∈ l, alike y.f x.f = false) → upd l x = none
  | [], _ => rfl
  | y :: l, h => by
    unfold upd
    rw [if_neg (by rw [h y (by simp)]; decide), upd_none fun z hz => h z (by simp [hz])]; rfl
theorem upd_at {x : Rc} : ∀ {l : List Rc} {j : Nat} (hj : j < l.length), alike l[j].f x.f = true → (∀ y ∈ l.take j, alike y.f x.f = false) → upd l x = some (l.take j ++ { l[j] with u := max l[j].u x.u } :: l.drop (j + 1))
  | [], _, hj, _, _ => by simp at hj
  | y :: l, 0, _, h, _ => by
    unfold upd
    rw [if_pos (show alike y.f x.f = true from h)]; rfl
  | y :: l, j + 1, hj, h, hb => by
    unfold upd
    have hj' : j < l.length := by simpa using hj
    rw [if_neg (by rw [hb y (by simp)]; decide), upd_at hj' h fun z hz => hb z (by simp [hz])]; rfl
theorem put_len (l : List Rc) (x : Rc) : (put l x).1.length ≤ l.length + 1 := by
  have hu : ∀ (l m : List Rc), upd l x = some m → m.length = l.length := by
    intro l
    induction l with
    | nil => intro m h; cases h
    | cons y l ih =>
      intro m h
      unfold upd at h
      split at h
      · cases h; rfl
      · cases e : upd l x with
        | none => rw [e] at h; cases h
        | some m' => rw [e] at h; cases h; rw [List.length_cons, List.length_cons, ih m' e]
  unfold put
  split
  · rename_i m hm
    rw [hu l m hm]; simp
  · split
    · simp
    · simp
theorem put_ok {G : Hp} {p : Nat} {life : Int} {l : List Rc} (x : Rc) (hll : l.length ≤ 10000) : Con Try.prog G 160 [.pointer (some ⟨p, 0, none⟩), x.v] [tT p life l] (fun r B => r = .bool (put l x).2 ∧ B = [tT p life (put l x).1]) := by
  obtain ⟨res, hres⟩ : ∃ r, put l x = r := ⟨_, rfl⟩
  rw [hres]
  unfold put at hres
  refine Con.intro Try.func160 rfl (Nat.le_of_ble_eq_true (by kernel_rfl)) (by kernel_rfl) Try.results160 ?_
  intro H h
  obtain ⟨a, c, hc, h0⟩ := tT_open h
  obtain ⟨⟨p1, s1, d1, a1, b1⟩, u1⟩ := x
  ((try simp only [S, TY, reduceCtorEq, nq0, nq1, nq2, nq3, nq4, iq0, iq1, iq2, iq3, iq4, iq5, iq6, iq7, iq8]); (try (simp (disch := omega) only [W2, Int.cast_ofNat_Int]; (try simp only [S, TY, reduceCtorEq, nq0, nq1, nq2, nq3, nq4, iq0, iq1, iq2, iq3, iq4, iq5, iq6, iq7, iq8]))); repeat ((first | (refine cl_drawi 1 D160_1 (List.range 8) (by decide) (by kernel_rfl) ?_; unfold D160_1) | (refine cl_drawi 3 D160_3 (List.range 19) (by decide) (by kernel_rfl) ?_; unfold D160_3) | (refine cl_drawi 7 D160_7 (List.range 11) (by decide) (by kernel_rfl) ?_; unfold D160_7)); simp only [S, TY, reduceCtorEq, nq0, nq1, nq2, nq3, nq4, iq0, iq1, iq2, iq3, iq4, iq5, iq6, iq7, iq8]; (try (simp (disch := omega) only [W2, Int.cast_ofNat_Int]; (try simp only [S, TY, reduceCtorEq, nq0, nq1, nq2, nq3, nq4, iq0, iq1, iq2, iq3, iq4, iq5, iq6, iq7, iq8])))))
  intro q hq hg
  have h1 := h0.new hq hg (.cells (Rc.l ⟨⟨p1, s1, d1, a1, b1⟩, u1⟩).toArray 187 (0, 0))
  have c1 := (h1.front 1).c0
  have w1 := h1.li 0 rfl
  ((try simp only [S, TY, reduceCtorEq, nq0, nq1, nq2, nq3, nq4, iq0, iq1, iq2, iq3, iq4, iq5, iq6, iq7, iq8, c1, w1]); (try (simp (disch := omega) only [W2, Int.cast_ofNat_Int]; (try simp only [S, TY, reduceCtorEq, nq0, nq1, nq2, nq3, nq4, iq0, iq1, iq2, iq3, iq4, iq5, iq6, iq7, iq8, c1, w1]))); repeat ((first | (refine cl_drawi 1 D160_1 (List.range 8) (by decide) (by kernel_rfl) ?_; unfold D160_1) | (refine cl_drawi 3 D160_3 (List.range 19) (by decide) (by kernel_rfl) ?_; unfold D160_3) | (refine cl_drawi 7 D160_7 (List.range 11) (by decide) (by kernel_rfl) ?_; unfold D160_7)); simp only [S, TY, reduceCtorEq, nq0, nq1, nq2, nq3, nq4, iq0, iq1, iq2, iq3, iq4, iq5, iq6, iq7, iq8, c1, w1]; (try (simp (disch := omega) only [W2, Int.cast_ofNat_Int]; (try simp only [S, TY, reduceCtorEq, nq0, nq1, nq2, nq3, nq4, iq0, iq1, iq2, iq3, iq4, iq5, iq6, iq7, iq8, c1, w1])))))
  refine Con.lend_at [] [own 187 6 _ (l.flatMap Rc.l)] h1 [2] rfl (fun F hF hs => at_ok ⟨p1, s1, d1, a1, b1⟩ (seps_own hs 0 rfl).left (by omega)) (fun r B H2 hr h2 => ?_)
  obtain ⟨hr, rfl⟩ := hr
  simp only [front_eq, fronts_nil, fronts_cons, List.getElem?_cons_zero, List.getElem?_cons_succ, List.eraseIdx_cons_zero, List.eraseIdx_cons_succ, List.cons_append, List.nil_append, putL_cons, putL_nil, List.set_cons_zero, List.set_cons_succ, Nat.reduceAdd] at h2
  have c2 := (h2.front 2).c0
  have d2 := (h2.front 1).c0
  have w2 := h2.li 1 rfl
  rcases hr with ⟨rfl, hn⟩ | ⟨j, hj, rfl, hp, hb⟩
  · rw [upd_none (x := ⟨⟨p1, s1, d1, a1, b1⟩, u1⟩) hn] at hres
    simp only at hres
    by_cases g : (16 : Int) ≤ l.length
    · rw [if_pos (by omega)] at hres
      subst hres
      ((try simp only [S, TY, reduceCtorEq, nq0, nq1, nq2, nq3, nq4, iq0, iq1, iq2, iq3, iq4, iq5, iq6, iq7, iq8, c2, w2, g]); (try (simp (disch := omega) only [W2, Int.cast_ofNat_Int]; (try simp only [S, TY, reduceCtorEq, nq0, nq1, nq2, nq3, nq4, iq0, iq1, iq2, iq3, iq4, iq5, iq6, iq7, iq8, c2, w2, g]))); repeat ((first | (refine cl_drawi 1 D160_1 (List.range 8) (by decide) (by kernel_rfl) ?_; unfold D160_1) | (refine cl_drawi 3 D160_3 (List.range 19) (by decide) (by kernel_rfl) ?_; unfold D160_3) | (refine cl_drawi 7 D160_7 (List.range 11) (by decide) (by kernel_rfl) ?_; unfold D160_7)); simp only [S, TY, reduceCtorEq, nq0, nq1, nq2, nq3, nq4, iq0, iq1, iq2, iq3, iq4, iq5, iq6, iq7, iq8, c2, w2, g]; (try (simp (disch := omega) only [W2, Int.cast_ofNat_Int]; (try simp only [S, TY, reduceCtorEq, nq0, nq1, nq2, nq3, nq4, iq0, iq1, iq2, iq3, iq4, iq5, iq6, iq7, iq8, c2, w2, g])))))
      exact fin_take (B := [_]) (tT_shut (h2.fronts [2, 0])) ⟨rfl, rfl⟩
    · rw [if_neg (by omega)] at hres
      subst hres
      ((try simp only [S, TY, reduceCtorEq, nq0, nq1, nq2, nq3, nq4, iq0, iq1, iq2, iq3, iq4, iq5, iq6, iq7, iq8, c2, w2, g]); (try (simp (disch := omega) only [W2, Int.cast_ofNat_Int]; (try simp only [S, TY, reduceCtorEq, nq0, nq1, nq2, nq3, nq4, iq0, iq1, iq2, iq3, iq4, iq5, iq6, iq7, iq8, c2, w2, g]))); repeat ((first | (refine cl_drawi 1 D160_1 (List.range 8) (by decide) (by kernel_rfl) ?_; unfold D160_1) | (refine cl_drawi 3 D160_3 (List.range 19) (by decide) (by kernel_rfl) ?_; unfold D160_3) | (refine cl_drawi 7 D160_7 (List.range 11) (by decide) (by kernel_rfl) ?_; unfold D160_7)); simp only [S, TY, reduceCtorEq, nq0, nq1, nq2, nq3, nq4, iq0, iq1, iq2, iq3, iq4, iq5, iq6, iq7, iq8, c2, w2, g]; (try (simp (disch := omega) only [W2, Int.cast_ofNat_Int]; (try simp only [S, TY, reduceCtorEq, nq0, nq1, nq2, nq3, nq4, iq0, iq1, iq2, iq3, iq4, iq5, iq6, iq7, iq8, c2, w2, g])))))
      intro q3 hq3 hg3
      have h3 := h2.newsl (e := 187) (sz := 6) (n := 1) (xs := Rc.l ⟨⟨p1, s1, d1, a1, b1⟩, u1⟩) hq3 hg3 rfl
      ((try simp only [S, TY, reduceCtorEq, nq0, nq1, nq2, nq3, nq4, iq0, iq1, iq2, iq3, iq4, iq5, iq6, iq7, iq8, c2, w2, g]); (try (simp (disch := omega) only [W2, Int.cast_ofNat_Int]; (try simp only [S, TY, reduceCtorEq, nq0, nq1, nq2, nq3, nq4, iq0, iq1, iq2, iq3, iq4, iq5, iq6, iq7, iq8, c2, w2, g]))); repeat ((first | (refine cl_drawi 1 D160_1 (List.range 8) (by decide) (by kernel_rfl) ?_; unfold D160_1) | (refine cl_drawi 3 D160_3 (List.range 19) (by decide) (by kernel_rfl) ?_; unfold D160_3) | (refine cl_drawi 7 D160_7 (List.range 11) (by decide) (by kernel_rfl) ?_; unfold D160_7)); simp only [S, TY, reduceCtorEq, nq0, nq1, nq2, nq3, nq4, iq0, iq1, iq2, iq3, iq4, iq5, iq6, iq7, iq8, c2, w2, g]; (try (simp (disch := omega) only [W2, Int.cast_ofNat_Int]; (try simp only [S, TY, reduceCtorEq, nq0, nq1, nq2, nq3, nq4, iq0, iq1, iq2, iq3, iq4, iq5, iq6, iq7, iq8, c2, w2, g])))))
      refine append_sl (show apI Try.prog 170 = some (187, 6, 40) from by kernel_rfl) (show slIs Try.prog 170 = true from by kernel_rfl) (h3.front 1) (h3.rdsi 0 rfl Rd_own) (by intro v hv; simp only [List.mem_cons, List.not_mem_nil, or_false] at hv; rcases hv with rfl | rfl | rfl | rfl | rfl | rfl <;> rfl) (by rw [flat_len Rc.len]; simp; omega) fun v H4 h4 => ?_
      obtain ⟨va, vn, vc, rfl, _, _⟩ := h4.sl 0 rfl Rd_own
      simp only [front_eq, fronts_nil, fronts_cons, List.getElem?_cons_zero, List.getElem?_cons_succ, List.eraseIdx_cons_zero, List.eraseIdx_cons_succ, List.cons_append, List.nil_append, putL_cons, putL_nil, List.set_cons_zero, List.set_cons_succ, Nat.reduceAdd] at h4
      ((try simp only [S, TY, reduceCtorEq, nq0, nq1, nq2, nq3, nq4, iq0, iq1, iq2, iq3, iq4, iq5, iq6, iq7, iq8]); (try (simp (disch := omega) only [W2, Int.cast_ofNat_Int]; (try simp only [S, TY, reduceCtorEq, nq0, nq1, nq2, nq3, nq4, iq0, iq1, iq2, iq3, iq4, iq5, iq6, iq7, iq8]))); repeat ((first | (refine cl_drawi 1 D160_1 (List.range 8) (by decide) (by kernel_rfl) ?_; unfold D160_1) | (refine cl_drawi 3 D160_3 (List.range 19) (by decide) (by kernel_rfl) ?_; unfold D160_3) | (refine cl_drawi 7 D160_7 (List.range 11) (by decide) (by kernel_rfl) ?_; unfold D160_7)); simp only [S, TY, reduceCtorEq, nq0, nq1, nq2, nq3, nq4, iq0, iq1, iq2, iq3, iq4, iq5, iq6, iq7, iq8]; (try (simp (disch := omega) only [W2, Int.cast_ofNat_Int]; (try simp only [S, TY, reduceCtorEq, nq0, nq1, nq2, nq3, nq4, iq0, iq1, iq2, iq3, iq4, iq5, iq6, iq7, iq8])))))
      refine sg.st (h4.front 3) rfl rfl fun H5 h5 => ?_
      simp only [front_eq, fronts_nil, fronts_cons, List.getElem?_cons_zero, List.getElem?_cons_succ, List.eraseIdx_cons_zero, List.eraseIdx_cons_succ, List.cons_append, List.nil_append, putL_cons, putL_nil, List.set_cons_zero, List.set_cons_succ, Nat.reduceAdd] at h5
      ((try simp only [S, TY, reduceCtorEq, nq0, nq1, nq2, nq3, nq4, iq0, iq1, iq2, iq3, iq4, iq5, iq6, iq7, iq8]); (try (simp (disch := omega) only [W2, Int.cast_ofNat_Int]; (try simp only [S, TY, reduceCtorEq, nq0, nq1, nq2, nq3, nq4, iq0, iq1, iq2, iq3, iq4, iq5, iq6, iq7, iq8]))); repeat ((first | (refine cl_drawi 1 D160_1 (List.range 8) (by decide) (by kernel_rfl) ?_; unfold D160_1) | (refine cl_drawi 3 D160_3 (List.range 19) (by decide) (by kernel_rfl) ?_; unfold D160_3) | (refine cl_drawi 7 D160_7 (List.range 11) (by decide) (by kernel_rfl) ?_; unfold D160_7)); simp only [S, TY, reduceCtorEq, nq0, nq1, nq2, nq3, nq4, iq0, iq1, iq2, iq3, iq4, iq5, iq6, iq7, iq8]; (try (simp (disch := omega) only [W2, Int.cast_ofNat_Int]; (try simp only [S, TY, reduceCtorEq, nq0, nq1, nq2, nq3, nq4, iq0, iq1, iq2, iq3, iq4, iq5, iq6, iq7, iq8])))))
      refine fin_take (B := [_]) (tT_shut (l := l ++ [⟨⟨p1, s1, d1, a1, b1⟩, u1⟩]) (by rw [List.flatMap_append]; exact h5.fronts [0, 0])) ⟨rfl, rfl⟩
  · rw [upd_at (x := ⟨⟨p1, s1, d1, a1, b1⟩, u1⟩) hj hp hb] at hres
    simp only at hres
    have gj : (0 : Int) ≤ (j : Nat) := by omega
    have gj2 : (0 : Int) ≤ (j : Nat) ∧ ((j : Nat) : Int) < l.length := by omega
    obtain ⟨b, off, hl', rfl, hcc, -⟩ := (h2.rdsi 0 rfl Rd_own).el Rc.len (i := j) hj (by omega)
    have e5 := hcc 5 (by decide)
    simp only [List.getElem?_cons_zero, List.getElem?_cons_succ] at e5
    have hd : l = l.take j ++ l[j] :: l.drop (j + 1) := by rw [← List.drop_eq_getElem_cons hj, List.take_append_drop]
    obtain ⟨y, hy⟩ : ∃ y, l[j] = y := ⟨_, rfl⟩
    rw [hy] at e5 hd hres
    have hmx : (if y.u < u1 then u1 else y.u) = max y.u u1 := by split <;> omega
    ((try simp only [S, TY, reduceCtorEq, nq0, nq1, nq2, nq3, nq4, iq0, iq1, iq2, iq3, iq4, iq5, iq6, iq7, iq8, c2, d2, w2, gj, gj2, e5]); (try (simp (disch := omega) only [W2, Int.cast_ofNat_Int]; (try simp only [S, TY, reduceCtorEq, nq0, nq1, nq2, nq3, nq4, iq0, iq1, iq2, iq3, iq4, iq5, iq6, iq7, iq8, c2, d2, w2, gj, gj2, e5]))); repeat ((first | (refine cl_drawi 1 D160_1 (List.range 8) (by decide) (by kernel_rfl) ?_; unfold D160_1) | (refine cl_drawi 3 D160_3 (List.range 19) (by decide) (by kernel_rfl) ?_; unfold D160_3) | (refine cl_drawi 7 D160_7 (List.range 11) (by decide) (by kernel_rfl) ?_; unfold D160_7)); simp only [S, TY, reduceCtorEq, nq0, nq1, nq2, nq3, nq4, iq0, iq1, iq2, iq3, iq4, iq5, iq6, iq7, iq8, c2, d2, w2, gj, gj2, e5]; (try (simp (disch := omega) only [W2, Int.cast_ofNat_Int]; (try simp only [S, TY, reduceCtorEq, nq0, nq1, nq2, nq3, nq4, iq0, iq1, iq2, iq3, iq4, iq5, iq6, iq7, iq8, c2, d2, w2, gj, gj2, e5])))))
    refine stU h2 hd (by rw [List.length_take]; omega) _ fun H3 h3 => ?_
    ((try simp only [S, TY, reduceCtorEq, nq0, nq1, nq2, nq3, nq4, iq0, iq1, iq2, iq3, iq4, iq5, iq6, iq7, iq8]); (try (simp (disch := omega) only [W2, Int.cast_ofNat_Int]; (try simp only [S, TY, reduceCtorEq, nq0, nq1, nq2, nq3, nq4, iq0, iq1, iq2, iq3, iq4, iq5, iq6, iq7, iq8]))); repeat ((first | (refine cl_drawi 1 D160_1 (List.range 8) (by decide) (by kernel_rfl) ?_; unfold D160_1) | (refine cl_drawi 3 D160_3 (List.range 19) (by decide) (by kernel_rfl) ?_; unfold D160_3) | (refine cl_drawi 7 D160_7 (List.range 11) (by decide) (by kernel_rfl) ?_; unfold D160_7)); simp only [S, TY, reduceCtorEq, nq0, nq1, nq2, nq3, nq4, iq0, iq1, iq2, iq3, iq4, iq5, iq6, iq7, iq8]; (try (simp (disch := omega) only [W2, Int.cast_ofNat_Int]; (try simp only [S, TY, reduceCtorEq, nq0, nq1, nq2, nq3, nq4, iq0, iq1, iq2, iq3, iq4, iq5, iq6, iq7, iq8])))))
    subst hres
    exact fin_take (B := [_]) (tT_shut (l := _) (by rw [hmx] at h3; exact h3.fronts [2, 0])) ⟨rfl, rfl⟩
theorem New_ok {G : Hp} (life : Int) (h1 : 1 ≤ life) (h2 : life ≤ 2147483648) : Con Try.prog G 85 [.int .i64 life] [] (fun r B => ∃ p, r = .tuple #[.pointer (some ⟨p, 0, none⟩), .int .i64 0] ∧ B = [tT p life []]) := by
  refine Con.intro Try.func85 rfl (Nat.le_of_ble_eq_true (by kernel_rfl)) (by kernel_rfl) Try.results85 ?_
  intro H h
  have g1 : ¬ life < 1 := by omega
  have g2 : ¬ (2147483648 : Int) < life := by omega
  ((try simp only [S, TY, reduceCtorEq, nq0, nq1, nq2, nq3, nq4, iq0, iq1, iq2, iq3, iq4, iq5, iq6, iq7, iq8, g1, g2]); (try (simp (disch := omega) only [W2, Int.cast_ofNat_Int]; (try simp only [S, TY, reduceCtorEq, nq0, nq1, nq2, nq3, nq4, iq0, iq1, iq2, iq3, iq4, iq5, iq6, iq7, iq8, g1, g2]))))
  intro p hp hg
  have h3 := ((h.nil_ 187 6)).new hp hg (.cells #[.int .i64 life, .slice none 0 0] 278 (0, 0))
  ((try simp only [S, TY, reduceCtorEq, nq0, nq1, nq2, nq3, nq4, iq0, iq1, iq2, iq3, iq4, iq5, iq6, iq7, iq8, g1, g2]); (try (simp (disch := omega) only [W2, Int.cast_ofNat_Int]; (try simp only [S, TY, reduceCtorEq, nq0, nq1, nq2, nq3, nq4, iq0, iq1, iq2, iq3, iq4, iq5, iq6, iq7, iq8, g1, g2]))))
  exact fin_take (B := [_]) (tT_shut (l := []) h3) ⟨p, rfl, rfl⟩
theorem New_no {G : Hp} (life : Int) (h1 : ¬ (1 ≤ life ∧ life ≤ 2147483648)) : Con Try.prog G 85 [.int .i64 life] [] (fun r B => r = .tuple #[.pointer none, .int .i64 1] ∧ B = []) := by
  refine Con.intro Try.func85 rfl (Nat.le_of_ble_eq_true (by kernel_rfl)) (by kernel_rfl) Try.results85 ?_
  intro H h
  by_cases g1 : life < 1
  · ((try simp only [S, TY, reduceCtorEq, nq0, nq1, nq2, nq3, nq4, iq0, iq1, iq2, iq3, iq4, iq5, iq6, iq7, iq8, g1]); (try (simp (disch := omega) only [W2, Int.cast_ofNat_Int]; (try simp only [S, TY, reduceCtorEq, nq0, nq1, nq2, nq3, nq4, iq0, iq1, iq2, iq3, iq4, iq5, iq6, iq7, iq8, g1]))))
    exact fin_take (B := []) h ⟨rfl, rfl⟩
  · have g2 : (2147483648 : Int) < life := by omega
    ((try simp only [S, TY, reduceCtorEq, nq0, nq1, nq2, nq3, nq4, iq0, iq1, iq2, iq3, iq4, iq5, iq6, iq7, iq8, g1, g2]); (try (simp (disch := omega) only [W2, Int.cast_ofNat_Int]; (try simp only [S, TY, reduceCtorEq, nq0, nq1, nq2, nq3, nq4, iq0, iq1, iq2, iq3, iq4, iq5, iq6, iq7, iq8, g1, g2]))))
    exact fin_take (B := []) h ⟨rfl, rfl⟩
def note (life : Int) (l : List Rc) (f : Fw) (now : Int) : List Rc × Int := if tok now = true ∧ Fw.ok f = true then
  ((put (live l now) ⟨f, min (now + life) 1099511627776⟩).1, if (put (live l now) ⟨f, min (now + life) 1099511627776⟩).2 = true then 0 else 3) else (l, 1)
theorem live_len (l : List Rc) (now : Int) : (live l now).length ≤ l.length := List.length_filter_le _ _
theorem Note_ok {G : Hp} {p : Nat} {life : Int} {l : List Rc} (f : Fw) (now : Int) (h1 : 1 ≤ life) (h2 : life ≤ 2147483648) (hll : l.length ≤ 5000) :
    Con Try.prog G 86 [.pointer (some ⟨p, 0, none⟩), f.v, .int .i64 now] [tT p life l] (fun r B => r = .int .i64 (note life l f now).2 ∧ B = [tT p life (note life l f now).1]) := by
  obtain ⟨res, hres⟩ : ∃ r, note life l f now = r := ⟨_, rfl⟩
  rw [hres]
  unfold note at hres
  obtain ⟨b1, hb1⟩ : ∃ b, tok now = b := ⟨_, rfl⟩
  obtain ⟨b2, hb2⟩ : ∃ b, Fw.ok f = b := ⟨_, rfl⟩
  rw [hb1, hb2] at hres
  obtain ⟨p1, s1, d1, a1, c1⟩ := f
  refine Con.intro Try.func86 rfl (Nat.le_of_ble_eq_true (by kernel_rfl)) (by kernel_rfl) Try.results86 ?_
  intro H h
  ((try simp only [S, TY, reduceCtorEq, nq0, nq1, nq2, nq3, nq4, iq0, iq1, iq2, iq3, iq4, iq5, iq6, iq7, iq8]); (try (simp (disch := omega) only [W2, Int.cast_ofNat_Int]; (try simp only [S, TY, reduceCtorEq, nq0, nq1, nq2, nq3, nq4, iq0, iq1, iq2, iq3, iq4, iq5, iq6, iq7, iq8]))); repeat ((first | (refine cl_drawi 4 D86_4 (List.range 12) (by decide) (by kernel_rfl) ?_; unfold D86_4)); simp only [S, TY, reduceCtorEq, nq0, nq1, nq2, nq3, nq4, iq0, iq1, iq2, iq3, iq4, iq5, iq6, iq7, iq8]; (try (simp (disch := omega) only [W2, Int.cast_ofNat_Int]; (try simp only [S, TY, reduceCtorEq, nq0, nq1, nq2, nq3, nq4, iq0, iq1, iq2, iq3, iq4, iq5, iq6, iq7, iq8])))))
  intro q hq hg
  have h3 := h.new hq hg (.cells (Fw.l ⟨p1, s1, d1, a1, c1⟩).toArray 175 (0, 0))
  ((try simp only [S, TY, reduceCtorEq, nq0, nq1, nq2, nq3, nq4, iq0, iq1, iq2, iq3, iq4, iq5, iq6, iq7, iq8]); (try (simp (disch := omega) only [W2, Int.cast_ofNat_Int]; (try simp only [S, TY, reduceCtorEq, nq0, nq1, nq2, nq3, nq4, iq0, iq1, iq2, iq3, iq4, iq5, iq6, iq7, iq8]))); repeat ((first | (refine cl_drawi 4 D86_4 (List.range 12) (by decide) (by kernel_rfl) ?_; unfold D86_4)); simp only [S, TY, reduceCtorEq, nq0, nq1, nq2, nq3, nq4, iq0, iq1, iq2, iq3, iq4, iq5, iq6, iq7, iq8]; (try (simp (disch := omega) only [W2, Int.cast_ofNat_Int]; (try simp only [S, TY, reduceCtorEq, nq0, nq1, nq2, nq3, nq4, iq0, iq1, iq2, iq3, iq4, iq5, iq6, iq7, iq8])))))
  refine (time_ok now).at_ h3 [] _ rfl fun r B H4 hr h4 => ?_
  obtain ⟨rfl, rfl⟩ := hr
  rw [hb1]
  cases b1 with
  | false =>
    rw [if_neg (by simp)] at hres
    subst hres
    ((try simp only [S, TY, reduceCtorEq, nq0, nq1, nq2, nq3, nq4, iq0, iq1, iq2, iq3, iq4, iq5, iq6, iq7, iq8]); (try (simp (disch := omega) only [W2, Int.cast_ofNat_Int]; (try simp only [S, TY, reduceCtorEq, nq0, nq1, nq2, nq3, nq4, iq0, iq1, iq2, iq3, iq4, iq5, iq6, iq7, iq8]))); repeat ((first | (refine cl_drawi 4 D86_4 (List.range 12) (by decide) (by kernel_rfl) ?_; unfold D86_4)); simp only [S, TY, reduceCtorEq, nq0, nq1, nq2, nq3, nq4, iq0, iq1, iq2, iq3, iq4, iq5, iq6, iq7, iq8]; (try (simp (disch := omega) only [W2, Int.cast_ofNat_Int]; (try simp only [S, TY, reduceCtorEq, nq0, nq1, nq2, nq3, nq4, iq0, iq1, iq2, iq3, iq4, iq5, iq6, iq7, iq8])))))
    exact fin_take (B := [_]) (h4.front 1) ⟨rfl, rfl⟩
  | true =>
    have hnow : 0 ≤ now ∧ now ≤ 1099511627776 := by unfold tok at hb1; simpa using hb1
    have w4 := h4.li 0 rfl
    ((try simp only [S, TY, reduceCtorEq, nq0, nq1, nq2, nq3, nq4, iq0, iq1, iq2, iq3, iq4, iq5, iq6, iq7, iq8, w4]); (try (simp (disch := omega) only [W2, Int.cast_ofNat_Int]; (try simp only [S, TY, reduceCtorEq, nq0, nq1, nq2, nq3, nq4, iq0, iq1, iq2, iq3, iq4, iq5, iq6, iq7, iq8, w4]))); repeat ((first | (refine cl_drawi 4 D86_4 (List.range 12) (by decide) (by kernel_rfl) ?_; unfold D86_4)); simp only [S, TY, reduceCtorEq, nq0, nq1, nq2, nq3, nq4, iq0, iq1, iq2, iq3, iq4, iq5, iq6, iq7, iq8, w4]; (try (simp (disch := omega) only [W2, Int.cast_ofNat_Int]; (try simp only [S, TY, reduceCtorEq, nq0, nq1, nq2, nq3, nq4, iq0, iq1, iq2, iq3, iq4, iq5, iq6, iq7, iq8, w4])))))
    refine (iRight_ok ⟨p1, s1, d1, a1, c1⟩).at_ h4 [] _ rfl fun r B H5 hr h5 => ?_
    obtain ⟨rfl, rfl⟩ := hr
    rw [hb2]
    cases b2 with
    | false =>
      rw [if_neg (by simp)] at hres
      subst hres
      ((try simp only [S, TY, reduceCtorEq, nq0, nq1, nq2, nq3, nq4, iq0, iq1, iq2, iq3, iq4, iq5, iq6, iq7, iq8]); (try (simp (disch := omega) only [W2, Int.cast_ofNat_Int]; (try simp only [S, TY, reduceCtorEq, nq0, nq1, nq2, nq3, nq4, iq0, iq1, iq2, iq3, iq4, iq5, iq6, iq7, iq8]))); repeat ((first | (refine cl_drawi 4 D86_4 (List.range 12) (by decide) (by kernel_rfl) ?_; unfold D86_4)); simp only [S, TY, reduceCtorEq, nq0, nq1, nq2, nq3, nq4, iq0, iq1, iq2, iq3, iq4, iq5, iq6, iq7, iq8]; (try (simp (disch := omega) only [W2, Int.cast_ofNat_Int]; (try simp only [S, TY, reduceCtorEq, nq0, nq1, nq2, nq3, nq4, iq0, iq1, iq2, iq3, iq4, iq5, iq6, iq7, iq8])))))
      exact fin_take (B := [_]) (h5.front 1) ⟨rfl, rfl⟩
    | true =>
      rw [if_pos (by simp)] at hres
      ((try simp only [S, TY, reduceCtorEq, nq0, nq1, nq2, nq3, nq4, iq0, iq1, iq2, iq3, iq4, iq5, iq6, iq7, iq8]); (try (simp (disch := omega) only [W2, Int.cast_ofNat_Int]; (try simp only [S, TY, reduceCtorEq, nq0, nq1, nq2, nq3, nq4, iq0, iq1, iq2, iq3, iq4, iq5, iq6, iq7, iq8]))); repeat ((first | (refine cl_drawi 4 D86_4 (List.range 12) (by decide) (by kernel_rfl) ?_; unfold D86_4)); simp only [S, TY, reduceCtorEq, nq0, nq1, nq2, nq3, nq4, iq0, iq1, iq2, iq3, iq4, iq5, iq6, iq7, iq8]; (try (simp (disch := omega) only [W2, Int.cast_ofNat_Int]; (try simp only [S, TY, reduceCtorEq, nq0, nq1, nq2, nq3, nq4, iq0, iq1, iq2, iq3, iq4, iq5, iq6, iq7, iq8])))))
      refine (Records_ok (now := now) (by omega)).at_ h5 [1] _ rfl fun r B H6 hr h6 => ?_
      subst hr
      obtain ⟨ra, rn, rc, rfl, _, _⟩ := h6.sl 0 rfl Rd_own
      simp only [front_eq, fronts_nil, fronts_cons, List.getElem?_cons_zero, List.getElem?_cons_succ, List.eraseIdx_cons_zero, List.eraseIdx_cons_succ, List.cons_append, List.nil_append, putL_cons, putL_nil, List.set_cons_zero, List.set_cons_succ, Nat.reduceAdd] at h6
      obtain ⟨ta, tc, _, h7⟩ := tT_open (h6.front 1)
      simp only [front_eq, fronts_nil, fronts_cons, List.getElem?_cons_zero, List.getElem?_cons_succ, List.eraseIdx_cons_zero, List.eraseIdx_cons_succ, List.cons_append, List.nil_append, putL_cons, putL_nil, List.set_cons_zero, List.set_cons_succ, Nat.reduceAdd] at h7
      ((try simp only [S, TY, reduceCtorEq, nq0, nq1, nq2, nq3, nq4, iq0, iq1, iq2, iq3, iq4, iq5, iq6, iq7, iq8]); (try (simp (disch := omega) only [W2, Int.cast_ofNat_Int]; (try simp only [S, TY, reduceCtorEq, nq0, nq1, nq2, nq3, nq4, iq0, iq1, iq2, iq3, iq4, iq5, iq6, iq7, iq8]))); repeat ((first | (refine cl_drawi 4 D86_4 (List.range 12) (by decide) (by kernel_rfl) ?_; unfold D86_4)); simp only [S, TY, reduceCtorEq, nq0, nq1, nq2, nq3, nq4, iq0, iq1, iq2, iq3, iq4, iq5, iq6, iq7, iq8]; (try (simp (disch := omega) only [W2, Int.cast_ofNat_Int]; (try simp only [S, TY, reduceCtorEq, nq0, nq1, nq2, nq3, nq4, iq0, iq1, iq2, iq3, iq4, iq5, iq6, iq7, iq8])))))
      refine sg.st h7 rfl rfl fun H8 h8 => ?_
      simp only [front_eq, fronts_nil, fronts_cons, List.getElem?_cons_zero, List.getElem?_cons_succ, List.eraseIdx_cons_zero, List.eraseIdx_cons_succ, List.cons_append, List.nil_append, putL_cons, putL_nil, List.set_cons_zero, List.set_cons_succ, Nat.reduceAdd] at h8
      have c8 := h8.c0
      have w8 := h8.li 3 rfl
      have hmn : (if (1099511627776 : Int) < now + life then (1099511627776 : Int) else now + life) = min (now + life) 1099511627776 := by split <;> omega
      have wnl : IntKind.i64.wrap (now + life) = now + life := by rw [wrap_id] <;> omega
      ((try simp only [S, TY, reduceCtorEq, nq0, nq1, nq2, nq3, nq4, iq0, iq1, iq2, iq3, iq4, iq5, iq6, iq7, iq8, c8, w8, wnl, hmn]); (try (simp (disch := omega) only [W2, Int.cast_ofNat_Int]; (try simp only [S, TY, reduceCtorEq, nq0, nq1, nq2, nq3, nq4, iq0, iq1, iq2, iq3, iq4, iq5, iq6, iq7, iq8, c8, w8, wnl, hmn]))); repeat ((first | (refine cl_drawi 4 D86_4 (List.range 12) (by decide) (by kernel_rfl) ?_; unfold D86_4)); simp only [S, TY, reduceCtorEq, nq0, nq1, nq2, nq3, nq4, iq0, iq1, iq2, iq3, iq4, iq5, iq6, iq7, iq8, c8, w8, wnl, hmn]; (try (simp (disch := omega) only [W2, Int.cast_ofNat_Int]; (try simp only [S, TY, reduceCtorEq, nq0, nq1, nq2, nq3, nq4, iq0, iq1, iq2, iq3, iq4, iq5, iq6, iq7, iq8, c8, w8, wnl, hmn])))))
      have h9 := tT_shut (h8.fronts [0, 1])
      refine (put_ok ⟨⟨p1, s1, d1, a1, c1⟩, min (now + life) 1099511627776⟩ (by have := live_len l now; omega)).at_ h9 [0] _ rfl fun r B H10 hr h10 => ?_
      obtain ⟨rfl, rfl⟩ := hr
      obtain ⟨⟨m, ok⟩, hm⟩ : ∃ r, put (live l now) ⟨⟨p1, s1, d1, a1, c1⟩, min (now + life) 1099511627776⟩ = r := ⟨_, rfl⟩
      rw [hm] at hres h10 ⊢
      simp only at hres h10 ⊢
      cases ok with
      | true =>
        subst hres
        ((try simp only [S, TY, reduceCtorEq, nq0, nq1, nq2, nq3, nq4, iq0, iq1, iq2, iq3, iq4, iq5, iq6, iq7, iq8]); (try (simp (disch := omega) only [W2, Int.cast_ofNat_Int]; (try simp only [S, TY, reduceCtorEq, nq0, nq1, nq2, nq3, nq4, iq0, iq1, iq2, iq3, iq4, iq5, iq6, iq7, iq8]))); repeat ((first | (refine cl_drawi 4 D86_4 (List.range 12) (by decide) (by kernel_rfl) ?_; unfold D86_4)); simp only [S, TY, reduceCtorEq, nq0, nq1, nq2, nq3, nq4, iq0, iq1, iq2, iq3, iq4, iq5, iq6, iq7, iq8]; (try (simp (disch := omega) only [W2, Int.cast_ofNat_Int]; (try simp only [S, TY, reduceCtorEq, nq0, nq1, nq2, nq3, nq4, iq0, iq1, iq2, iq3, iq4, iq5, iq6, iq7, iq8])))))
        exact fin_take (B := [_]) h10 ⟨rfl, rfl⟩
      | false =>
        subst hres
        ((try simp only [S, TY, reduceCtorEq, nq0, nq1, nq2, nq3, nq4, iq0, iq1, iq2, iq3, iq4, iq5, iq6, iq7, iq8]); (try (simp (disch := omega) only [W2, Int.cast_ofNat_Int]; (try simp only [S, TY, reduceCtorEq, nq0, nq1, nq2, nq3, nq4, iq0, iq1, iq2, iq3, iq4, iq5, iq6, iq7, iq8]))); repeat ((first | (refine cl_drawi 4 D86_4 (List.range 12) (by decide) (by kernel_rfl) ?_; unfold D86_4)); simp only [S, TY, reduceCtorEq, nq0, nq1, nq2, nq3, nq4, iq0, iq1, iq2, iq3, iq4, iq5, iq6, iq7, iq8]; (try (simp (disch := omega) only [W2, Int.cast_ofNat_Int]; (try simp only [S, TY, reduceCtorEq, nq0, nq1, nq2, nq3, nq4, iq0, iq1, iq2, iq3, iq4, iq5, iq6, iq7, iq8])))))
        exact fin_take (B := [_]) h10 ⟨rfl, rfl⟩
theorem Note_nil {G : Hp} (f : Fw) (now : Int) : Con Try.prog G 86 [.pointer none, f.v, .int .i64 now] [] (fun r B => r = .int .i64 1 ∧ B = []) := by
  obtain ⟨p1, s1, d1, a1, c1⟩ := f
  refine Con.intro Try.func86 rfl (Nat.le_of_ble_eq_true (by kernel_rfl)) (by kernel_rfl) Try.results86 ?_
  intro H h
  ((try simp only [S, TY, reduceCtorEq, nq0, nq1, nq2, nq3, nq4, iq0, iq1, iq2, iq3, iq4, iq5, iq6, iq7, iq8]); (try (simp (disch := omega) only [W2, Int.cast_ofNat_Int]; (try simp only [S, TY, reduceCtorEq, nq0, nq1, nq2, nq3, nq4, iq0, iq1, iq2, iq3, iq4, iq5, iq6, iq7, iq8]))); repeat ((first | (refine cl_drawi 4 D86_4 (List.range 12) (by decide) (by kernel_rfl) ?_; unfold D86_4)); simp only [S, TY, reduceCtorEq, nq0, nq1, nq2, nq3, nq4, iq0, iq1, iq2, iq3, iq4, iq5, iq6, iq7, iq8]; (try (simp (disch := omega) only [W2, Int.cast_ofNat_Int]; (try simp only [S, TY, reduceCtorEq, nq0, nq1, nq2, nq3, nq4, iq0, iq1, iq2, iq3, iq4, iq5, iq6, iq7, iq8])))))
  intro q hq hg
  ((try simp only [S, TY, reduceCtorEq, nq0, nq1, nq2, nq3, nq4, iq0, iq1, iq2, iq3, iq4, iq5, iq6, iq7, iq8]); (try (simp (disch := omega) only [W2, Int.cast_ofNat_Int]; (try simp only [S, TY, reduceCtorEq, nq0, nq1, nq2, nq3, nq4, iq0, iq1, iq2, iq3, iq4, iq5, iq6, iq7, iq8]))); repeat ((first | (refine cl_drawi 4 D86_4 (List.range 12) (by decide) (by kernel_rfl) ?_; unfold D86_4)); simp only [S, TY, reduceCtorEq, nq0, nq1, nq2, nq3, nq4, iq0, iq1, iq2, iq3, iq4, iq5, iq6, iq7, iq8]; (try (simp (disch := omega) only [W2, Int.cast_ofNat_Int]; (try simp only [S, TY, reduceCtorEq, nq0, nq1, nq2, nq3, nq4, iq0, iq1, iq2, iq3, iq4, iq5, iq6, iq7, iq8])))))
  exact fin_take (B := []) (h.new hq hg _) ⟨rfl, rfl⟩
def known (l : List Rc) (f : Fw) (now : Int) : Bool := (live l now).any fun x => alike x.f f
theorem Known_ok {G : Hp} {p : Nat} {life : Int} {l : List Rc} (f : Fw) (now : Int) (hll : l.length ≤ 5000) :
    Con Try.prog G 93 [.pointer (some ⟨p, 0, none⟩), f.v, .int .i64 now] [tT p life l] (fun r B => r = .bool (known l f now) ∧ B = [tT p life l]) := by
  obtain ⟨res, hres⟩ : ∃ r, known l f now = r := ⟨_, rfl⟩
  rw [hres]
  unfold known at hres
  have hlv := live_len l now
  obtain ⟨m, hm⟩ : ∃ m, live l now = m := ⟨_, rfl⟩
  rw [hm] at hres hlv
  obtain ⟨p1, s1, d1, a1, c1⟩ := f
  refine Con.intro Try.func93 rfl (Nat.le_of_ble_eq_true (by kernel_rfl)) (by kernel_rfl) Try.results93 ?_
  intro H h
  ((try simp only [S, TY, reduceCtorEq, nq0, nq1, nq2, nq3, nq4, iq0, iq1, iq2, iq3, iq4, iq5, iq6, iq7, iq8]); (try (simp (disch := omega) only [W2, Int.cast_ofNat_Int]; (try simp only [S, TY, reduceCtorEq, nq0, nq1, nq2, nq3, nq4, iq0, iq1, iq2, iq3, iq4, iq5, iq6, iq7, iq8]))); repeat ((first | (refine cl_drawi 1 D93_1 (List.range 7) (by decide) (by kernel_rfl) ?_; unfold D93_1)); simp only [S, TY, reduceCtorEq, nq0, nq1, nq2, nq3, nq4, iq0, iq1, iq2, iq3, iq4, iq5, iq6, iq7, iq8]; (try (simp (disch := omega) only [W2, Int.cast_ofNat_Int]; (try simp only [S, TY, reduceCtorEq, nq0, nq1, nq2, nq3, nq4, iq0, iq1, iq2, iq3, iq4, iq5, iq6, iq7, iq8])))))
  intro q hq hg
  have h3 := h.new hq hg (.cells (Fw.l ⟨p1, s1, d1, a1, c1⟩).toArray 175 (0, 0))
  have w3 := h3.li 0 rfl
  ((try simp only [S, TY, reduceCtorEq, nq0, nq1, nq2, nq3, nq4, iq0, iq1, iq2, iq3, iq4, iq5, iq6, iq7, iq8, w3]); (try (simp (disch := omega) only [W2, Int.cast_ofNat_Int]; (try simp only [S, TY, reduceCtorEq, nq0, nq1, nq2, nq3, nq4, iq0, iq1, iq2, iq3, iq4, iq5, iq6, iq7, iq8, w3]))); repeat ((first | (refine cl_drawi 1 D93_1 (List.range 7) (by decide) (by kernel_rfl) ?_; unfold D93_1)); simp only [S, TY, reduceCtorEq, nq0, nq1, nq2, nq3, nq4, iq0, iq1, iq2, iq3, iq4, iq5, iq6, iq7, iq8, w3]; (try (simp (disch := omega) only [W2, Int.cast_ofNat_Int]; (try simp only [S, TY, reduceCtorEq, nq0, nq1, nq2, nq3, nq4, iq0, iq1, iq2, iq3, iq4, iq5, iq6, iq7, iq8, w3])))))
  refine (Records_ok (now := now) (by omega)).at_ h3 [1] _ rfl fun r B H6 hr h6 => ?_
  subst hr
  rw [hm] at h6
  obtain ⟨ra, rn, rc, rfl, _, _⟩ := h6.sl 0 rfl Rd_own
  simp only [front_eq, fronts_nil, fronts_cons, List.getElem?_cons_zero, List.getElem?_cons_succ, List.eraseIdx_cons_zero, List.eraseIdx_cons_succ, List.cons_append, List.nil_append, putL_cons, putL_nil, List.set_cons_zero, List.set_cons_succ, Nat.reduceAdd] at h6
  have w6 := h6.li 2 rfl
  ((try simp only [S, TY, reduceCtorEq, nq0, nq1, nq2, nq3, nq4, iq0, iq1, iq2, iq3, iq4, iq5, iq6, iq7, iq8, w3, w6]); (try (simp (disch := omega) only [W2, Int.cast_ofNat_Int]; (try simp only [S, TY, reduceCtorEq, nq0, nq1, nq2, nq3, nq4, iq0, iq1, iq2, iq3, iq4, iq5, iq6, iq7, iq8, w3, w6]))); repeat ((first | (refine cl_drawi 1 D93_1 (List.range 7) (by decide) (by kernel_rfl) ?_; unfold D93_1)); simp only [S, TY, reduceCtorEq, nq0, nq1, nq2, nq3, nq4, iq0, iq1, iq2, iq3, iq4, iq5, iq6, iq7, iq8, w3, w6]; (try (simp (disch := omega) only [W2, Int.cast_ofNat_Int]; (try simp only [S, TY, reduceCtorEq, nq0, nq1, nq2, nq3, nq4, iq0, iq1, iq2, iq3, iq4, iq5, iq6, iq7, iq8, w3, w6])))))
  refine Con.lend_at [] [own 187 6 _ (m.flatMap Rc.l)] h6 [0] rfl (fun F hF hs => at_ok ⟨p1, s1, d1, a1, c1⟩ (seps_own hs 0 rfl).left (by omega)) (fun r B H7 hr h7 => ?_)
  obtain ⟨hr, rfl⟩ := hr
  rcases hr with ⟨rfl, hn⟩ | ⟨j, hj, rfl, hp, hb⟩
  · have : res = false := by
      rw [← hres, List.any_eq_false]
      intro x hx
      rw [hn x hx]; decide
    subst this
    ((try simp only [S, TY, reduceCtorEq, nq0, nq1, nq2, nq3, nq4, iq0, iq1, iq2, iq3, iq4, iq5, iq6, iq7, iq8, w3, w6]); (try (simp (disch := omega) only [W2, Int.cast_ofNat_Int]; (try simp only [S, TY, reduceCtorEq, nq0, nq1, nq2, nq3, nq4, iq0, iq1, iq2, iq3, iq4, iq5, iq6, iq7, iq8, w3, w6]))); repeat ((first | (refine cl_drawi 1 D93_1 (List.range 7) (by decide) (by kernel_rfl) ?_; unfold D93_1)); simp only [S, TY, reduceCtorEq, nq0, nq1, nq2, nq3, nq4, iq0, iq1, iq2, iq3, iq4, iq5, iq6, iq7, iq8, w3, w6]; (try (simp (disch := omega) only [W2, Int.cast_ofNat_Int]; (try simp only [S, TY, reduceCtorEq, nq0, nq1, nq2, nq3, nq4, iq0, iq1, iq2, iq3, iq4, iq5, iq6, iq7, iq8, w3, w6])))))
    exact fin_take (B := [_]) (h7.front 1) ⟨rfl, rfl⟩
  · have : res = true := by
      rw [← hres, List.any_eq_true]
      exact ⟨m[j], List.getElem_mem hj, hp⟩
    subst this
    have gj : (0 : Int) ≤ (j : Nat) := by omega
    ((try simp only [S, TY, reduceCtorEq, nq0, nq1, nq2, nq3, nq4, iq0, iq1, iq2, iq3, iq4, iq5, iq6, iq7, iq8, w3, w6, gj]); (try (simp (disch := omega) only [W2, Int.cast_ofNat_Int]; (try simp only [S, TY, reduceCtorEq, nq0, nq1, nq2, nq3, nq4, iq0, iq1, iq2, iq3, iq4, iq5, iq6, iq7, iq8, w3, w6, gj]))); repeat ((first | (refine cl_drawi 1 D93_1 (List.range 7) (by decide) (by kernel_rfl) ?_; unfold D93_1)); simp only [S, TY, reduceCtorEq, nq0, nq1, nq2, nq3, nq4, iq0, iq1, iq2, iq3, iq4, iq5, iq6, iq7, iq8, w3, w6, gj]; (try (simp (disch := omega) only [W2, Int.cast_ofNat_Int]; (try simp only [S, TY, reduceCtorEq, nq0, nq1, nq2, nq3, nq4, iq0, iq1, iq2, iq3, iq4, iq5, iq6, iq7, iq8, w3, w6, gj])))))
    exact fin_take (B := [_]) (h7.front 1) ⟨rfl, rfl⟩
theorem Known_nil {G : Hp} (f : Fw) (now : Int) : Con Try.prog G 93 [.pointer none, f.v, .int .i64 now] [] (fun r B => r = .bool false ∧ B = []) := by
  obtain ⟨p1, s1, d1, a1, c1⟩ := f
  refine Con.intro Try.func93 rfl (Nat.le_of_ble_eq_true (by kernel_rfl)) (by kernel_rfl) Try.results93 ?_
  intro H h
  ((try simp only [S, TY, reduceCtorEq, nq0, nq1, nq2, nq3, nq4, iq0, iq1, iq2, iq3, iq4, iq5, iq6, iq7, iq8]); (try (simp (disch := omega) only [W2, Int.cast_ofNat_Int]; (try simp only [S, TY, reduceCtorEq, nq0, nq1, nq2, nq3, nq4, iq0, iq1, iq2, iq3, iq4, iq5, iq6, iq7, iq8]))); repeat ((first | (refine cl_drawi 1 D93_1 (List.range 7) (by decide) (by kernel_rfl) ?_; unfold D93_1)); simp only [S, TY, reduceCtorEq, nq0, nq1, nq2, nq3, nq4, iq0, iq1, iq2, iq3, iq4, iq5, iq6, iq7, iq8]; (try (simp (disch := omega) only [W2, Int.cast_ofNat_Int]; (try simp only [S, TY, reduceCtorEq, nq0, nq1, nq2, nq3, nq4, iq0, iq1, iq2, iq3, iq4, iq5, iq6, iq7, iq8])))))
  intro q hq hg
  have h3 := h.new hq hg (.cells (Fw.l ⟨p1, s1, d1, a1, c1⟩).toArray 175 (0, 0))
  have w3 := h3.li 0 rfl
  ((try simp only [S, TY, reduceCtorEq, nq0, nq1, nq2, nq3, nq4, iq0, iq1, iq2, iq3, iq4, iq5, iq6, iq7, iq8, w3]); (try (simp (disch := omega) only [W2, Int.cast_ofNat_Int]; (try simp only [S, TY, reduceCtorEq, nq0, nq1, nq2, nq3, nq4, iq0, iq1, iq2, iq3, iq4, iq5, iq6, iq7, iq8, w3]))); repeat ((first | (refine cl_drawi 1 D93_1 (List.range 7) (by decide) (by kernel_rfl) ?_; unfold D93_1)); simp only [S, TY, reduceCtorEq, nq0, nq1, nq2, nq3, nq4, iq0, iq1, iq2, iq3, iq4, iq5, iq6, iq7, iq8, w3]; (try (simp (disch := omega) only [W2, Int.cast_ofNat_Int]; (try simp only [S, TY, reduceCtorEq, nq0, nq1, nq2, nq3, nq4, iq0, iq1, iq2, iq3, iq4, iq5, iq6, iq7, iq8, w3])))))
  refine (Records_nil now).at_ h3 [] _ rfl fun r B H6 hr h6 => ?_
  obtain ⟨rfl, rfl⟩ := hr
  have w6 := h6.li 0 rfl
  ((try simp only [S, TY, reduceCtorEq, nq0, nq1, nq2, nq3, nq4, iq0, iq1, iq2, iq3, iq4, iq5, iq6, iq7, iq8, w3, w6]); (try (simp (disch := omega) only [W2, Int.cast_ofNat_Int]; (try simp only [S, TY, reduceCtorEq, nq0, nq1, nq2, nq3, nq4, iq0, iq1, iq2, iq3, iq4, iq5, iq6, iq7, iq8, w3, w6]))); repeat ((first | (refine cl_drawi 1 D93_1 (List.range 7) (by decide) (by kernel_rfl) ?_; unfold D93_1)); simp only [S, TY, reduceCtorEq, nq0, nq1, nq2, nq3, nq4, iq0, iq1, iq2, iq3, iq4, iq5, iq6, iq7, iq8, w3, w6]; (try (simp (disch := omega) only [W2, Int.cast_ofNat_Int]; (try simp only [S, TY, reduceCtorEq, nq0, nq1, nq2, nq3, nq4, iq0, iq1, iq2, iq3, iq4, iq5, iq6, iq7, iq8, w3, w6])))))
  refine (at_ok (l := []) ⟨p1, s1, d1, a1, c1⟩ ⟨none, 0, 0, rfl, rfl, Nat.le_refl _, .inl rfl⟩ (by simp)).at_ h6 [] _ rfl fun r B H7 hr h7 => ?_
  obtain ⟨hr, rfl⟩ := hr
  rcases hr with ⟨rfl, hn⟩ | ⟨j, hj, rfl, hp, hb⟩
  · ((try simp only [S, TY, reduceCtorEq, nq0, nq1, nq2, nq3, nq4, iq0, iq1, iq2, iq3, iq4, iq5, iq6, iq7, iq8, w3, w6]); (try (simp (disch := omega) only [W2, Int.cast_ofNat_Int]; (try simp only [S, TY, reduceCtorEq, nq0, nq1, nq2, nq3, nq4, iq0, iq1, iq2, iq3, iq4, iq5, iq6, iq7, iq8, w3, w6]))); repeat ((first | (refine cl_drawi 1 D93_1 (List.range 7) (by decide) (by kernel_rfl) ?_; unfold D93_1)); simp only [S, TY, reduceCtorEq, nq0, nq1, nq2, nq3, nq4, iq0, iq1, iq2, iq3, iq4, iq5, iq6, iq7, iq8, w3, w6]; (try (simp (disch := omega) only [W2, Int.cast_ofNat_Int]; (try simp only [S, TY, reduceCtorEq, nq0, nq1, nq2, nq3, nq4, iq0, iq1, iq2, iq3, iq4, iq5, iq6, iq7, iq8, w3, w6])))))
    exact fin_take (B := []) h7 ⟨rfl, rfl⟩
  · simp at hj
end Go.Proofs.Ytanhmbdcdbcfmaa.TkP
