/- The law: once, and on. -/
import Derived.Test.YtanhmbdcdbcfmaaDpL
set_option linter.unusedVariables false
set_option linter.unusedSimpArgs false
set_option maxRecDepth 10000
set_option maxHeartbeats 4000000
namespace Go.Proofs.Ytanhmbdcdbcfmaa.DpW
open Nat renaming reduceEqDiff → nq0, reduceAdd → nq1, reduceLeDiff → nq2, reduceBEq → nq3, reduceMul → nq4
open Int renaming reduceBEq → iq0, reduceEq → iq1, reduceLT → iq2, reduceLE → iq3, reduceAdd → iq4, reduceSub → iq5, reduceMul → iq6, reduceToNat → iq7, cast_ofNat_Int → iq8
open Go Go.Sl Go.Proofs Go.Proofs.Ytanhmbdcdbcfmaa.Buf Go.Proofs.Ytanhmbdcdbcfmaa.Eth Go.Proofs.Ytanhmbdcdbcfmaa.EthR Go.Proofs.Ytanhmbdcdbcfmaa.SoI Go.Proofs.Ytanhmbdcdbcfmaa.SoM Go.Proofs.Ytanhmbdcdbcfmaa.Fl Go.Proofs.Ytanhmbdcdbcfmaa.FlT Go.Proofs.Ytanhmbdcdbcfmaa.FlD Go.Proofs.Ytanhmbdcdbcfmaa.Ph Go.Proofs.Ytanhmbdcdbcfmaa.Bi Go.Proofs.Ytanhmbdcdbcfmaa.BiC Go.Proofs.Ytanhmbdcdbcfmaa.BiP Go.Proofs.Ytanhmbdcdbcfmaa.BiD Go.Proofs.Ytanhmbdcdbcfmaa.TunP Go.Proofs.Ytanhmbdcdbcfmaa.Tun Go.Proofs.Ytanhmbdcdbcfmaa.TunD Go.Proofs.Ytanhmbdcdbcfmaa.TunA Go.Proofs.Ytanhmbdcdbcfmaa.Dp Go.Proofs.Ytanhmbdcdbcfmaa.DpG Go.Proofs.Ytanhmbdcdbcfmaa.DpT Go.Proofs.Ytanhmbdcdbcfmaa.DpU Go.Proofs.Ytanhmbdcdbcfmaa.DpD
theorem TY : abIs Try.prog 48 = true ∧
  abSz Try.prog 48 = 1 ∧
  aggN Try.prog 3 = some none ∧
  aggN Try.prog 5 = some none ∧
  aggN Try.prog 9 = some none ∧
  aggN Try.prog 23 = some none ∧
  aggN Try.prog 24 = some none ∧
  aggN Try.prog 26 = some (some 8) ∧
  aggN Try.prog 29 = some none ∧
  aggN Try.prog 30 = some none ∧
  aggN Try.prog 34 = some (some 13) ∧
  aggN Try.prog 46 = some none ∧
  aggN Try.prog 48 = some (some 3) ∧
  aggN Try.prog 51 = some (some 4) ∧
  aggN Try.prog 53 = some (some 2) ∧
  aggN Try.prog 57 = some none ∧
  aggN Try.prog 191 = some (some 9) ∧
  apI Try.prog 24 = some (5, 1, 1) ∧
  apI Try.prog 46 = some (191, 9, 72) ∧
  apI Try.prog 57 = some (3, 1, 8) ∧
  arIs Try.prog 48 = true ∧
  arLen Try.prog 48 = 3 ∧
  arSz Try.prog 48 = 1 ∧
  bIs Try.prog 26 = true ∧
  bIs Try.prog 34 = true ∧
  bIs Try.prog 51 = true ∧
  bIs Try.prog 53 = true ∧
  bIs Try.prog 191 = true ∧
  bySl Try.prog 24 = true ∧
  csz Try.prog 3 = some 1 ∧
  csz Try.prog 5 = some 1 ∧
  csz Try.prog 9 = some 1 ∧
  csz Try.prog 23 = some 1 ∧
  csz Try.prog 24 = some 1 ∧
  csz Try.prog 26 = some 8 ∧
  csz Try.prog 29 = some 1 ∧
  csz Try.prog 30 = some 1 ∧
  csz Try.prog 34 = some 13 ∧
  csz Try.prog 46 = some 1 ∧
  csz Try.prog 48 = some 3 ∧
  csz Try.prog 51 = some 4 ∧
  csz Try.prog 53 = some 2 ∧
  csz Try.prog 57 = some 1 ∧
  csz Try.prog 191 = some 9 ∧
  eqF Try.prog 53 = some [.i, .i] ∧
  eqF Try.prog 191 = some [.i, .i, .i, .i, .i, .i, .i, .i, .i] ∧
  fIs Try.prog 26 0 = true ∧
  fIs Try.prog 26 3 = true ∧
  fIs Try.prog 26 6 = true ∧
  fIs Try.prog 26 7 = true ∧
  fIs Try.prog 34 0 = true ∧
  fIs Try.prog 34 2 = true ∧
  fIs Try.prog 34 3 = true ∧
  fIs Try.prog 34 4 = true ∧
  fIs Try.prog 34 5 = true ∧
  fIs Try.prog 51 3 = true ∧
  fIs Try.prog 53 0 = true ∧
  fIs Try.prog 53 1 = true ∧
  fOff Try.prog 26 0 = 0 ∧
  fOff Try.prog 26 3 = 3 ∧
  fOff Try.prog 26 6 = 6 ∧
  fOff Try.prog 26 7 = 7 ∧
  fOff Try.prog 34 0 = 0 ∧
  fOff Try.prog 34 2 = 2 ∧
  fOff Try.prog 34 3 = 3 ∧
  fOff Try.prog 34 4 = 4 ∧
  fOff Try.prog 34 5 = 5 ∧
  fOff Try.prog 51 3 = 3 ∧
  fOff Try.prog 53 0 = 0 ∧
  fOff Try.prog 53 1 = 1 ∧
  fTy Try.prog 26 0 = 23 ∧
  fTy Try.prog 26 3 = 3 ∧
  fTy Try.prog 26 6 = 3 ∧
  fTy Try.prog 26 7 = 24 ∧
  fTy Try.prog 34 0 = 3 ∧
  fTy Try.prog 34 2 = 3 ∧
  fTy Try.prog 34 3 = 3 ∧
  fTy Try.prog 34 4 = 24 ∧
  fTy Try.prog 34 5 = 26 ∧
  fTy Try.prog 51 3 = 24 ∧
  fTy Try.prog 53 0 = 3 ∧
  fTy Try.prog 53 1 = 3 ∧
  goes Try.prog 16 = true ∧
  goes Try.prog 18 = true ∧
  goes Try.prog 23 = true ∧
  goes Try.prog 24 = true ∧
  goes Try.prog 25 = true ∧
  goes Try.prog 26 = true ∧
  goes Try.prog 27 = true ∧
  goes Try.prog 28 = true ∧
  inIs Try.prog 3 = some .i64 ∧
  inIs Try.prog 5 = some .u8 ∧
  inIs Try.prog 23 = some .i64 ∧
  inIs Try.prog 30 = some .i64 ∧
  plcs Try.prog 26 = [(0, 1), (1, 1), (2, 1), (3, 1), (4, 1), (5, 1), (6, 1), (7, 1)] ∧
  plcs Try.prog 34 = [(0, 1), (1, 1), (2, 1), (3, 1), (4, 1), (5, 8)] ∧
  plcs Try.prog 51 = [(0, 1), (1, 1), (2, 1), (3, 1)] ∧
  plcs Try.prog 53 = [(0, 1), (1, 1)] ∧
  plcs Try.prog 191 = [(0, 1), (1, 1), (2, 1), (3, 1), (4, 1), (5, 1), (6, 1), (7, 1), (8, 1)] ∧
  ptIs Try.prog 29 = true ∧
  slEl Try.prog 24 = 5 ∧
  slEl Try.prog 46 = 191 ∧
  slEl Try.prog 57 = 3 ∧
  slIs Try.prog 24 = true ∧
  slIs Try.prog 46 = true ∧
  slIs Try.prog 57 = true ∧
  slSz Try.prog 24 = 1 ∧
  slSz Try.prog 46 = 9 ∧
  slSz Try.prog 57 = 1 ∧
  stIs Try.prog 9 = true ∧
  zcs Try.prog 26 = [.int .i64 0, .int .i64 0, .int .i64 0, .int .i64 0, .int .i64 0, .int .i64 0, .int .i64 0, .slice none 0 0] ∧
  zcs Try.prog 34 = [.int .i64 0, .int .i64 0, .int .i64 0, .int .i64 0, .slice none 0 0, .int .i64 0, .int .i64 0, .int .i64 0, .int .i64 0, .int .i64 0, .int .i64 0, .int .i64 0, .slice none 0 0] ∧
  zcs Try.prog 48 = [.slice none 0 0, .slice none 0 0, .slice none 0 0] ∧
  zcs Try.prog 51 = [.int .u64 0, .int .u64 0, .int .i64 0, .slice none 0 0] ∧
  zcs Try.prog 53 = [.int .i64 0, .int .i64 0] ∧
  zcs Try.prog 191 = [.int .i64 0, .int .u64 0, .int .i64 0, .int .i64 0, .int .i64 0, .int .i64 0, .int .i64 0, .int .i64 0, .int .i64 0] ∧
  zro Try.prog 3 = some (.int .i64 0) ∧
  zro Try.prog 5 = some (.int .u8 0) ∧
  zro Try.prog 9 = some (.string ByteArray.empty) ∧
  zro Try.prog 23 = some (.int .i64 0) ∧
  zro Try.prog 24 = some (.slice none 0 0) ∧
  zro Try.prog 26 = some (.agg #[.int .i64 0, .int .i64 0, .int .i64 0, .int .i64 0, .int .i64 0, .int .i64 0, .int .i64 0, .slice none 0 0]) ∧
  zro Try.prog 29 = some (.pointer none) ∧
  zro Try.prog 30 = some (.int .i64 0) ∧
  zro Try.prog 34 = some (.agg #[.int .i64 0, .int .i64 0, .int .i64 0, .int .i64 0, .slice none 0 0, .int .i64 0, .int .i64 0, .int .i64 0, .int .i64 0, .int .i64 0, .int .i64 0, .int .i64 0, .slice none 0 0]) ∧
  zro Try.prog 46 = some (.slice none 0 0) ∧
  zro Try.prog 48 = some (.agg #[.slice none 0 0, .slice none 0 0, .slice none 0 0]) ∧
  zro Try.prog 51 = some (.agg #[.int .u64 0, .int .u64 0, .int .i64 0, .slice none 0 0]) ∧
  zro Try.prog 53 = some (.agg #[.int .i64 0, .int .i64 0]) ∧
  zro Try.prog 57 = some (.slice none 0 0) ∧
  zro Try.prog 191 = some (.agg #[.int .i64 0, .int .u64 0, .int .i64 0, .int .i64 0, .int .i64 0, .int .i64 0, .int .i64 0, .int .i64 0, .int .i64 0]) :=
  ⟨by kernel_rfl, by kernel_rfl, by kernel_rfl, by kernel_rfl, by kernel_rfl, by kernel_rfl, by kernel_rfl, by kernel_rfl, by kernel_rfl, by kernel_rfl, by kernel_rfl, by kernel_rfl, by kernel_rfl, by kernel_rfl, by kernel_rfl, by kernel_rfl, by kernel_rfl, by kernel_rfl, by kernel_rfl, by kernel_rfl, by kernel_rfl, by kernel_rfl, by kernel_rfl, by kernel_rfl, by kernel_rfl, by kernel_rfl, by kernel_rfl, by kernel_rfl, by kernel_rfl, by kernel_rfl, by kernel_rfl, by kernel_rfl, by kernel_rfl, by kernel_rfl, by kernel_rfl, by kernel_rfl, by kernel_rfl, by kernel_rfl, by kernel_rfl, by kernel_rfl, by kernel_rfl, by kernel_rfl, by kernel_rfl, by kernel_rfl, by kernel_rfl, by kernel_rfl, by kernel_rfl, by kernel_rfl, by kernel_rfl, by kernel_rfl, by kernel_rfl, by kernel_rfl, by kernel_rfl, by kernel_rfl, by kernel_rfl, by kernel_rfl, by kernel_rfl, by kernel_rfl, by kernel_rfl, by kernel_rfl, by kernel_rfl, by kernel_rfl, by kernel_rfl, by kernel_rfl, by kernel_rfl, by kernel_rfl, by kernel_rfl, by kernel_rfl, by kernel_rfl, by kernel_rfl, by kernel_rfl, by kernel_rfl, by kernel_rfl, by kernel_rfl, by kernel_rfl, by kernel_rfl, by kernel_rfl, by kernel_rfl, by kernel_rfl, by kernel_rfl, by kernel_rfl, by kernel_rfl, by kernel_rfl, by kernel_rfl, by kernel_rfl, by kernel_rfl, by kernel_rfl, by kernel_rfl, by kernel_rfl, by kernel_rfl, by kernel_rfl, by kernel_rfl, by kernel_rfl, by kernel_rfl, by kernel_rfl, by kernel_rfl, by kernel_rfl, by kernel_rfl, by kernel_rfl, by kernel_rfl, by kernel_rfl, by kernel_rfl, by kernel_rfl, by kernel_rfl, by kernel_rfl, by kernel_rfl, by kernel_rfl, by kernel_rfl, by kernel_rfl, by kernel_rfl, by kernel_rfl, by kernel_rfl, by kernel_rfl, by kernel_rfl, by kernel_rfl, by kernel_rfl, by kernel_rfl, by kernel_rfl, by kernel_rfl, by kernel_rfl, by kernel_rfl, by kernel_rfl, by kernel_rfl, by kernel_rfl, by kernel_rfl, by kernel_rfl, by kernel_rfl, by kernel_rfl, by kernel_rfl, by kernel_rfl, by kernel_rfl⟩
def D4_19 : List Note := Go.Sl.nn [0, 1, 0, 0, 1, 3, 0, 0, 0, 0, 0]
def D4_30 : List Note := Go.Sl.nn [0, 0, 0, 1, 0, 0, 0, 1, 0]
theorem wayM_cases (a : Ac) (c id : Int) (n : Nat) : wayM a c id n = .drop ∨ (∃ p g, wayM a c id n = .del p g g) ∨ ∃ t p g, wayM a c id n = .snt 1 c c t p g id ∧ TunP.right 1 c c t p g id n = true := by
  unfold wayM
  split
  · exact .inr (.inl ⟨_, _, rfl⟩)
  · split
    · unfold sendM
      split
      · rename_i h
        exact .inr (.inr ⟨_, _, _, rfl, h⟩)
      · exact .inl rfl
    · exact .inl rfl
theorem agE_ok {x : Pk} {t g : Int} (he : agE x t g = 0) : x.k = 1 ∧ TunP.right 2 x.o x.t t x.p g x.i x.fr.length = true := by
  unfold agE at he
  split at he
  · cases he
  · split at he
    · cases he
    · rename_i hk
      split at he
      · cases he
      · rename_i h3
        have : (nxt x t g).ok = true := by cases e : (nxt x t g).ok with | true => rfl | false => exact absurd e h3
        exact ⟨by omega, this⟩
theorem wayT_cases (l : List Rw) (c : Int) {x : Pk} (hx : x.ok = true) : wayT (lookT ⟨x.k, 0, x.p, x.g, x.o⟩ (l.flatMap (comp c))).1 x = .drop ∨
    (∃ p g, wayT (lookT ⟨x.k, 0, x.p, x.g, x.o⟩ (l.flatMap (comp c))).1 x = .del p g x.g ∧ x.g ≤ g) ∨
    ∃ t p g, wayT (lookT ⟨x.k, 0, x.p, x.g, x.o⟩ (l.flatMap (comp c))).1 x = .snt 2 x.o x.t t p g x.i ∧ x.k = 1 ∧ TunP.right 2 x.o x.t t p g x.i x.fr.length = true := by
  have hk := Pk.kk hx
  have has : asked ⟨x.k, 0, x.p, x.g, x.o⟩ = true := by unfold asked; rw [decide_eq_true_eq]; simp only; omega
  rw [look_first c _ has l]
  obtain ⟨⟨a, b⟩, hf⟩ : ∃ r, first l c ⟨x.k, 0, x.p, x.g, x.o⟩ = r := ⟨_, rfl⟩
  rw [hf]
  cases b with
  | false =>
    have := first_none hf
    subst this
    exact .inl rfl
  | true =>
    obtain ⟨r, -, rfl, hkn⟩ := first_some hf
    obtain ⟨-, -, t3, t4, t5⟩ := means_law has hkn
    simp only at t4
    unfold wayT
    by_cases e1 : (means r c ⟨x.k, 0, x.p, x.g, x.o⟩).kind = 1
    · rw [if_pos e1]
      exact .inr (.inl ⟨_, _, rfl, by rw [t3]; exact t4⟩)
    · rw [if_neg e1]
      by_cases e2 : (means r c ⟨x.k, 0, x.p, x.g, x.o⟩).kind = 2
      · rw [if_pos e2]
        by_cases he : agE x (means r c ⟨x.k, 0, x.p, x.g, x.o⟩).to (means r c ⟨x.k, 0, x.p, x.g, x.o⟩).gen = 0
        · rw [if_pos he]
          exact .inr (.inr ⟨_, _, _, rfl, (agE_ok he).1, (agE_ok he).2⟩)
        · rw [if_neg he]
          exact .inl rfl
      · rw [if_neg e2]
        exact .inl rfl
theorem Fits2 {G : Hp} {v : Value} {l : List UInt8} (d s t : Int) (hv : rds G 1 v (bv l)) : Con Try.prog G 23 [frv d s t v] [] (fun r B => r = .bool (decide (l.length ≤ 3000)) ∧ B = []) := by
  obtain ⟨a, n, c, rfl, e1, e2⟩ := hv.slice
  rw [bv_length, Nat.mul_one] at e1
  subst e1
  refine Con.intro Try.func23 rfl (Nat.le_of_ble_eq_true (by kernel_rfl)) (by kernel_rfl) Try.results23 ?_
  intro H h
  ((try simp only [S, TY, reduceCtorEq, nq0, nq1, nq2, nq3, nq4, iq0, iq1, iq2, iq3, iq4, iq5, iq6, iq7, iq8]); (try (simp (disch := omega) only [W2, Int.cast_ofNat_Int]; (try simp only [S, TY, reduceCtorEq, nq0, nq1, nq2, nq3, nq4, iq0, iq1, iq2, iq3, iq4, iq5, iq6, iq7, iq8]))))
  repeat' (((first
      | ((with_reducible show fin _ _ _); first | ((refine fin_take (B := []) h ⟨?_, rfl⟩; (refine bb ?_; (try simp only [BB]) <;> (first | omega | grind)))))
      | ((with_reducible show New _ _ _); first | (refine New_sl h 1 rfl (fun b H' h' => ?_); skip) | (refine New_qsl h 1 rfl (fun b => rfl) (fun b H' h' => ?_); skip) | (refine New_ob h (fun b H' h' => ?_); skip) | (refine New_qob h (fun b H' h' => ?_); skip))
      | ((with_reducible show St _ _); first | (refine sg.st (h.front 0) rfl rfl (fun H' h' => ?_); skip) | (refine sg.st (h.front 1) rfl rfl (fun H' h' => ?_); skip) | (refine sg.st (h.front 2) rfl rfl (fun H' h' => ?_); skip) | (refine sg.st (h.front 3) rfl rfl (fun H' h' => ?_); skip) | (refine sg.st (h.front 4) rfl rfl (fun H' h' => ?_); skip) | (refine sg.st (h.front 5) rfl rfl (fun H' h' => ?_); skip) | (refine sg.st (h.front 6) rfl rfl (fun H' h' => ?_); skip) | (refine sg.st (h.front 7) rfl rfl (fun H' h' => ?_); skip))
      | ((with_reducible show Gate _ _ _); refine Gate.intro (fun g => ?_) (fun g => ?_) <;> (try subst g))
      ) <;> ((try ((try simp only [row, front_eq] at h'); (try simp only [front_eq, fronts_nil, fronts_cons, List.getElem?_cons_zero, List.getElem?_cons_succ, List.eraseIdx_cons_zero, List.eraseIdx_cons_succ, List.cons_append, List.nil_append, putL_cons, putL_nil, List.set_cons_zero, List.set_cons_succ, Nat.reduceAdd] at h'); clear h; have h := h'; clear h'; (try have fc := h.ci 0 rfl); (try have fl := h.li 0 rfl); (try have fc := h.ci 1 rfl); (try have fl := h.li 1 rfl); (try have fc := h.ci 2 rfl); (try have fl := h.li 2 rfl); (try have fc := h.ci 3 rfl); (try have fl := h.li 3 rfl); (try have fc := h.ci 4 rfl); (try have fl := h.li 4 rfl); (try have fc := h.ci 5 rfl); (try have fl := h.li 5 rfl); (try have fc := h.ci 6 rfl); (try have fl := h.li 6 rfl); (try have fc := h.ci 7 rfl); (try have fl := h.li 7 rfl))); ((try simp only [S, TY, reduceCtorEq, nq0, nq1, nq2, nq3, nq4, iq0, iq1, iq2, iq3, iq4, iq5, iq6, iq7, iq8, *]); (try (simp (disch := omega) only [W2, Int.cast_ofNat_Int]; (try simp only [S, TY, reduceCtorEq, nq0, nq1, nq2, nq3, nq4, iq0, iq1, iq2, iq3, iq4, iq5, iq6, iq7, iq8, *])))))))
def okL (l : List Rw) : Prop := l.length ≤ 100 ∧ Std l
theorem stepI {P : Prop} {q : Nat → Prop} {i : Nat} {x : Bool} (y : Bool) (hx : x = true ↔ P ∧ ∀ j, j < i → q j) (hy : y = true ↔ q i) : ((x && y) = true ↔ P ∧ ∀ j, j < i + 1 → q j) := by
  rw [Bool.and_eq_true, hx, hy]
  constructor
  · rintro ⟨⟨h1, h2⟩, h3⟩
    refine ⟨h1, fun j hj => ?_⟩
    by_cases e : j = i
    · subst e; exact h3
    · exact h2 j (by omega)
  · rintro ⟨h1, h2⟩
    exact ⟨⟨h1, fun j hj => h2 j (by omega)⟩, h2 i (by omega)⟩
abbrev pLots (b : Nat) (u0 u1 u2 : Value) : Asn := ob b (.cells #[u0, u1, u2] 48 (0, 0))
abbrev pFr (b : Nat) (d s ty : Int) (v : Value) : Asn := ob b (.cells #[.int .u64 d, .int .u64 s, .int .i64 ty, v] 51 (0, 0))
abbrev pAt (b : Nat) (c id : Int) : Asn := ob b (.cells #[.int .i64 c, .int .i64 id] 53 (0, 0))
def ls (l0 l1 l2 : List Rw) (j : Nat) : List Rw := if j = 0 then l0 else if j = 1 then l1 else l2
/-- What stands in the loop. -/
def Fine (c id : Int) (n : Nat) (i : Nat) (oc : Oc) (vis : List Int) : Prop := vis.Pairwise (fun a b => a ≠ b) ∧ vis.length ≤ 3 ∧ match oc with
  | .drop => True
  | .del _ g s => s ≤ g
  | .snt k o f t p g id' => id' = id ∧ TunP.right k o f t p g id' n = true ∧ ((i = 1 ∧ k = 1 ∧ vis = [c] ∧ o = c ∧ f = c) ∨ (i = 2 ∧ k = 2 ∧ vis = [c, f] ∧ o = c))
abbrev pOut (b : Nat) (oc : Oc) (u : Value) : Asn := ob b (.cells (oc.l u).toArray 34 (0, 0))
theorem way_ne {k o f t p g i : Int} {n : Nat} (h : TunP.right k o f t p g i n = true) : f ≠ t ∧ (k = 2 → o ≠ t) := by
  unfold TunP.right TunP.way at h
  simp only [decide_eq_true_eq] at h
  omega
theorem main_loop {G : Hp} {l0 l1 l2 : List Rw} {x0 x1 x2 : Option Addr} {y0 y1 y2 : Nat} {E : List UInt8} {c id : Int} {b3 b5 bo : Nat} {ba : Option Addr} {bn bc : Nat} (hE : E.length ≤ 100000)
    (hr1 : rws G (.slice x1 l1.length y1) l1) (hr2 : rws G (.slice x2 l2.length y2) l2) (hk1 : l1.length ≤ 100) (hk2 : l2.length ≤ 100) {Q : Post}
    (hQ : ∀ (e : Env) (H : Hp) (oc : Oc) (vis : List Int) (vv u : Value), Fine c id E.length 3 oc vis → e 5 = .pointer (some ⟨b5, 0, none⟩) → e 11 = .slice ba bn bc → e 12 = vv → e 15 = .pointer (some ⟨bo, 0, none⟩) → e 16 = .int .i64 0 →
      sg G [pOut bo oc u, own 3 1 vv (iv vis), own 5 1 u (bv E), own 5 1 (.slice ba bn bc) (bv E), pLots b3 (.slice x0 l0.length y0) (.slice x1 l1.length y1) (.slice x2 l2.length y2), pAt b5 c id] H → Q (.exit 2) e H)
    {e : Env} {H : Hp} {oc : Oc} {vis : List Int} {vv u : Value} (hF : Fine c id E.length 1 oc vis) (q3 : e 3 = .pointer (some ⟨b3, 0, none⟩)) (q5 : e 5 = .pointer (some ⟨b5, 0, none⟩)) (q11 : e 11 = .slice ba bn bc) (q12 : e 12 = vv)
    (q15 : e 15 = .pointer (some ⟨bo, 0, none⟩)) (q16 : e 16 = .int .i64 0) (q17 : e 17 = .int .i64 1)
    (h : sg G [pOut bo oc u, own 3 1 vv (iv vis), own 5 1 u (bv E), own 5 1 (.slice ba bn bc) (bv E), pLots b3 (.slice x0 l0.length y0) (.slice x1 l1.length y1) (.slice x2 l2.length y2), pAt b5 c id] H) :
    cl Try.prog G (.loop (((Go.Code.region 15 #[{ dst := some 97, op := Go.Op.move (Go.Operand.tmp 17), type := 3, pos := "law.go:87", after := #[], guard := none }, { dst := some 98, op := Go.Op.binOp Go.BinOp.lss 3 (Go.Operand.tmp 97) (Go.Operand.const (Go.Value.int Go.IntKind.i64 3)) 3, type := 4, pos := "law.go:87", after := #[{ on := 0, ground := Go.Ground.data }], guard := none }, { dst := some 99, op := Go.Op.move (Go.Operand.tmp 98), type := 4, pos := "law.go:87", after := #[{ on := 1, ground := Go.Ground.data }], guard := none }, { dst := some 100, op := Go.Op.fieldAddr 34 (Go.Operand.tmp 15) 0, type := 0, pos := "law.go:87", after := #[{ on := 2, ground := Go.Ground.guard }], guard := some (2, true) }, { dst := some 101, op := Go.Op.load 3 (Go.Operand.tmp 100), type := 3, pos := "law.go:87", after := #[{ on := 3, ground := Go.Ground.data }, { on := 2, ground := Go.Ground.guard }], guard := some (2, true) }, { dst := some 102, op := Go.Op.binOp Go.BinOp.eql 3 (Go.Operand.tmp 101) (Go.Operand.const (Go.Value.int Go.IntKind.i64 2)) 3, type := 4, pos := "law.go:87", after := #[{ on := 4, ground := Go.Ground.data }, { on := 2, ground := Go.Ground.guard }], guard := some (2, true) }, { dst := some 103, op := Go.Op.pick (Go.Operand.tmp 99) (Go.Operand.tmp 102) (Go.Operand.const (Go.Value.bool false)), type := 4, pos := "law.go:87", after := #[{ on := 2, ground := Go.Ground.data }, { on := 5, ground := Go.Ground.data }], guard := none }] false).seq (Go.Code.cond (Go.Operand.tmp 103) Go.Code.skip (Go.Code.exit 2))).seq ((Go.Code.block 3 ((Go.Code.region 17 #[{ dst := some 106, op := Go.Op.fieldAddr 34 (Go.Operand.tmp 15) 5, type := 0, pos := "law.go:88", after := #[], guard := none }, { dst := some 107, op := Go.Op.load 26 (Go.Operand.tmp 106), type := 26, pos := "law.go:88", after := #[{ on := 0, ground := Go.Ground.data }], guard := none }, { dst := some 18, op := Go.Op.alloc 26, type := 0, pos := "law.go:88", after := #[], guard := none }, { dst := none, op := Go.Op.store 26 (Go.Operand.tmp 18) (Go.Operand.tmp 107), type := 0, pos := "law.go:88", after := #[{ on := 2, ground := Go.Ground.data }, { on := 1, ground := Go.Ground.data }, { on := 0, ground := Go.Ground.phase }, { on := 1, ground := Go.Ground.phase }, { on := 2, ground := Go.Ground.phase }], guard := none }] false).seq ((Go.Code.region 18 #[{ dst := some 108, op := Go.Op.move (Go.Operand.tmp 12), type := 57, pos := "law.go:89", after := #[], guard := none }, { dst := some 109, op := Go.Op.fieldAddr 26 (Go.Operand.tmp 18) 3, type := 0, pos := "law.go:89", after := #[], guard := none }, { dst := some 110, op := Go.Op.load 3 (Go.Operand.tmp 109), type := 3, pos := "law.go:89", after := #[{ on := 1, ground := Go.Ground.data }], guard := none }, { dst := some 111, op := Go.Op.buildSlice 57 1 #[(0, Go.Operand.tmp 110)], type := 57, pos := "law.go:89", after := #[{ on := 2, ground := Go.Ground.data }], guard := none }, { dst := some 112, op := Go.Op.call { callee := Go.Callee.builtin Go.Builtin.append, args := #[Go.Operand.tmp 108, Go.Operand.tmp 111], argTypes := #[57, 57] }, type := 57, pos := "law.go:89", after := #[{ on := 0, ground := Go.Ground.data }, { on := 3, ground := Go.Ground.data }], guard := none }, { dst := some 12, op := Go.Op.assign (Go.Operand.tmp 112), type := 57, pos := "law.go:89", after := #[{ on := 4, ground := Go.Ground.data }, { on := 4, ground := Go.Ground.chain }, { on := 0, ground := Go.Ground.phase }, { on := 1, ground := Go.Ground.phase }, { on := 2, ground := Go.Ground.phase }, { on := 3, ground := Go.Ground.phase }, { on := 4, ground := Go.Ground.phase }], guard := none }] false).seq ((Go.Code.region 19 #[{ dst := some 114, op := Go.Op.fieldAddr 26 (Go.Operand.tmp 18) 3, type := 0, pos := "law.go:90", after := #[], guard := none }, { dst := some 115, op := Go.Op.load 3 (Go.Operand.tmp 114), type := 3, pos := "law.go:90", after := #[{ on := 0, ground := Go.Ground.data }], guard := none }, { dst := some 116, op := Go.Op.move (Go.Operand.tmp 17), type := 3, pos := "law.go:90", after := #[], guard := none }, { dst := some 117, op := Go.Op.indexAddr 48 (Go.Operand.tmp 3) (Go.Operand.tmp 116), type := 0, pos := "law.go:90", after := #[{ on := 2, ground := Go.Ground.data }], guard := none }, { dst := some 118, op := Go.Op.load 46 (Go.Operand.tmp 117), type := 46, pos := "law.go:90", after := #[{ on := 3, ground := Go.Ground.data }], guard := none }, { dst := some 119, op := Go.Op.call { callee := Go.Callee.value (Go.Operand.func 27), args := #[Go.Operand.tmp 115, Go.Operand.tmp 118], argTypes := #[3, 46] }, type := 31, pos := "law.go:90", after := #[{ on := 1, ground := Go.Ground.data }, { on := 4, ground := Go.Ground.data }], guard := none }, { dst := some 113, op := Go.Op.move (Go.Operand.tmp 119), type := 31, pos := "law.go:90", after := #[{ on := 5, ground := Go.Ground.data }], guard := none }, { dst := some 120, op := Go.Op.extract (Go.Operand.tmp 113) 0, type := 29, pos := "law.go:90", after := #[{ on := 6, ground := Go.Ground.data }], guard := none }, { dst := some 121, op := Go.Op.extract (Go.Operand.tmp 113) 1, type := 30, pos := "law.go:90", after := #[{ on := 6, ground := Go.Ground.data }, { on := 9, ground := Go.Ground.gcOnly Go.Departure.lateStores }], guard := none }, { dst := some 19, op := Go.Op.assign (Go.Operand.tmp 120), type := 29, pos := "law.go:90", after := #[{ on := 7, ground := Go.Ground.data }, { on := 5, ground := Go.Ground.chain }, { on := 0, ground := Go.Ground.phase }, { on := 1, ground := Go.Ground.phase }, { on := 2, ground := Go.Ground.phase }, { on := 3, ground := Go.Ground.phase }, { on := 4, ground := Go.Ground.phase }, { on := 5, ground := Go.Ground.phase }, { on := 6, ground := Go.Ground.phase }, { on := 7, ground := Go.Ground.phase }, { on := 8, ground := Go.Ground.textOnly Go.Departure.lateStores }], guard := none }, { dst := some 20, op := Go.Op.assign (Go.Operand.tmp 121), type := 30, pos := "law.go:90", after := #[{ on := 8, ground := Go.Ground.data }, { on := 9, ground := Go.Ground.chain }, { on := 0, ground := Go.Ground.phase }, { on := 1, ground := Go.Ground.phase }, { on := 2, ground := Go.Ground.phase }, { on := 3, ground := Go.Ground.phase }, { on := 4, ground := Go.Ground.phase }, { on := 5, ground := Go.Ground.phase }, { on := 6, ground := Go.Ground.phase }, { on := 7, ground := Go.Ground.phase }, { on := 8, ground := Go.Ground.phase }, { on := 9, ground := Go.Ground.phase }], guard := none }] true).seq ((Go.Code.region 20 #[{ dst := some 123, op := Go.Op.move (Go.Operand.tmp 19), type := 29, pos := "law.go:91", after := #[], guard := none }, { dst := some 124, op := Go.Op.fieldAddr 26 (Go.Operand.tmp 18) 3, type := 0, pos := "law.go:91", after := #[], guard := none }, { dst := some 125, op := Go.Op.load 3 (Go.Operand.tmp 124), type := 3, pos := "law.go:91", after := #[{ on := 1, ground := Go.Ground.data }], guard := none }, { dst := some 126, op := Go.Op.load 26 (Go.Operand.tmp 18), type := 26, pos := "law.go:91", after := #[], guard := none }, { dst := some 127, op := Go.Op.call { callee := Go.Callee.value (Go.Operand.func 18), args := #[Go.Operand.tmp 123, Go.Operand.tmp 125, Go.Operand.tmp 126], argTypes := #[29, 3, 26] }, type := 35, pos := "law.go:91", after := #[{ on := 0, ground := Go.Ground.data }, { on := 2, ground := Go.Ground.data }, { on := 3, ground := Go.Ground.data }], guard := none }, { dst := some 122, op := Go.Op.move (Go.Operand.tmp 127), type := 35, pos := "law.go:91", after := #[{ on := 4, ground := Go.Ground.data }], guard := none }, { dst := some 128, op := Go.Op.extract (Go.Operand.tmp 122) 0, type := 34, pos := "law.go:91", after := #[{ on := 5, ground := Go.Ground.data }], guard := none }, { dst := some 129, op := Go.Op.extract (Go.Operand.tmp 122) 1, type := 30, pos := "law.go:91", after := #[{ on := 5, ground := Go.Ground.data }, { on := 9, ground := Go.Ground.gcOnly Go.Departure.lateStores }], guard := none }, { dst := some 21, op := Go.Op.alloc 34, type := 0, pos := "law.go:91", after := #[], guard := none }, { dst := none, op := Go.Op.store 34 (Go.Operand.tmp 21) (Go.Operand.tmp 128), type := 0, pos := "law.go:91", after := #[{ on := 8, ground := Go.Ground.data }, { on := 6, ground := Go.Ground.data }, { on := 4, ground := Go.Ground.chain }, { on := 0, ground := Go.Ground.phase }, { on := 1, ground := Go.Ground.phase }, { on := 2, ground := Go.Ground.phase }, { on := 3, ground := Go.Ground.phase }, { on := 4, ground := Go.Ground.phase }, { on := 5, ground := Go.Ground.phase }, { on := 6, ground := Go.Ground.phase }, { on := 7, ground := Go.Ground.textOnly Go.Departure.lateStores }, { on := 8, ground := Go.Ground.phase }], guard := none }, { dst := some 22, op := Go.Op.assign (Go.Operand.tmp 129), type := 30, pos := "law.go:91", after := #[{ on := 7, ground := Go.Ground.data }, { on := 9, ground := Go.Ground.chain }, { on := 0, ground := Go.Ground.phase }, { on := 1, ground := Go.Ground.phase }, { on := 2, ground := Go.Ground.phase }, { on := 3, ground := Go.Ground.phase }, { on := 4, ground := Go.Ground.phase }, { on := 5, ground := Go.Ground.phase }, { on := 6, ground := Go.Ground.phase }, { on := 7, ground := Go.Ground.phase }, { on := 8, ground := Go.Ground.phase }, { on := 9, ground := Go.Ground.phase }], guard := none }] false).seq (((Go.Code.region 21 #[{ dst := some 130, op := Go.Op.move (Go.Operand.tmp 22), type := 30, pos := "law.go:92", after := #[], guard := none }, { dst := some 131, op := Go.Op.binOp Go.BinOp.neq 30 (Go.Operand.tmp 130) (Go.Operand.const (Go.Value.int Go.IntKind.i64 0)) 30, type := 4, pos := "law.go:92", after := #[{ on := 0, ground := Go.Ground.data }], guard := none }, { dst := some 132, op := Go.Op.move (Go.Operand.tmp 131), type := 4, pos := "law.go:92", after := #[{ on := 1, ground := Go.Ground.data }], guard := none }, { dst := some 133, op := Go.Op.fieldAddr 26 (Go.Operand.tmp 18) 7, type := 0, pos := "law.go:92", after := #[{ on := 2, ground := Go.Ground.guard }], guard := some (2, false) }, { dst := some 134, op := Go.Op.load 24 (Go.Operand.tmp 133), type := 24, pos := "law.go:92", after := #[{ on := 3, ground := Go.Ground.data }, { on := 2, ground := Go.Ground.guard }], guard := some (2, false) }, { dst := some 135, op := Go.Op.convert 24 9 (Go.Operand.tmp 134), type := 9, pos := "law.go:92", after := #[{ on := 4, ground := Go.Ground.data }, { on := 2, ground := Go.Ground.guard }], guard := some (2, false) }, { dst := some 136, op := Go.Op.move (Go.Operand.tmp 11), type := 24, pos := "law.go:92", after := #[{ on := 2, ground := Go.Ground.guard }], guard := some (2, false) }, { dst := some 137, op := Go.Op.convert 24 9 (Go.Operand.tmp 136), type := 9, pos := "law.go:92", after := #[{ on := 6, ground := Go.Ground.data }, { on := 2, ground := Go.Ground.guard }], guard := some (2, false) }, { dst := some 138, op := Go.Op.binOp Go.BinOp.neq 9 (Go.Operand.tmp 135) (Go.Operand.tmp 137) 9, type := 4, pos := "law.go:92", after := #[{ on := 5, ground := Go.Ground.data }, { on := 7, ground := Go.Ground.data }, { on := 2, ground := Go.Ground.guard }], guard := some (2, false) }, { dst := some 139, op := Go.Op.pick (Go.Operand.tmp 132) (Go.Operand.const (Go.Value.bool true)) (Go.Operand.tmp 138), type := 4, pos := "law.go:92", after := #[{ on := 2, ground := Go.Ground.data }, { on := 8, ground := Go.Ground.data }], guard := none }, { dst := some 140, op := Go.Op.move (Go.Operand.tmp 139), type := 4, pos := "law.go:92", after := #[{ on := 9, ground := Go.Ground.data }, { on := 2, ground := Go.Ground.chain }], guard := none }, { dst := some 141, op := Go.Op.fieldAddr 26 (Go.Operand.tmp 18) 6, type := 0, pos := "law.go:92", after := #[{ on := 10, ground := Go.Ground.guard }], guard := some (10, false) }, { dst := some 142, op := Go.Op.load 3 (Go.Operand.tmp 141), type := 3, pos := "law.go:92", after := #[{ on := 11, ground := Go.Ground.data }, { on := 10, ground := Go.Ground.guard }], guard := some (10, false) }, { dst := some 143, op := Go.Op.fieldAddr 53 (Go.Operand.tmp 5) 1, type := 0, pos := "law.go:92", after := #[{ on := 10, ground := Go.Ground.guard }], guard := some (10, false) }, { dst := some 144, op := Go.Op.load 3 (Go.Operand.tmp 143), type := 3, pos := "law.go:92", after := #[{ on := 13, ground := Go.Ground.data }, { on := 10, ground := Go.Ground.guard }], guard := some (10, false) }, { dst := some 145, op := Go.Op.binOp Go.BinOp.neq 3 (Go.Operand.tmp 142) (Go.Operand.tmp 144) 3, type := 4, pos := "law.go:92", after := #[{ on := 12, ground := Go.Ground.data }, { on := 14, ground := Go.Ground.data }, { on := 10, ground := Go.Ground.guard }], guard := some (10, false) }, { dst := some 146, op := Go.Op.pick (Go.Operand.tmp 140) (Go.Operand.const (Go.Value.bool true)) (Go.Operand.tmp 145), type := 4, pos := "law.go:92", after := #[{ on := 10, ground := Go.Ground.data }, { on := 15, ground := Go.Ground.data }], guard := none }, { dst := some 147, op := Go.Op.move (Go.Operand.tmp 146), type := 4, pos := "law.go:92", after := #[{ on := 16, ground := Go.Ground.data }, { on := 10, ground := Go.Ground.chain }], guard := none }, { dst := some 148, op := Go.Op.fieldAddr 26 (Go.Operand.tmp 18) 0, type := 0, pos := "law.go:92", after := #[{ on := 17, ground := Go.Ground.guard }], guard := some (17, false) }, { dst := some 149, op := Go.Op.load 23 (Go.Operand.tmp 148), type := 23, pos := "law.go:92", after := #[{ on := 18, ground := Go.Ground.data }, { on := 17, ground := Go.Ground.guard }], guard := some (17, false) }, { dst := some 150, op := Go.Op.binOp Go.BinOp.eql 23 (Go.Operand.tmp 149) (Go.Operand.const (Go.Value.int Go.IntKind.i64 2)) 23, type := 4, pos := "law.go:92", after := #[{ on := 19, ground := Go.Ground.data }, { on := 17, ground := Go.Ground.guard }], guard := some (17, false) }, { dst := some 151, op := Go.Op.move (Go.Operand.tmp 150), type := 4, pos := "law.go:92", after := #[{ on := 20, ground := Go.Ground.data }, { on := 17, ground := Go.Ground.chain }, { on := 17, ground := Go.Ground.guard }], guard := some (17, false) }, { dst := some 152, op := Go.Op.fieldAddr 34 (Go.Operand.tmp 21) 0, type := 0, pos := "law.go:92", after := #[{ on := 21, ground := Go.Ground.guard }], guard := some (21, true) }, { dst := some 153, op := Go.Op.load 3 (Go.Operand.tmp 152), type := 3, pos := "law.go:92", after := #[{ on := 22, ground := Go.Ground.data }, { on := 21, ground := Go.Ground.guard }], guard := some (21, true) }, { dst := some 154, op := Go.Op.binOp Go.BinOp.eql 3 (Go.Operand.tmp 153) (Go.Operand.const (Go.Value.int Go.IntKind.i64 2)) 3, type := 4, pos := "law.go:92", after := #[{ on := 23, ground := Go.Ground.data }, { on := 21, ground := Go.Ground.guard }], guard := some (21, true) }, { dst := some 155, op := Go.Op.pick (Go.Operand.tmp 151) (Go.Operand.tmp 154) (Go.Operand.const (Go.Value.bool false)), type := 4, pos := "law.go:92", after := #[{ on := 21, ground := Go.Ground.data }, { on := 24, ground := Go.Ground.data }, { on := 17, ground := Go.Ground.guard }], guard := some (17, false) }, { dst := some 156, op := Go.Op.pick (Go.Operand.tmp 147) (Go.Operand.const (Go.Value.bool true)) (Go.Operand.tmp 155), type := 4, pos := "law.go:92", after := #[{ on := 17, ground := Go.Ground.data }, { on := 25, ground := Go.Ground.data }], guard := none }] false).seq (Go.Code.cond (Go.Operand.tmp 156) ((Go.Code.region 22 #[{ dst := some 6, op := Go.Op.assign (Go.Operand.const (Go.Value.bool false)), type := 4, pos := "law.go:93", after := #[], guard := none }] false).seq Go.Code.ret) Go.Code.skip)).seq (Go.Code.region 23 #[{ dst := some 157, op := Go.Op.load 34 (Go.Operand.tmp 21), type := 34, pos := "law.go:95", after := #[], guard := none }, { dst := none, op := Go.Op.store 34 (Go.Operand.tmp 15) (Go.Operand.tmp 157), type := 0, pos := "law.go:95", after := #[{ on := 0, ground := Go.Ground.data }, { on := 0, ground := Go.Ground.phase }], guard := none }] false))))))).seq (Go.Code.region 16 #[{ dst := some 104, op := Go.Op.move (Go.Operand.tmp 17), type := 3, pos := "law.go:87", after := #[], guard := none }, { dst := some 105, op := Go.Op.binOp Go.BinOp.add 3 (Go.Operand.tmp 104) (Go.Operand.const (Go.Value.int Go.IntKind.i64 1)) 3, type := 3, pos := "law.go:87", after := #[{ on := 0, ground := Go.Ground.data }], guard := none }, { dst := some 17, op := Go.Op.assign (Go.Operand.tmp 105), type := 3, pos := "law.go:87", after := #[{ on := 1, ground := Go.Ground.data }, { on := 0, ground := Go.Ground.phase }, { on := 1, ground := Go.Ground.phase }], guard := none }] false)))) Q e H := by
  refine cl_loop (fun i e H => i ≤ 3 ∧ e 3 = .pointer (some ⟨b3, 0, none⟩) ∧ e 5 = .pointer (some ⟨b5, 0, none⟩) ∧ e 11 = .slice ba bn bc ∧ e 15 = .pointer (some ⟨bo, 0, none⟩) ∧ e 16 = .int .i64 0 ∧ e 17 = .int .i64 (i : Nat) ∧
      ∃ (oc : Oc) (vis : List Int) (vv u : Value), Fine c id E.length i oc vis ∧ e 12 = vv ∧
      sg G [pOut bo oc u, own 3 1 vv (iv vis), own 5 1 u (bv E), own 5 1 (.slice ba bn bc) (bv E), pLots b3 (.slice x0 l0.length y0) (.slice x1 l1.length y1) (.slice x2 l2.length y2), pAt b5 c id] H) (fun i : Nat => 3 - i) 1
    ⟨by omega, q3, q5, q11, q15, q16, q17, oc, vis, vv, u, hF, q12, h⟩ ?_
  clear hF q3 q5 q11 q12 q15 q16 q17 h
  clear oc vis vv u e H
  rintro i e H ⟨q1, q3, q5, q11, q15, q16, q17, oc, vis, vv, u, hF, q12, h⟩
  obtain ⟨va, vn, vc, rfl, _, _⟩ := h.sl 1 rfl Rd_own
  obtain ⟨ua, un, uc, rfl, _, _⟩ := h.sl 2 rfl Rd_own
  cases oc with
  | drop =>
    have c0 := h.c0
    have hF3 : Fine c id E.length 3 .drop vis := hF
    by_cases g1 : (i : Int) < 3
    · ((try simp only [S, TY, reduceCtorEq, nq0, nq1, nq2, nq3, nq4, iq0, iq1, iq2, iq3, iq4, iq5, iq6, iq7, iq8, q3, q5, q11, q12, q15, q16, q17, c0, g1]); (try (simp (disch := omega) only [W2, Int.cast_ofNat_Int]; (try simp only [S, TY, reduceCtorEq, nq0, nq1, nq2, nq3, nq4, iq0, iq1, iq2, iq3, iq4, iq5, iq6, iq7, iq8, q3, q5, q11, q12, q15, q16, q17, c0, g1]))); repeat ((first | (refine cl_drawi 19 D4_19 ([0, 1, 2, 3, 4, 5, 6, 7, 9, 8, 10]) (by decide) (by kernel_rfl) ?_; unfold D4_19) | (refine cl_drawi 30 D4_30 (List.range 9) (by decide) (by kernel_rfl) ?_; unfold D4_30)); simp only [S, TY, reduceCtorEq, nq0, nq1, nq2, nq3, nq4, iq0, iq1, iq2, iq3, iq4, iq5, iq6, iq7, iq8, q3, q5, q11, q12, q15, q16, q17, c0, g1]; (try (simp (disch := omega) only [W2, Int.cast_ofNat_Int]; (try simp only [S, TY, reduceCtorEq, nq0, nq1, nq2, nq3, nq4, iq0, iq1, iq2, iq3, iq4, iq5, iq6, iq7, iq8, q3, q5, q11, q12, q15, q16, q17, c0, g1])))))
      exact hQ _ _ _ _ _ _ hF3 q5 q11 q12 q15 q16 h
    · ((try simp only [S, TY, reduceCtorEq, nq0, nq1, nq2, nq3, nq4, iq0, iq1, iq2, iq3, iq4, iq5, iq6, iq7, iq8, q3, q5, q11, q12, q15, q16, q17, c0, g1]); (try (simp (disch := omega) only [W2, Int.cast_ofNat_Int]; (try simp only [S, TY, reduceCtorEq, nq0, nq1, nq2, nq3, nq4, iq0, iq1, iq2, iq3, iq4, iq5, iq6, iq7, iq8, q3, q5, q11, q12, q15, q16, q17, c0, g1]))); repeat ((first | (refine cl_drawi 19 D4_19 ([0, 1, 2, 3, 4, 5, 6, 7, 9, 8, 10]) (by decide) (by kernel_rfl) ?_; unfold D4_19) | (refine cl_drawi 30 D4_30 (List.range 9) (by decide) (by kernel_rfl) ?_; unfold D4_30)); simp only [S, TY, reduceCtorEq, nq0, nq1, nq2, nq3, nq4, iq0, iq1, iq2, iq3, iq4, iq5, iq6, iq7, iq8, q3, q5, q11, q12, q15, q16, q17, c0, g1]; (try (simp (disch := omega) only [W2, Int.cast_ofNat_Int]; (try simp only [S, TY, reduceCtorEq, nq0, nq1, nq2, nq3, nq4, iq0, iq1, iq2, iq3, iq4, iq5, iq6, iq7, iq8, q3, q5, q11, q12, q15, q16, q17, c0, g1])))))
      exact hQ _ _ _ _ _ _ hF3 q5 q11 q12 q15 q16 h
  | del p g s =>
    have c0 := h.c0
    have hF3 : Fine c id E.length 3 (.del p g s) vis := hF
    by_cases g1 : (i : Int) < 3
    · ((try simp only [S, TY, reduceCtorEq, nq0, nq1, nq2, nq3, nq4, iq0, iq1, iq2, iq3, iq4, iq5, iq6, iq7, iq8, q3, q5, q11, q12, q15, q16, q17, c0, g1]); (try (simp (disch := omega) only [W2, Int.cast_ofNat_Int]; (try simp only [S, TY, reduceCtorEq, nq0, nq1, nq2, nq3, nq4, iq0, iq1, iq2, iq3, iq4, iq5, iq6, iq7, iq8, q3, q5, q11, q12, q15, q16, q17, c0, g1]))); repeat ((first | (refine cl_drawi 19 D4_19 ([0, 1, 2, 3, 4, 5, 6, 7, 9, 8, 10]) (by decide) (by kernel_rfl) ?_; unfold D4_19) | (refine cl_drawi 30 D4_30 (List.range 9) (by decide) (by kernel_rfl) ?_; unfold D4_30)); simp only [S, TY, reduceCtorEq, nq0, nq1, nq2, nq3, nq4, iq0, iq1, iq2, iq3, iq4, iq5, iq6, iq7, iq8, q3, q5, q11, q12, q15, q16, q17, c0, g1]; (try (simp (disch := omega) only [W2, Int.cast_ofNat_Int]; (try simp only [S, TY, reduceCtorEq, nq0, nq1, nq2, nq3, nq4, iq0, iq1, iq2, iq3, iq4, iq5, iq6, iq7, iq8, q3, q5, q11, q12, q15, q16, q17, c0, g1])))))
      exact hQ _ _ _ _ _ _ hF3 q5 q11 q12 q15 q16 h
    · ((try simp only [S, TY, reduceCtorEq, nq0, nq1, nq2, nq3, nq4, iq0, iq1, iq2, iq3, iq4, iq5, iq6, iq7, iq8, q3, q5, q11, q12, q15, q16, q17, c0, g1]); (try (simp (disch := omega) only [W2, Int.cast_ofNat_Int]; (try simp only [S, TY, reduceCtorEq, nq0, nq1, nq2, nq3, nq4, iq0, iq1, iq2, iq3, iq4, iq5, iq6, iq7, iq8, q3, q5, q11, q12, q15, q16, q17, c0, g1]))); repeat ((first | (refine cl_drawi 19 D4_19 ([0, 1, 2, 3, 4, 5, 6, 7, 9, 8, 10]) (by decide) (by kernel_rfl) ?_; unfold D4_19) | (refine cl_drawi 30 D4_30 (List.range 9) (by decide) (by kernel_rfl) ?_; unfold D4_30)); simp only [S, TY, reduceCtorEq, nq0, nq1, nq2, nq3, nq4, iq0, iq1, iq2, iq3, iq4, iq5, iq6, iq7, iq8, q3, q5, q11, q12, q15, q16, q17, c0, g1]; (try (simp (disch := omega) only [W2, Int.cast_ofNat_Int]; (try simp only [S, TY, reduceCtorEq, nq0, nq1, nq2, nq3, nq4, iq0, iq1, iq2, iq3, iq4, iq5, iq6, iq7, iq8, q3, q5, q11, q12, q15, q16, q17, c0, g1])))))
      exact hQ _ _ _ _ _ _ hF3 q5 q11 q12 q15 q16 h
  | snt k o f t p g id' =>
    obtain ⟨f1, f2, hid, f4, hw⟩ := hF
    have hx : (⟨k, o, f, t, p, g, id', E⟩ : Pk).ok = true := f4
    have hne := way_ne f4
    rcases hw with ⟨rfl, rfl, rfl, ho, hf⟩ | ⟨rfl, rfl, rfl, ho⟩
    · have hp1 : ([c] ++ [t]).Pairwise (fun a b => a ≠ b) := by
        have := hne.1
        simp; omega
      have c0 := h.c0
      have d0 := h.li 0 rfl
      ((try simp only [S, TY, reduceCtorEq, nq0, nq1, nq2, nq3, nq4, iq0, iq1, iq2, iq3, iq4, iq5, iq6, iq7, iq8, q3, q5, q11, q12, q15, q16, q17, c0, d0]); (try (simp (disch := omega) only [W2, Int.cast_ofNat_Int]; (try simp only [S, TY, reduceCtorEq, nq0, nq1, nq2, nq3, nq4, iq0, iq1, iq2, iq3, iq4, iq5, iq6, iq7, iq8, q3, q5, q11, q12, q15, q16, q17, c0, d0]))); repeat ((first | (refine cl_drawi 19 D4_19 ([0, 1, 2, 3, 4, 5, 6, 7, 9, 8, 10]) (by decide) (by kernel_rfl) ?_; unfold D4_19) | (refine cl_drawi 30 D4_30 (List.range 9) (by decide) (by kernel_rfl) ?_; unfold D4_30)); simp only [S, TY, reduceCtorEq, nq0, nq1, nq2, nq3, nq4, iq0, iq1, iq2, iq3, iq4, iq5, iq6, iq7, iq8, q3, q5, q11, q12, q15, q16, q17, c0, d0]; (try (simp (disch := omega) only [W2, Int.cast_ofNat_Int]; (try simp only [S, TY, reduceCtorEq, nq0, nq1, nq2, nq3, nq4, iq0, iq1, iq2, iq3, iq4, iq5, iq6, iq7, iq8, q3, q5, q11, q12, q15, q16, q17, c0, d0])))))
      intro bp hbp hgp
      have h1 := h.new hbp hgp (.cells (pkl' 0 0 0 0 0 0 0 nilS).toArray 26 (0, 0))
      ((try simp only [S, TY, reduceCtorEq, nq0, nq1, nq2, nq3, nq4, iq0, iq1, iq2, iq3, iq4, iq5, iq6, iq7, iq8, q3, q5, q11, q12, q15, q16, q17]); (try (simp (disch := omega) only [W2, Int.cast_ofNat_Int]; (try simp only [S, TY, reduceCtorEq, nq0, nq1, nq2, nq3, nq4, iq0, iq1, iq2, iq3, iq4, iq5, iq6, iq7, iq8, q3, q5, q11, q12, q15, q16, q17]))); repeat ((first | (refine cl_drawi 19 D4_19 ([0, 1, 2, 3, 4, 5, 6, 7, 9, 8, 10]) (by decide) (by kernel_rfl) ?_; unfold D4_19) | (refine cl_drawi 30 D4_30 (List.range 9) (by decide) (by kernel_rfl) ?_; unfold D4_30)); simp only [S, TY, reduceCtorEq, nq0, nq1, nq2, nq3, nq4, iq0, iq1, iq2, iq3, iq4, iq5, iq6, iq7, iq8, q3, q5, q11, q12, q15, q16, q17]; (try (simp (disch := omega) only [W2, Int.cast_ofNat_Int]; (try simp only [S, TY, reduceCtorEq, nq0, nq1, nq2, nq3, nq4, iq0, iq1, iq2, iq3, iq4, iq5, iq6, iq7, iq8, q3, q5, q11, q12, q15, q16, q17])))))
      refine sg.st h1 rfl rfl fun H2 h2 => ?_
      simp only [front_eq, fronts_nil, fronts_cons, List.getElem?_cons_zero, List.getElem?_cons_succ, List.eraseIdx_cons_zero, List.eraseIdx_cons_succ, List.cons_append, List.nil_append, putL_cons, putL_nil, List.set_cons_zero, List.set_cons_succ, Nat.reduceAdd] at h2
      have c1 := h2.c0
      ((try simp only [S, TY, reduceCtorEq, nq0, nq1, nq2, nq3, nq4, iq0, iq1, iq2, iq3, iq4, iq5, iq6, iq7, iq8, q3, q5, q11, q12, q15, q16, q17, c1]); (try (simp (disch := omega) only [W2, Int.cast_ofNat_Int]; (try simp only [S, TY, reduceCtorEq, nq0, nq1, nq2, nq3, nq4, iq0, iq1, iq2, iq3, iq4, iq5, iq6, iq7, iq8, q3, q5, q11, q12, q15, q16, q17, c1]))); repeat ((first | (refine cl_drawi 19 D4_19 ([0, 1, 2, 3, 4, 5, 6, 7, 9, 8, 10]) (by decide) (by kernel_rfl) ?_; unfold D4_19) | (refine cl_drawi 30 D4_30 (List.range 9) (by decide) (by kernel_rfl) ?_; unfold D4_30)); simp only [S, TY, reduceCtorEq, nq0, nq1, nq2, nq3, nq4, iq0, iq1, iq2, iq3, iq4, iq5, iq6, iq7, iq8, q3, q5, q11, q12, q15, q16, q17, c1]; (try (simp (disch := omega) only [W2, Int.cast_ofNat_Int]; (try simp only [S, TY, reduceCtorEq, nq0, nq1, nq2, nq3, nq4, iq0, iq1, iq2, iq3, iq4, iq5, iq6, iq7, iq8, q3, q5, q11, q12, q15, q16, q17, c1])))))
      intro nv hnv hgv
      have h3 := h2.newsl (e := 3) (sz := 1) (n := 1) (xs := iv [t]) hnv hgv rfl
      ((try simp only [S, TY, reduceCtorEq, nq0, nq1, nq2, nq3, nq4, iq0, iq1, iq2, iq3, iq4, iq5, iq6, iq7, iq8, q3, q5, q11, q12, q15, q16, q17, c1]); (try (simp (disch := omega) only [W2, Int.cast_ofNat_Int]; (try simp only [S, TY, reduceCtorEq, nq0, nq1, nq2, nq3, nq4, iq0, iq1, iq2, iq3, iq4, iq5, iq6, iq7, iq8, q3, q5, q11, q12, q15, q16, q17, c1]))); repeat ((first | (refine cl_drawi 19 D4_19 ([0, 1, 2, 3, 4, 5, 6, 7, 9, 8, 10]) (by decide) (by kernel_rfl) ?_; unfold D4_19) | (refine cl_drawi 30 D4_30 (List.range 9) (by decide) (by kernel_rfl) ?_; unfold D4_30)); simp only [S, TY, reduceCtorEq, nq0, nq1, nq2, nq3, nq4, iq0, iq1, iq2, iq3, iq4, iq5, iq6, iq7, iq8, q3, q5, q11, q12, q15, q16, q17, c1]; (try (simp (disch := omega) only [W2, Int.cast_ofNat_Int]; (try simp only [S, TY, reduceCtorEq, nq0, nq1, nq2, nq3, nq4, iq0, iq1, iq2, iq3, iq4, iq5, iq6, iq7, iq8, q3, q5, q11, q12, q15, q16, q17, c1])))))
      refine append_sl (show apI Try.prog 57 = some (3, 1, 8) from by kernel_rfl) (show slIs Try.prog 57 = true from by kernel_rfl) (h3.front 3) (h3.rdsi 0 rfl Rd_own) (by simp [iv, Value.oneCell']) (by simp [iv]) fun vv2 H4 h4 => ?_
      obtain ⟨va2, vn2, vc2, rfl, _, _⟩ := h4.sl 0 rfl Rd_own
      simp only [front_eq, fronts_nil, fronts_cons, List.getElem?_cons_zero, List.getElem?_cons_succ, List.eraseIdx_cons_zero, List.eraseIdx_cons_succ, List.cons_append, List.nil_append, putL_cons, putL_nil, List.set_cons_zero, List.set_cons_succ, Nat.reduceAdd] at h4
      have c4 := (h4.front 2).c0
      have l4 := (h4.front 6).c0
      ((try simp only [S, TY, reduceCtorEq, nq0, nq1, nq2, nq3, nq4, iq0, iq1, iq2, iq3, iq4, iq5, iq6, iq7, iq8, q3, q5, q11, q12, q15, q16, q17, c4, l4]); (try (simp (disch := omega) only [W2, Int.cast_ofNat_Int]; (try simp only [S, TY, reduceCtorEq, nq0, nq1, nq2, nq3, nq4, iq0, iq1, iq2, iq3, iq4, iq5, iq6, iq7, iq8, q3, q5, q11, q12, q15, q16, q17, c4, l4]))); repeat ((first | (refine cl_drawi 19 D4_19 ([0, 1, 2, 3, 4, 5, 6, 7, 9, 8, 10]) (by decide) (by kernel_rfl) ?_; unfold D4_19) | (refine cl_drawi 30 D4_30 (List.range 9) (by decide) (by kernel_rfl) ?_; unfold D4_30)); simp only [S, TY, reduceCtorEq, nq0, nq1, nq2, nq3, nq4, iq0, iq1, iq2, iq3, iq4, iq5, iq6, iq7, iq8, q3, q5, q11, q12, q15, q16, q17, c4, l4]; (try (simp (disch := omega) only [W2, Int.cast_ofNat_Int]; (try simp only [S, TY, reduceCtorEq, nq0, nq1, nq2, nq3, nq4, iq0, iq1, iq2, iq3, iq4, iq5, iq6, iq7, iq8, q3, q5, q11, q12, q15, q16, q17, c4, l4])))))
      refine (Table_ok t hr1 hk1).at_ h4 [] _ rfl fun r B H5 hr h5 => ?_
      obtain ⟨pt, rfl, rfl⟩ := hr
      have hc := wayT_cases l1 t hx
      have hTl := comp_len t l1
      obtain ⟨T, hT⟩ : ∃ T, (l1).flatMap (comp t) = T := ⟨_, rfl⟩
      rw [hT] at hc h5 hTl
      simp only [front_eq, fronts_nil, fronts_cons, List.getElem?_cons_zero, List.getElem?_cons_succ, List.eraseIdx_cons_zero, List.eraseIdx_cons_succ, List.cons_append, List.nil_append, putL_cons, putL_nil, List.set_cons_zero, List.set_cons_succ, Nat.reduceAdd] at h5
      have c5 := (h5.front 3).c0
      have w5 := h5.li 3 rfl
      ((try simp only [S, TY, reduceCtorEq, nq0, nq1, nq2, nq3, nq4, iq0, iq1, iq2, iq3, iq4, iq5, iq6, iq7, iq8, q3, q5, q11, q12, q15, q16, q17, c5, w5]); (try (simp (disch := omega) only [W2, Int.cast_ofNat_Int]; (try simp only [S, TY, reduceCtorEq, nq0, nq1, nq2, nq3, nq4, iq0, iq1, iq2, iq3, iq4, iq5, iq6, iq7, iq8, q3, q5, q11, q12, q15, q16, q17, c5, w5]))); repeat ((first | (refine cl_drawi 19 D4_19 ([0, 1, 2, 3, 4, 5, 6, 7, 9, 8, 10]) (by decide) (by kernel_rfl) ?_; unfold D4_19) | (refine cl_drawi 30 D4_30 (List.range 9) (by decide) (by kernel_rfl) ?_; unfold D4_30)); simp only [S, TY, reduceCtorEq, nq0, nq1, nq2, nq3, nq4, iq0, iq1, iq2, iq3, iq4, iq5, iq6, iq7, iq8, q3, q5, q11, q12, q15, q16, q17, c5, w5]; (try (simp (disch := omega) only [W2, Int.cast_ofNat_Int]; (try simp only [S, TY, reduceCtorEq, nq0, nq1, nq2, nq3, nq4, iq0, iq1, iq2, iq3, iq4, iq5, iq6, iq7, iq8, q3, q5, q11, q12, q15, q16, q17, c5, w5])))))
      refine Con.lend_at [tb pt T] [own 5 1 _ (bv E)] h5 [0, 4] rfl (fun F hF hs => DpU.Tunnel_ok (t := T) ⟨1, o, f, t, p, g, id', E⟩ (seps_own hs 0 rfl).left hE (by omega) t) fun r B H6 hr h6 => ?_
      unfold DpU.TuR at hr
      rw [if_pos ⟨hx, rfl⟩] at hr
      obtain ⟨rv, rfl, hr⟩ := hr
      rcases hc with hd | ⟨p', g', hd, hle⟩ | ⟨t', p', g', hd, hk1', hright⟩
      · rw [hd] at hr
        obtain ⟨-, rfl, rfl⟩ | ⟨hne, -⟩ := hr
        rotate_left
        · exact absurd rfl hne
        simp only [front_eq, fronts_nil, fronts_cons, List.getElem?_cons_zero, List.getElem?_cons_succ, List.eraseIdx_cons_zero, List.eraseIdx_cons_succ, List.cons_append, List.nil_append, putL_cons, putL_nil, List.set_cons_zero, List.set_cons_succ, Nat.reduceAdd] at h6
        ((try simp only [S, TY, reduceCtorEq, nq0, nq1, nq2, nq3, nq4, iq0, iq1, iq2, iq3, iq4, iq5, iq6, iq7, iq8, q3, q5, q11, q12, q15, q16, q17]); (try (simp (disch := omega) only [W2, Int.cast_ofNat_Int]; (try simp only [S, TY, reduceCtorEq, nq0, nq1, nq2, nq3, nq4, iq0, iq1, iq2, iq3, iq4, iq5, iq6, iq7, iq8, q3, q5, q11, q12, q15, q16, q17]))); repeat ((first | (refine cl_drawi 19 D4_19 ([0, 1, 2, 3, 4, 5, 6, 7, 9, 8, 10]) (by decide) (by kernel_rfl) ?_; unfold D4_19) | (refine cl_drawi 30 D4_30 (List.range 9) (by decide) (by kernel_rfl) ?_; unfold D4_30)); simp only [S, TY, reduceCtorEq, nq0, nq1, nq2, nq3, nq4, iq0, iq1, iq2, iq3, iq4, iq5, iq6, iq7, iq8, q3, q5, q11, q12, q15, q16, q17]; (try (simp (disch := omega) only [W2, Int.cast_ofNat_Int]; (try simp only [S, TY, reduceCtorEq, nq0, nq1, nq2, nq3, nq4, iq0, iq1, iq2, iq3, iq4, iq5, iq6, iq7, iq8, q3, q5, q11, q12, q15, q16, q17])))))
        intro bx hbx hgx
        have h8 := h6.new hbx hgx (.cells (Oc.l nilS .drop).toArray 34 (0, 0))
        ((try simp only [S, TY, reduceCtorEq, nq0, nq1, nq2, nq3, nq4, iq0, iq1, iq2, iq3, iq4, iq5, iq6, iq7, iq8, q3, q5, q11, q12, q15, q16, q17]); (try (simp (disch := omega) only [W2, Int.cast_ofNat_Int]; (try simp only [S, TY, reduceCtorEq, nq0, nq1, nq2, nq3, nq4, iq0, iq1, iq2, iq3, iq4, iq5, iq6, iq7, iq8, q3, q5, q11, q12, q15, q16, q17]))); repeat ((first | (refine cl_drawi 19 D4_19 ([0, 1, 2, 3, 4, 5, 6, 7, 9, 8, 10]) (by decide) (by kernel_rfl) ?_; unfold D4_19) | (refine cl_drawi 30 D4_30 (List.range 9) (by decide) (by kernel_rfl) ?_; unfold D4_30)); simp only [S, TY, reduceCtorEq, nq0, nq1, nq2, nq3, nq4, iq0, iq1, iq2, iq3, iq4, iq5, iq6, iq7, iq8, q3, q5, q11, q12, q15, q16, q17]; (try (simp (disch := omega) only [W2, Int.cast_ofNat_Int]; (try simp only [S, TY, reduceCtorEq, nq0, nq1, nq2, nq3, nq4, iq0, iq1, iq2, iq3, iq4, iq5, iq6, iq7, iq8, q3, q5, q11, q12, q15, q16, q17])))))
        refine sg.st h8 rfl rfl fun H9 h9 => ?_
        simp only [front_eq, fronts_nil, fronts_cons, List.getElem?_cons_zero, List.getElem?_cons_succ, List.eraseIdx_cons_zero, List.eraseIdx_cons_succ, List.cons_append, List.nil_append, putL_cons, putL_nil, List.set_cons_zero, List.set_cons_succ, Nat.reduceAdd] at h9
        have c9 := h9.c0
        have cp := (h9.front 5).c0
        have ca := (h9.front 9).c0
        have sb := rStr_of (P := Try.prog) (h9.rdsi 7 rfl Rd_own)
        have su := rStr_of (P := Try.prog) (h9.rdsi 2 rfl Rd_own)
        have w9 := h9.li 0 rfl
        ((try simp only [S, TY, reduceCtorEq, nq0, nq1, nq2, nq3, nq4, iq0, iq1, iq2, iq3, iq4, iq5, iq6, iq7, iq8, q3, q5, q11, q12, q15, q16, q17, c9, cp, ca, sb, su, w9, hid]); (try (simp (disch := omega) only [W2, Int.cast_ofNat_Int]; (try simp only [S, TY, reduceCtorEq, nq0, nq1, nq2, nq3, nq4, iq0, iq1, iq2, iq3, iq4, iq5, iq6, iq7, iq8, q3, q5, q11, q12, q15, q16, q17, c9, cp, ca, sb, su, w9, hid]))); repeat ((first | (refine cl_drawi 19 D4_19 ([0, 1, 2, 3, 4, 5, 6, 7, 9, 8, 10]) (by decide) (by kernel_rfl) ?_; unfold D4_19) | (refine cl_drawi 30 D4_30 (List.range 9) (by decide) (by kernel_rfl) ?_; unfold D4_30)); simp only [S, TY, reduceCtorEq, nq0, nq1, nq2, nq3, nq4, iq0, iq1, iq2, iq3, iq4, iq5, iq6, iq7, iq8, q3, q5, q11, q12, q15, q16, q17, c9, cp, ca, sb, su, w9, hid]; (try (simp (disch := omega) only [W2, Int.cast_ofNat_Int]; (try simp only [S, TY, reduceCtorEq, nq0, nq1, nq2, nq3, nq4, iq0, iq1, iq2, iq3, iq4, iq5, iq6, iq7, iq8, q3, q5, q11, q12, q15, q16, q17, c9, cp, ca, sb, su, w9, hid])))))
        refine sg.st (h9.front 6) rfl rfl fun H10 h10 => ?_
        simp only [front_eq, fronts_nil, fronts_cons, List.getElem?_cons_zero, List.getElem?_cons_succ, List.eraseIdx_cons_zero, List.eraseIdx_cons_succ, List.cons_append, List.nil_append, putL_cons, putL_nil, List.set_cons_zero, List.set_cons_succ, Nat.reduceAdd] at h10
        ((try simp only [S, TY, reduceCtorEq, nq0, nq1, nq2, nq3, nq4, iq0, iq1, iq2, iq3, iq4, iq5, iq6, iq7, iq8, q3, q5, q11, q12, q15, q16, q17]); (try (simp (disch := omega) only [W2, Int.cast_ofNat_Int]; (try simp only [S, TY, reduceCtorEq, nq0, nq1, nq2, nq3, nq4, iq0, iq1, iq2, iq3, iq4, iq5, iq6, iq7, iq8, q3, q5, q11, q12, q15, q16, q17]))); repeat ((first | (refine cl_drawi 19 D4_19 ([0, 1, 2, 3, 4, 5, 6, 7, 9, 8, 10]) (by decide) (by kernel_rfl) ?_; unfold D4_19) | (refine cl_drawi 30 D4_30 (List.range 9) (by decide) (by kernel_rfl) ?_; unfold D4_30)); simp only [S, TY, reduceCtorEq, nq0, nq1, nq2, nq3, nq4, iq0, iq1, iq2, iq3, iq4, iq5, iq6, iq7, iq8, q3, q5, q11, q12, q15, q16, q17]; (try (simp (disch := omega) only [W2, Int.cast_ofNat_Int]; (try simp only [S, TY, reduceCtorEq, nq0, nq1, nq2, nq3, nq4, iq0, iq1, iq2, iq3, iq4, iq5, iq6, iq7, iq8, q3, q5, q11, q12, q15, q16, q17])))))
        exact .go (1 + 1) (by decide) ⟨by decide, q3, q5, q11, q15, q16, rfl, .drop, _, _, _, ⟨hp1, by simp, trivial⟩, rfl, ⟨h10.1, seps_take (B := [_, _, _, _, _, _]) (h10.fronts [0, 3, 2, 4, 4, 4]).2⟩⟩
      · rw [hd] at hr
        obtain ⟨hne, -⟩ | ⟨-, u', rfl, rfl⟩ := hr
        · cases hne
        obtain ⟨ua', un', uc', rfl, _, _⟩ := h6.sl 0 rfl Rd_own
        simp only [front_eq, fronts_nil, fronts_cons, List.getElem?_cons_zero, List.getElem?_cons_succ, List.eraseIdx_cons_zero, List.eraseIdx_cons_succ, List.cons_append, List.nil_append, putL_cons, putL_nil, List.set_cons_zero, List.set_cons_succ, Nat.reduceAdd] at h6
        ((try simp only [S, TY, reduceCtorEq, nq0, nq1, nq2, nq3, nq4, iq0, iq1, iq2, iq3, iq4, iq5, iq6, iq7, iq8, q3, q5, q11, q12, q15, q16, q17]); (try (simp (disch := omega) only [W2, Int.cast_ofNat_Int]; (try simp only [S, TY, reduceCtorEq, nq0, nq1, nq2, nq3, nq4, iq0, iq1, iq2, iq3, iq4, iq5, iq6, iq7, iq8, q3, q5, q11, q12, q15, q16, q17]))); repeat ((first | (refine cl_drawi 19 D4_19 ([0, 1, 2, 3, 4, 5, 6, 7, 9, 8, 10]) (by decide) (by kernel_rfl) ?_; unfold D4_19) | (refine cl_drawi 30 D4_30 (List.range 9) (by decide) (by kernel_rfl) ?_; unfold D4_30)); simp only [S, TY, reduceCtorEq, nq0, nq1, nq2, nq3, nq4, iq0, iq1, iq2, iq3, iq4, iq5, iq6, iq7, iq8, q3, q5, q11, q12, q15, q16, q17]; (try (simp (disch := omega) only [W2, Int.cast_ofNat_Int]; (try simp only [S, TY, reduceCtorEq, nq0, nq1, nq2, nq3, nq4, iq0, iq1, iq2, iq3, iq4, iq5, iq6, iq7, iq8, q3, q5, q11, q12, q15, q16, q17])))))
        intro bx hbx hgx
        have h8 := h6.new hbx hgx (.cells (Oc.l nilS .drop).toArray 34 (0, 0))
        ((try simp only [S, TY, reduceCtorEq, nq0, nq1, nq2, nq3, nq4, iq0, iq1, iq2, iq3, iq4, iq5, iq6, iq7, iq8, q3, q5, q11, q12, q15, q16, q17]); (try (simp (disch := omega) only [W2, Int.cast_ofNat_Int]; (try simp only [S, TY, reduceCtorEq, nq0, nq1, nq2, nq3, nq4, iq0, iq1, iq2, iq3, iq4, iq5, iq6, iq7, iq8, q3, q5, q11, q12, q15, q16, q17]))); repeat ((first | (refine cl_drawi 19 D4_19 ([0, 1, 2, 3, 4, 5, 6, 7, 9, 8, 10]) (by decide) (by kernel_rfl) ?_; unfold D4_19) | (refine cl_drawi 30 D4_30 (List.range 9) (by decide) (by kernel_rfl) ?_; unfold D4_30)); simp only [S, TY, reduceCtorEq, nq0, nq1, nq2, nq3, nq4, iq0, iq1, iq2, iq3, iq4, iq5, iq6, iq7, iq8, q3, q5, q11, q12, q15, q16, q17]; (try (simp (disch := omega) only [W2, Int.cast_ofNat_Int]; (try simp only [S, TY, reduceCtorEq, nq0, nq1, nq2, nq3, nq4, iq0, iq1, iq2, iq3, iq4, iq5, iq6, iq7, iq8, q3, q5, q11, q12, q15, q16, q17])))))
        refine sg.st h8 rfl rfl fun H9 h9 => ?_
        simp only [front_eq, fronts_nil, fronts_cons, List.getElem?_cons_zero, List.getElem?_cons_succ, List.eraseIdx_cons_zero, List.eraseIdx_cons_succ, List.cons_append, List.nil_append, putL_cons, putL_nil, List.set_cons_zero, List.set_cons_succ, Nat.reduceAdd] at h9
        have c9 := h9.c0
        have cp := (h9.front 6).c0
        have ca := (h9.front 10).c0
        have sb := rStr_of (P := Try.prog) (h9.rdsi 8 rfl Rd_own)
        have su := rStr_of (P := Try.prog) (h9.rdsi 3 rfl Rd_own)
        have w9 := h9.li 0 rfl
        ((try simp only [S, TY, reduceCtorEq, nq0, nq1, nq2, nq3, nq4, iq0, iq1, iq2, iq3, iq4, iq5, iq6, iq7, iq8, q3, q5, q11, q12, q15, q16, q17, c9, cp, ca, sb, su, w9, hid]); (try (simp (disch := omega) only [W2, Int.cast_ofNat_Int]; (try simp only [S, TY, reduceCtorEq, nq0, nq1, nq2, nq3, nq4, iq0, iq1, iq2, iq3, iq4, iq5, iq6, iq7, iq8, q3, q5, q11, q12, q15, q16, q17, c9, cp, ca, sb, su, w9, hid]))); repeat ((first | (refine cl_drawi 19 D4_19 ([0, 1, 2, 3, 4, 5, 6, 7, 9, 8, 10]) (by decide) (by kernel_rfl) ?_; unfold D4_19) | (refine cl_drawi 30 D4_30 (List.range 9) (by decide) (by kernel_rfl) ?_; unfold D4_30)); simp only [S, TY, reduceCtorEq, nq0, nq1, nq2, nq3, nq4, iq0, iq1, iq2, iq3, iq4, iq5, iq6, iq7, iq8, q3, q5, q11, q12, q15, q16, q17, c9, cp, ca, sb, su, w9, hid]; (try (simp (disch := omega) only [W2, Int.cast_ofNat_Int]; (try simp only [S, TY, reduceCtorEq, nq0, nq1, nq2, nq3, nq4, iq0, iq1, iq2, iq3, iq4, iq5, iq6, iq7, iq8, q3, q5, q11, q12, q15, q16, q17, c9, cp, ca, sb, su, w9, hid])))))
        refine sg.st (h9.front 7) rfl rfl fun H10 h10 => ?_
        simp only [front_eq, fronts_nil, fronts_cons, List.getElem?_cons_zero, List.getElem?_cons_succ, List.eraseIdx_cons_zero, List.eraseIdx_cons_succ, List.cons_append, List.nil_append, putL_cons, putL_nil, List.set_cons_zero, List.set_cons_succ, Nat.reduceAdd] at h10
        ((try simp only [S, TY, reduceCtorEq, nq0, nq1, nq2, nq3, nq4, iq0, iq1, iq2, iq3, iq4, iq5, iq6, iq7, iq8, q3, q5, q11, q12, q15, q16, q17]); (try (simp (disch := omega) only [W2, Int.cast_ofNat_Int]; (try simp only [S, TY, reduceCtorEq, nq0, nq1, nq2, nq3, nq4, iq0, iq1, iq2, iq3, iq4, iq5, iq6, iq7, iq8, q3, q5, q11, q12, q15, q16, q17]))); repeat ((first | (refine cl_drawi 19 D4_19 ([0, 1, 2, 3, 4, 5, 6, 7, 9, 8, 10]) (by decide) (by kernel_rfl) ?_; unfold D4_19) | (refine cl_drawi 30 D4_30 (List.range 9) (by decide) (by kernel_rfl) ?_; unfold D4_30)); simp only [S, TY, reduceCtorEq, nq0, nq1, nq2, nq3, nq4, iq0, iq1, iq2, iq3, iq4, iq5, iq6, iq7, iq8, q3, q5, q11, q12, q15, q16, q17]; (try (simp (disch := omega) only [W2, Int.cast_ofNat_Int]; (try simp only [S, TY, reduceCtorEq, nq0, nq1, nq2, nq3, nq4, iq0, iq1, iq2, iq3, iq4, iq5, iq6, iq7, iq8, q3, q5, q11, q12, q15, q16, q17])))))
        exact .go (1 + 1) (by decide) ⟨by decide, q3, q5, q11, q15, q16, rfl, .del p' g' g, _, _, _, ⟨hp1, by simp, hle⟩, rfl, ⟨h10.1, seps_take (B := [_, _, _, _, _, _]) (h10.fronts [0, 4, 1, 5, 5, 5]).2⟩⟩
      rw [hd] at hr
      obtain ⟨hne2, -⟩ | ⟨-, u', rfl, rfl⟩ := hr
      · cases hne2
      obtain ⟨ua', un', uc', rfl, _, _⟩ := h6.sl 0 rfl Rd_own
      simp only [front_eq, fronts_nil, fronts_cons, List.getElem?_cons_zero, List.getElem?_cons_succ, List.eraseIdx_cons_zero, List.eraseIdx_cons_succ, List.cons_append, List.nil_append, putL_cons, putL_nil, List.set_cons_zero, List.set_cons_succ, Nat.reduceAdd] at h6
      skip
      ((try simp only [S, TY, reduceCtorEq, nq0, nq1, nq2, nq3, nq4, iq0, iq1, iq2, iq3, iq4, iq5, iq6, iq7, iq8, q3, q5, q11, q12, q15, q16, q17]); (try (simp (disch := omega) only [W2, Int.cast_ofNat_Int]; (try simp only [S, TY, reduceCtorEq, nq0, nq1, nq2, nq3, nq4, iq0, iq1, iq2, iq3, iq4, iq5, iq6, iq7, iq8, q3, q5, q11, q12, q15, q16, q17]))); repeat ((first | (refine cl_drawi 19 D4_19 ([0, 1, 2, 3, 4, 5, 6, 7, 9, 8, 10]) (by decide) (by kernel_rfl) ?_; unfold D4_19) | (refine cl_drawi 30 D4_30 (List.range 9) (by decide) (by kernel_rfl) ?_; unfold D4_30)); simp only [S, TY, reduceCtorEq, nq0, nq1, nq2, nq3, nq4, iq0, iq1, iq2, iq3, iq4, iq5, iq6, iq7, iq8, q3, q5, q11, q12, q15, q16, q17]; (try (simp (disch := omega) only [W2, Int.cast_ofNat_Int]; (try simp only [S, TY, reduceCtorEq, nq0, nq1, nq2, nq3, nq4, iq0, iq1, iq2, iq3, iq4, iq5, iq6, iq7, iq8, q3, q5, q11, q12, q15, q16, q17])))))
      intro bx hbx hgx
      have h8 := h6.new hbx hgx (.cells (Oc.l nilS .drop).toArray 34 (0, 0))
      ((try simp only [S, TY, reduceCtorEq, nq0, nq1, nq2, nq3, nq4, iq0, iq1, iq2, iq3, iq4, iq5, iq6, iq7, iq8, q3, q5, q11, q12, q15, q16, q17]); (try (simp (disch := omega) only [W2, Int.cast_ofNat_Int]; (try simp only [S, TY, reduceCtorEq, nq0, nq1, nq2, nq3, nq4, iq0, iq1, iq2, iq3, iq4, iq5, iq6, iq7, iq8, q3, q5, q11, q12, q15, q16, q17]))); repeat ((first | (refine cl_drawi 19 D4_19 ([0, 1, 2, 3, 4, 5, 6, 7, 9, 8, 10]) (by decide) (by kernel_rfl) ?_; unfold D4_19) | (refine cl_drawi 30 D4_30 (List.range 9) (by decide) (by kernel_rfl) ?_; unfold D4_30)); simp only [S, TY, reduceCtorEq, nq0, nq1, nq2, nq3, nq4, iq0, iq1, iq2, iq3, iq4, iq5, iq6, iq7, iq8, q3, q5, q11, q12, q15, q16, q17]; (try (simp (disch := omega) only [W2, Int.cast_ofNat_Int]; (try simp only [S, TY, reduceCtorEq, nq0, nq1, nq2, nq3, nq4, iq0, iq1, iq2, iq3, iq4, iq5, iq6, iq7, iq8, q3, q5, q11, q12, q15, q16, q17])))))
      refine sg.st h8 rfl rfl fun H9 h9 => ?_
      simp only [front_eq, fronts_nil, fronts_cons, List.getElem?_cons_zero, List.getElem?_cons_succ, List.eraseIdx_cons_zero, List.eraseIdx_cons_succ, List.cons_append, List.nil_append, putL_cons, putL_nil, List.set_cons_zero, List.set_cons_succ, Nat.reduceAdd] at h9
      have c9 := h9.c0
      have cp := (h9.front 6).c0
      have ca := (h9.front 10).c0
      have sb := rStr_of (P := Try.prog) (h9.rdsi 8 rfl Rd_own)
      have su := rStr_of (P := Try.prog) (h9.rdsi 3 rfl Rd_own)
      have w9 := h9.li 0 rfl
      ((try simp only [S, TY, reduceCtorEq, nq0, nq1, nq2, nq3, nq4, iq0, iq1, iq2, iq3, iq4, iq5, iq6, iq7, iq8, q3, q5, q11, q12, q15, q16, q17, c9, cp, ca, sb, su, w9, hid]); (try (simp (disch := omega) only [W2, Int.cast_ofNat_Int]; (try simp only [S, TY, reduceCtorEq, nq0, nq1, nq2, nq3, nq4, iq0, iq1, iq2, iq3, iq4, iq5, iq6, iq7, iq8, q3, q5, q11, q12, q15, q16, q17, c9, cp, ca, sb, su, w9, hid]))); repeat ((first | (refine cl_drawi 19 D4_19 ([0, 1, 2, 3, 4, 5, 6, 7, 9, 8, 10]) (by decide) (by kernel_rfl) ?_; unfold D4_19) | (refine cl_drawi 30 D4_30 (List.range 9) (by decide) (by kernel_rfl) ?_; unfold D4_30)); simp only [S, TY, reduceCtorEq, nq0, nq1, nq2, nq3, nq4, iq0, iq1, iq2, iq3, iq4, iq5, iq6, iq7, iq8, q3, q5, q11, q12, q15, q16, q17, c9, cp, ca, sb, su, w9, hid]; (try (simp (disch := omega) only [W2, Int.cast_ofNat_Int]; (try simp only [S, TY, reduceCtorEq, nq0, nq1, nq2, nq3, nq4, iq0, iq1, iq2, iq3, iq4, iq5, iq6, iq7, iq8, q3, q5, q11, q12, q15, q16, q17, c9, cp, ca, sb, su, w9, hid])))))
      refine sg.st (h9.front 7) rfl rfl fun H10 h10 => ?_
      simp only [front_eq, fronts_nil, fronts_cons, List.getElem?_cons_zero, List.getElem?_cons_succ, List.eraseIdx_cons_zero, List.eraseIdx_cons_succ, List.cons_append, List.nil_append, putL_cons, putL_nil, List.set_cons_zero, List.set_cons_succ, Nat.reduceAdd] at h10
      ((try simp only [S, TY, reduceCtorEq, nq0, nq1, nq2, nq3, nq4, iq0, iq1, iq2, iq3, iq4, iq5, iq6, iq7, iq8, q3, q5, q11, q12, q15, q16, q17]); (try (simp (disch := omega) only [W2, Int.cast_ofNat_Int]; (try simp only [S, TY, reduceCtorEq, nq0, nq1, nq2, nq3, nq4, iq0, iq1, iq2, iq3, iq4, iq5, iq6, iq7, iq8, q3, q5, q11, q12, q15, q16, q17]))); repeat ((first | (refine cl_drawi 19 D4_19 ([0, 1, 2, 3, 4, 5, 6, 7, 9, 8, 10]) (by decide) (by kernel_rfl) ?_; unfold D4_19) | (refine cl_drawi 30 D4_30 (List.range 9) (by decide) (by kernel_rfl) ?_; unfold D4_30)); simp only [S, TY, reduceCtorEq, nq0, nq1, nq2, nq3, nq4, iq0, iq1, iq2, iq3, iq4, iq5, iq6, iq7, iq8, q3, q5, q11, q12, q15, q16, q17]; (try (simp (disch := omega) only [W2, Int.cast_ofNat_Int]; (try simp only [S, TY, reduceCtorEq, nq0, nq1, nq2, nq3, nq4, iq0, iq1, iq2, iq3, iq4, iq5, iq6, iq7, iq8, q3, q5, q11, q12, q15, q16, q17])))))
      exact .go 2 (by decide) ⟨by decide, q3, q5, q11, q15, q16, rfl, .snt 2 o t t' p' g' id, _, _, _, ⟨hp1, by simp, rfl, by rw [← hid]; exact hright, .inr ⟨rfl, rfl, rfl, ho⟩⟩, rfl, ⟨h10.1, seps_take (B := [_, _, _, _, _, _]) (h10.fronts [0, 4, 1, 5, 5, 5]).2⟩⟩
    · have hp2 : ([c, f] ++ [t]).Pairwise (fun a b => a ≠ b) := by
        have h1 := hne.1
        have h2 := hne.2 rfl
        simp at f1 ⊢
        omega
      have c0 := h.c0
      have d0 := h.li 0 rfl
      ((try simp only [S, TY, reduceCtorEq, nq0, nq1, nq2, nq3, nq4, iq0, iq1, iq2, iq3, iq4, iq5, iq6, iq7, iq8, q3, q5, q11, q12, q15, q16, q17, c0, d0]); (try (simp (disch := omega) only [W2, Int.cast_ofNat_Int]; (try simp only [S, TY, reduceCtorEq, nq0, nq1, nq2, nq3, nq4, iq0, iq1, iq2, iq3, iq4, iq5, iq6, iq7, iq8, q3, q5, q11, q12, q15, q16, q17, c0, d0]))); repeat ((first | (refine cl_drawi 19 D4_19 ([0, 1, 2, 3, 4, 5, 6, 7, 9, 8, 10]) (by decide) (by kernel_rfl) ?_; unfold D4_19) | (refine cl_drawi 30 D4_30 (List.range 9) (by decide) (by kernel_rfl) ?_; unfold D4_30)); simp only [S, TY, reduceCtorEq, nq0, nq1, nq2, nq3, nq4, iq0, iq1, iq2, iq3, iq4, iq5, iq6, iq7, iq8, q3, q5, q11, q12, q15, q16, q17, c0, d0]; (try (simp (disch := omega) only [W2, Int.cast_ofNat_Int]; (try simp only [S, TY, reduceCtorEq, nq0, nq1, nq2, nq3, nq4, iq0, iq1, iq2, iq3, iq4, iq5, iq6, iq7, iq8, q3, q5, q11, q12, q15, q16, q17, c0, d0])))))
      intro bp hbp hgp
      have h1 := h.new hbp hgp (.cells (pkl' 0 0 0 0 0 0 0 nilS).toArray 26 (0, 0))
      ((try simp only [S, TY, reduceCtorEq, nq0, nq1, nq2, nq3, nq4, iq0, iq1, iq2, iq3, iq4, iq5, iq6, iq7, iq8, q3, q5, q11, q12, q15, q16, q17]); (try (simp (disch := omega) only [W2, Int.cast_ofNat_Int]; (try simp only [S, TY, reduceCtorEq, nq0, nq1, nq2, nq3, nq4, iq0, iq1, iq2, iq3, iq4, iq5, iq6, iq7, iq8, q3, q5, q11, q12, q15, q16, q17]))); repeat ((first | (refine cl_drawi 19 D4_19 ([0, 1, 2, 3, 4, 5, 6, 7, 9, 8, 10]) (by decide) (by kernel_rfl) ?_; unfold D4_19) | (refine cl_drawi 30 D4_30 (List.range 9) (by decide) (by kernel_rfl) ?_; unfold D4_30)); simp only [S, TY, reduceCtorEq, nq0, nq1, nq2, nq3, nq4, iq0, iq1, iq2, iq3, iq4, iq5, iq6, iq7, iq8, q3, q5, q11, q12, q15, q16, q17]; (try (simp (disch := omega) only [W2, Int.cast_ofNat_Int]; (try simp only [S, TY, reduceCtorEq, nq0, nq1, nq2, nq3, nq4, iq0, iq1, iq2, iq3, iq4, iq5, iq6, iq7, iq8, q3, q5, q11, q12, q15, q16, q17])))))
      refine sg.st h1 rfl rfl fun H2 h2 => ?_
      simp only [front_eq, fronts_nil, fronts_cons, List.getElem?_cons_zero, List.getElem?_cons_succ, List.eraseIdx_cons_zero, List.eraseIdx_cons_succ, List.cons_append, List.nil_append, putL_cons, putL_nil, List.set_cons_zero, List.set_cons_succ, Nat.reduceAdd] at h2
      have c1 := h2.c0
      ((try simp only [S, TY, reduceCtorEq, nq0, nq1, nq2, nq3, nq4, iq0, iq1, iq2, iq3, iq4, iq5, iq6, iq7, iq8, q3, q5, q11, q12, q15, q16, q17, c1]); (try (simp (disch := omega) only [W2, Int.cast_ofNat_Int]; (try simp only [S, TY, reduceCtorEq, nq0, nq1, nq2, nq3, nq4, iq0, iq1, iq2, iq3, iq4, iq5, iq6, iq7, iq8, q3, q5, q11, q12, q15, q16, q17, c1]))); repeat ((first | (refine cl_drawi 19 D4_19 ([0, 1, 2, 3, 4, 5, 6, 7, 9, 8, 10]) (by decide) (by kernel_rfl) ?_; unfold D4_19) | (refine cl_drawi 30 D4_30 (List.range 9) (by decide) (by kernel_rfl) ?_; unfold D4_30)); simp only [S, TY, reduceCtorEq, nq0, nq1, nq2, nq3, nq4, iq0, iq1, iq2, iq3, iq4, iq5, iq6, iq7, iq8, q3, q5, q11, q12, q15, q16, q17, c1]; (try (simp (disch := omega) only [W2, Int.cast_ofNat_Int]; (try simp only [S, TY, reduceCtorEq, nq0, nq1, nq2, nq3, nq4, iq0, iq1, iq2, iq3, iq4, iq5, iq6, iq7, iq8, q3, q5, q11, q12, q15, q16, q17, c1])))))
      intro nv hnv hgv
      have h3 := h2.newsl (e := 3) (sz := 1) (n := 1) (xs := iv [t]) hnv hgv rfl
      ((try simp only [S, TY, reduceCtorEq, nq0, nq1, nq2, nq3, nq4, iq0, iq1, iq2, iq3, iq4, iq5, iq6, iq7, iq8, q3, q5, q11, q12, q15, q16, q17, c1]); (try (simp (disch := omega) only [W2, Int.cast_ofNat_Int]; (try simp only [S, TY, reduceCtorEq, nq0, nq1, nq2, nq3, nq4, iq0, iq1, iq2, iq3, iq4, iq5, iq6, iq7, iq8, q3, q5, q11, q12, q15, q16, q17, c1]))); repeat ((first | (refine cl_drawi 19 D4_19 ([0, 1, 2, 3, 4, 5, 6, 7, 9, 8, 10]) (by decide) (by kernel_rfl) ?_; unfold D4_19) | (refine cl_drawi 30 D4_30 (List.range 9) (by decide) (by kernel_rfl) ?_; unfold D4_30)); simp only [S, TY, reduceCtorEq, nq0, nq1, nq2, nq3, nq4, iq0, iq1, iq2, iq3, iq4, iq5, iq6, iq7, iq8, q3, q5, q11, q12, q15, q16, q17, c1]; (try (simp (disch := omega) only [W2, Int.cast_ofNat_Int]; (try simp only [S, TY, reduceCtorEq, nq0, nq1, nq2, nq3, nq4, iq0, iq1, iq2, iq3, iq4, iq5, iq6, iq7, iq8, q3, q5, q11, q12, q15, q16, q17, c1])))))
      refine append_sl (show apI Try.prog 57 = some (3, 1, 8) from by kernel_rfl) (show slIs Try.prog 57 = true from by kernel_rfl) (h3.front 3) (h3.rdsi 0 rfl Rd_own) (by simp [iv, Value.oneCell']) (by simp [iv]) fun vv2 H4 h4 => ?_
      obtain ⟨va2, vn2, vc2, rfl, _, _⟩ := h4.sl 0 rfl Rd_own
      simp only [front_eq, fronts_nil, fronts_cons, List.getElem?_cons_zero, List.getElem?_cons_succ, List.eraseIdx_cons_zero, List.eraseIdx_cons_succ, List.cons_append, List.nil_append, putL_cons, putL_nil, List.set_cons_zero, List.set_cons_succ, Nat.reduceAdd] at h4
      have c4 := (h4.front 2).c0
      have l4 := (h4.front 6).c0
      ((try simp only [S, TY, reduceCtorEq, nq0, nq1, nq2, nq3, nq4, iq0, iq1, iq2, iq3, iq4, iq5, iq6, iq7, iq8, q3, q5, q11, q12, q15, q16, q17, c4, l4]); (try (simp (disch := omega) only [W2, Int.cast_ofNat_Int]; (try simp only [S, TY, reduceCtorEq, nq0, nq1, nq2, nq3, nq4, iq0, iq1, iq2, iq3, iq4, iq5, iq6, iq7, iq8, q3, q5, q11, q12, q15, q16, q17, c4, l4]))); repeat ((first | (refine cl_drawi 19 D4_19 ([0, 1, 2, 3, 4, 5, 6, 7, 9, 8, 10]) (by decide) (by kernel_rfl) ?_; unfold D4_19) | (refine cl_drawi 30 D4_30 (List.range 9) (by decide) (by kernel_rfl) ?_; unfold D4_30)); simp only [S, TY, reduceCtorEq, nq0, nq1, nq2, nq3, nq4, iq0, iq1, iq2, iq3, iq4, iq5, iq6, iq7, iq8, q3, q5, q11, q12, q15, q16, q17, c4, l4]; (try (simp (disch := omega) only [W2, Int.cast_ofNat_Int]; (try simp only [S, TY, reduceCtorEq, nq0, nq1, nq2, nq3, nq4, iq0, iq1, iq2, iq3, iq4, iq5, iq6, iq7, iq8, q3, q5, q11, q12, q15, q16, q17, c4, l4])))))
      refine (Table_ok t hr2 hk2).at_ h4 [] _ rfl fun r B H5 hr h5 => ?_
      obtain ⟨pt, rfl, rfl⟩ := hr
      have hc := wayT_cases l2 t hx
      have hTl := comp_len t l2
      obtain ⟨T, hT⟩ : ∃ T, (l2).flatMap (comp t) = T := ⟨_, rfl⟩
      rw [hT] at hc h5 hTl
      simp only [front_eq, fronts_nil, fronts_cons, List.getElem?_cons_zero, List.getElem?_cons_succ, List.eraseIdx_cons_zero, List.eraseIdx_cons_succ, List.cons_append, List.nil_append, putL_cons, putL_nil, List.set_cons_zero, List.set_cons_succ, Nat.reduceAdd] at h5
      have c5 := (h5.front 3).c0
      have w5 := h5.li 3 rfl
      ((try simp only [S, TY, reduceCtorEq, nq0, nq1, nq2, nq3, nq4, iq0, iq1, iq2, iq3, iq4, iq5, iq6, iq7, iq8, q3, q5, q11, q12, q15, q16, q17, c5, w5]); (try (simp (disch := omega) only [W2, Int.cast_ofNat_Int]; (try simp only [S, TY, reduceCtorEq, nq0, nq1, nq2, nq3, nq4, iq0, iq1, iq2, iq3, iq4, iq5, iq6, iq7, iq8, q3, q5, q11, q12, q15, q16, q17, c5, w5]))); repeat ((first | (refine cl_drawi 19 D4_19 ([0, 1, 2, 3, 4, 5, 6, 7, 9, 8, 10]) (by decide) (by kernel_rfl) ?_; unfold D4_19) | (refine cl_drawi 30 D4_30 (List.range 9) (by decide) (by kernel_rfl) ?_; unfold D4_30)); simp only [S, TY, reduceCtorEq, nq0, nq1, nq2, nq3, nq4, iq0, iq1, iq2, iq3, iq4, iq5, iq6, iq7, iq8, q3, q5, q11, q12, q15, q16, q17, c5, w5]; (try (simp (disch := omega) only [W2, Int.cast_ofNat_Int]; (try simp only [S, TY, reduceCtorEq, nq0, nq1, nq2, nq3, nq4, iq0, iq1, iq2, iq3, iq4, iq5, iq6, iq7, iq8, q3, q5, q11, q12, q15, q16, q17, c5, w5])))))
      refine Con.lend_at [tb pt T] [own 5 1 _ (bv E)] h5 [0, 4] rfl (fun F hF hs => DpU.Tunnel_ok (t := T) ⟨2, o, f, t, p, g, id', E⟩ (seps_own hs 0 rfl).left hE (by omega) t) fun r B H6 hr h6 => ?_
      unfold DpU.TuR at hr
      rw [if_pos ⟨hx, rfl⟩] at hr
      obtain ⟨rv, rfl, hr⟩ := hr
      rcases hc with hd | ⟨p', g', hd, hle⟩ | ⟨t', p', g', hd, hk1', hright⟩
      · rw [hd] at hr
        obtain ⟨-, rfl, rfl⟩ | ⟨hne, -⟩ := hr
        rotate_left
        · exact absurd rfl hne
        simp only [front_eq, fronts_nil, fronts_cons, List.getElem?_cons_zero, List.getElem?_cons_succ, List.eraseIdx_cons_zero, List.eraseIdx_cons_succ, List.cons_append, List.nil_append, putL_cons, putL_nil, List.set_cons_zero, List.set_cons_succ, Nat.reduceAdd] at h6
        ((try simp only [S, TY, reduceCtorEq, nq0, nq1, nq2, nq3, nq4, iq0, iq1, iq2, iq3, iq4, iq5, iq6, iq7, iq8, q3, q5, q11, q12, q15, q16, q17]); (try (simp (disch := omega) only [W2, Int.cast_ofNat_Int]; (try simp only [S, TY, reduceCtorEq, nq0, nq1, nq2, nq3, nq4, iq0, iq1, iq2, iq3, iq4, iq5, iq6, iq7, iq8, q3, q5, q11, q12, q15, q16, q17]))); repeat ((first | (refine cl_drawi 19 D4_19 ([0, 1, 2, 3, 4, 5, 6, 7, 9, 8, 10]) (by decide) (by kernel_rfl) ?_; unfold D4_19) | (refine cl_drawi 30 D4_30 (List.range 9) (by decide) (by kernel_rfl) ?_; unfold D4_30)); simp only [S, TY, reduceCtorEq, nq0, nq1, nq2, nq3, nq4, iq0, iq1, iq2, iq3, iq4, iq5, iq6, iq7, iq8, q3, q5, q11, q12, q15, q16, q17]; (try (simp (disch := omega) only [W2, Int.cast_ofNat_Int]; (try simp only [S, TY, reduceCtorEq, nq0, nq1, nq2, nq3, nq4, iq0, iq1, iq2, iq3, iq4, iq5, iq6, iq7, iq8, q3, q5, q11, q12, q15, q16, q17])))))
        intro bx hbx hgx
        have h8 := h6.new hbx hgx (.cells (Oc.l nilS .drop).toArray 34 (0, 0))
        ((try simp only [S, TY, reduceCtorEq, nq0, nq1, nq2, nq3, nq4, iq0, iq1, iq2, iq3, iq4, iq5, iq6, iq7, iq8, q3, q5, q11, q12, q15, q16, q17]); (try (simp (disch := omega) only [W2, Int.cast_ofNat_Int]; (try simp only [S, TY, reduceCtorEq, nq0, nq1, nq2, nq3, nq4, iq0, iq1, iq2, iq3, iq4, iq5, iq6, iq7, iq8, q3, q5, q11, q12, q15, q16, q17]))); repeat ((first | (refine cl_drawi 19 D4_19 ([0, 1, 2, 3, 4, 5, 6, 7, 9, 8, 10]) (by decide) (by kernel_rfl) ?_; unfold D4_19) | (refine cl_drawi 30 D4_30 (List.range 9) (by decide) (by kernel_rfl) ?_; unfold D4_30)); simp only [S, TY, reduceCtorEq, nq0, nq1, nq2, nq3, nq4, iq0, iq1, iq2, iq3, iq4, iq5, iq6, iq7, iq8, q3, q5, q11, q12, q15, q16, q17]; (try (simp (disch := omega) only [W2, Int.cast_ofNat_Int]; (try simp only [S, TY, reduceCtorEq, nq0, nq1, nq2, nq3, nq4, iq0, iq1, iq2, iq3, iq4, iq5, iq6, iq7, iq8, q3, q5, q11, q12, q15, q16, q17])))))
        refine sg.st h8 rfl rfl fun H9 h9 => ?_
        simp only [front_eq, fronts_nil, fronts_cons, List.getElem?_cons_zero, List.getElem?_cons_succ, List.eraseIdx_cons_zero, List.eraseIdx_cons_succ, List.cons_append, List.nil_append, putL_cons, putL_nil, List.set_cons_zero, List.set_cons_succ, Nat.reduceAdd] at h9
        have c9 := h9.c0
        have cp := (h9.front 5).c0
        have ca := (h9.front 9).c0
        have sb := rStr_of (P := Try.prog) (h9.rdsi 7 rfl Rd_own)
        have su := rStr_of (P := Try.prog) (h9.rdsi 2 rfl Rd_own)
        have w9 := h9.li 0 rfl
        ((try simp only [S, TY, reduceCtorEq, nq0, nq1, nq2, nq3, nq4, iq0, iq1, iq2, iq3, iq4, iq5, iq6, iq7, iq8, q3, q5, q11, q12, q15, q16, q17, c9, cp, ca, sb, su, w9, hid]); (try (simp (disch := omega) only [W2, Int.cast_ofNat_Int]; (try simp only [S, TY, reduceCtorEq, nq0, nq1, nq2, nq3, nq4, iq0, iq1, iq2, iq3, iq4, iq5, iq6, iq7, iq8, q3, q5, q11, q12, q15, q16, q17, c9, cp, ca, sb, su, w9, hid]))); repeat ((first | (refine cl_drawi 19 D4_19 ([0, 1, 2, 3, 4, 5, 6, 7, 9, 8, 10]) (by decide) (by kernel_rfl) ?_; unfold D4_19) | (refine cl_drawi 30 D4_30 (List.range 9) (by decide) (by kernel_rfl) ?_; unfold D4_30)); simp only [S, TY, reduceCtorEq, nq0, nq1, nq2, nq3, nq4, iq0, iq1, iq2, iq3, iq4, iq5, iq6, iq7, iq8, q3, q5, q11, q12, q15, q16, q17, c9, cp, ca, sb, su, w9, hid]; (try (simp (disch := omega) only [W2, Int.cast_ofNat_Int]; (try simp only [S, TY, reduceCtorEq, nq0, nq1, nq2, nq3, nq4, iq0, iq1, iq2, iq3, iq4, iq5, iq6, iq7, iq8, q3, q5, q11, q12, q15, q16, q17, c9, cp, ca, sb, su, w9, hid])))))
        refine sg.st (h9.front 6) rfl rfl fun H10 h10 => ?_
        simp only [front_eq, fronts_nil, fronts_cons, List.getElem?_cons_zero, List.getElem?_cons_succ, List.eraseIdx_cons_zero, List.eraseIdx_cons_succ, List.cons_append, List.nil_append, putL_cons, putL_nil, List.set_cons_zero, List.set_cons_succ, Nat.reduceAdd] at h10
        ((try simp only [S, TY, reduceCtorEq, nq0, nq1, nq2, nq3, nq4, iq0, iq1, iq2, iq3, iq4, iq5, iq6, iq7, iq8, q3, q5, q11, q12, q15, q16, q17]); (try (simp (disch := omega) only [W2, Int.cast_ofNat_Int]; (try simp only [S, TY, reduceCtorEq, nq0, nq1, nq2, nq3, nq4, iq0, iq1, iq2, iq3, iq4, iq5, iq6, iq7, iq8, q3, q5, q11, q12, q15, q16, q17]))); repeat ((first | (refine cl_drawi 19 D4_19 ([0, 1, 2, 3, 4, 5, 6, 7, 9, 8, 10]) (by decide) (by kernel_rfl) ?_; unfold D4_19) | (refine cl_drawi 30 D4_30 (List.range 9) (by decide) (by kernel_rfl) ?_; unfold D4_30)); simp only [S, TY, reduceCtorEq, nq0, nq1, nq2, nq3, nq4, iq0, iq1, iq2, iq3, iq4, iq5, iq6, iq7, iq8, q3, q5, q11, q12, q15, q16, q17]; (try (simp (disch := omega) only [W2, Int.cast_ofNat_Int]; (try simp only [S, TY, reduceCtorEq, nq0, nq1, nq2, nq3, nq4, iq0, iq1, iq2, iq3, iq4, iq5, iq6, iq7, iq8, q3, q5, q11, q12, q15, q16, q17])))))
        exact .go (2 + 1) (by decide) ⟨by decide, q3, q5, q11, q15, q16, rfl, .drop, _, _, _, ⟨hp2, by simp, trivial⟩, rfl, ⟨h10.1, seps_take (B := [_, _, _, _, _, _]) (h10.fronts [0, 3, 2, 4, 4, 4]).2⟩⟩
      · rw [hd] at hr
        obtain ⟨hne, -⟩ | ⟨-, u', rfl, rfl⟩ := hr
        · cases hne
        obtain ⟨ua', un', uc', rfl, _, _⟩ := h6.sl 0 rfl Rd_own
        simp only [front_eq, fronts_nil, fronts_cons, List.getElem?_cons_zero, List.getElem?_cons_succ, List.eraseIdx_cons_zero, List.eraseIdx_cons_succ, List.cons_append, List.nil_append, putL_cons, putL_nil, List.set_cons_zero, List.set_cons_succ, Nat.reduceAdd] at h6
        ((try simp only [S, TY, reduceCtorEq, nq0, nq1, nq2, nq3, nq4, iq0, iq1, iq2, iq3, iq4, iq5, iq6, iq7, iq8, q3, q5, q11, q12, q15, q16, q17]); (try (simp (disch := omega) only [W2, Int.cast_ofNat_Int]; (try simp only [S, TY, reduceCtorEq, nq0, nq1, nq2, nq3, nq4, iq0, iq1, iq2, iq3, iq4, iq5, iq6, iq7, iq8, q3, q5, q11, q12, q15, q16, q17]))); repeat ((first | (refine cl_drawi 19 D4_19 ([0, 1, 2, 3, 4, 5, 6, 7, 9, 8, 10]) (by decide) (by kernel_rfl) ?_; unfold D4_19) | (refine cl_drawi 30 D4_30 (List.range 9) (by decide) (by kernel_rfl) ?_; unfold D4_30)); simp only [S, TY, reduceCtorEq, nq0, nq1, nq2, nq3, nq4, iq0, iq1, iq2, iq3, iq4, iq5, iq6, iq7, iq8, q3, q5, q11, q12, q15, q16, q17]; (try (simp (disch := omega) only [W2, Int.cast_ofNat_Int]; (try simp only [S, TY, reduceCtorEq, nq0, nq1, nq2, nq3, nq4, iq0, iq1, iq2, iq3, iq4, iq5, iq6, iq7, iq8, q3, q5, q11, q12, q15, q16, q17])))))
        intro bx hbx hgx
        have h8 := h6.new hbx hgx (.cells (Oc.l nilS .drop).toArray 34 (0, 0))
        ((try simp only [S, TY, reduceCtorEq, nq0, nq1, nq2, nq3, nq4, iq0, iq1, iq2, iq3, iq4, iq5, iq6, iq7, iq8, q3, q5, q11, q12, q15, q16, q17]); (try (simp (disch := omega) only [W2, Int.cast_ofNat_Int]; (try simp only [S, TY, reduceCtorEq, nq0, nq1, nq2, nq3, nq4, iq0, iq1, iq2, iq3, iq4, iq5, iq6, iq7, iq8, q3, q5, q11, q12, q15, q16, q17]))); repeat ((first | (refine cl_drawi 19 D4_19 ([0, 1, 2, 3, 4, 5, 6, 7, 9, 8, 10]) (by decide) (by kernel_rfl) ?_; unfold D4_19) | (refine cl_drawi 30 D4_30 (List.range 9) (by decide) (by kernel_rfl) ?_; unfold D4_30)); simp only [S, TY, reduceCtorEq, nq0, nq1, nq2, nq3, nq4, iq0, iq1, iq2, iq3, iq4, iq5, iq6, iq7, iq8, q3, q5, q11, q12, q15, q16, q17]; (try (simp (disch := omega) only [W2, Int.cast_ofNat_Int]; (try simp only [S, TY, reduceCtorEq, nq0, nq1, nq2, nq3, nq4, iq0, iq1, iq2, iq3, iq4, iq5, iq6, iq7, iq8, q3, q5, q11, q12, q15, q16, q17])))))
        refine sg.st h8 rfl rfl fun H9 h9 => ?_
        simp only [front_eq, fronts_nil, fronts_cons, List.getElem?_cons_zero, List.getElem?_cons_succ, List.eraseIdx_cons_zero, List.eraseIdx_cons_succ, List.cons_append, List.nil_append, putL_cons, putL_nil, List.set_cons_zero, List.set_cons_succ, Nat.reduceAdd] at h9
        have c9 := h9.c0
        have cp := (h9.front 6).c0
        have ca := (h9.front 10).c0
        have sb := rStr_of (P := Try.prog) (h9.rdsi 8 rfl Rd_own)
        have su := rStr_of (P := Try.prog) (h9.rdsi 3 rfl Rd_own)
        have w9 := h9.li 0 rfl
        ((try simp only [S, TY, reduceCtorEq, nq0, nq1, nq2, nq3, nq4, iq0, iq1, iq2, iq3, iq4, iq5, iq6, iq7, iq8, q3, q5, q11, q12, q15, q16, q17, c9, cp, ca, sb, su, w9, hid]); (try (simp (disch := omega) only [W2, Int.cast_ofNat_Int]; (try simp only [S, TY, reduceCtorEq, nq0, nq1, nq2, nq3, nq4, iq0, iq1, iq2, iq3, iq4, iq5, iq6, iq7, iq8, q3, q5, q11, q12, q15, q16, q17, c9, cp, ca, sb, su, w9, hid]))); repeat ((first | (refine cl_drawi 19 D4_19 ([0, 1, 2, 3, 4, 5, 6, 7, 9, 8, 10]) (by decide) (by kernel_rfl) ?_; unfold D4_19) | (refine cl_drawi 30 D4_30 (List.range 9) (by decide) (by kernel_rfl) ?_; unfold D4_30)); simp only [S, TY, reduceCtorEq, nq0, nq1, nq2, nq3, nq4, iq0, iq1, iq2, iq3, iq4, iq5, iq6, iq7, iq8, q3, q5, q11, q12, q15, q16, q17, c9, cp, ca, sb, su, w9, hid]; (try (simp (disch := omega) only [W2, Int.cast_ofNat_Int]; (try simp only [S, TY, reduceCtorEq, nq0, nq1, nq2, nq3, nq4, iq0, iq1, iq2, iq3, iq4, iq5, iq6, iq7, iq8, q3, q5, q11, q12, q15, q16, q17, c9, cp, ca, sb, su, w9, hid])))))
        refine sg.st (h9.front 7) rfl rfl fun H10 h10 => ?_
        simp only [front_eq, fronts_nil, fronts_cons, List.getElem?_cons_zero, List.getElem?_cons_succ, List.eraseIdx_cons_zero, List.eraseIdx_cons_succ, List.cons_append, List.nil_append, putL_cons, putL_nil, List.set_cons_zero, List.set_cons_succ, Nat.reduceAdd] at h10
        ((try simp only [S, TY, reduceCtorEq, nq0, nq1, nq2, nq3, nq4, iq0, iq1, iq2, iq3, iq4, iq5, iq6, iq7, iq8, q3, q5, q11, q12, q15, q16, q17]); (try (simp (disch := omega) only [W2, Int.cast_ofNat_Int]; (try simp only [S, TY, reduceCtorEq, nq0, nq1, nq2, nq3, nq4, iq0, iq1, iq2, iq3, iq4, iq5, iq6, iq7, iq8, q3, q5, q11, q12, q15, q16, q17]))); repeat ((first | (refine cl_drawi 19 D4_19 ([0, 1, 2, 3, 4, 5, 6, 7, 9, 8, 10]) (by decide) (by kernel_rfl) ?_; unfold D4_19) | (refine cl_drawi 30 D4_30 (List.range 9) (by decide) (by kernel_rfl) ?_; unfold D4_30)); simp only [S, TY, reduceCtorEq, nq0, nq1, nq2, nq3, nq4, iq0, iq1, iq2, iq3, iq4, iq5, iq6, iq7, iq8, q3, q5, q11, q12, q15, q16, q17]; (try (simp (disch := omega) only [W2, Int.cast_ofNat_Int]; (try simp only [S, TY, reduceCtorEq, nq0, nq1, nq2, nq3, nq4, iq0, iq1, iq2, iq3, iq4, iq5, iq6, iq7, iq8, q3, q5, q11, q12, q15, q16, q17])))))
        exact .go (2 + 1) (by decide) ⟨by decide, q3, q5, q11, q15, q16, rfl, .del p' g' g, _, _, _, ⟨hp2, by simp, hle⟩, rfl, ⟨h10.1, seps_take (B := [_, _, _, _, _, _]) (h10.fronts [0, 4, 1, 5, 5, 5]).2⟩⟩
      rw [hd] at hr
      obtain ⟨hne2, -⟩ | ⟨-, u', rfl, rfl⟩ := hr
      · cases hne2
      obtain ⟨ua', un', uc', rfl, _, _⟩ := h6.sl 0 rfl Rd_own
      simp only [front_eq, fronts_nil, fronts_cons, List.getElem?_cons_zero, List.getElem?_cons_succ, List.eraseIdx_cons_zero, List.eraseIdx_cons_succ, List.cons_append, List.nil_append, putL_cons, putL_nil, List.set_cons_zero, List.set_cons_succ, Nat.reduceAdd] at h6
      exact absurd (show (2 : Int) = 1 from hk1') (by decide)
theorem tail_loop {G : Hp} {vis : List Int} {va : Option Addr} {vc : Nat} (hp : vis.Pairwise (fun a b => a ≠ b)) (hl : vis.length ≤ 3) {Q : Post} {e : Env} {H : Hp} (q12 : e 12 = .slice va vis.length vc) (q23 : e 23 = .int .i64 0)
    (hv : rds (H.un G) 1 (.slice va vis.length vc) (iv vis)) (hQ : ∀ e' : Env, e' 5 = e 5 → e' 11 = e 11 → e' 15 = e 15 → e' 16 = e 16 → Q (.exit 4) e' H) : cl Try.prog G (.loop (((Go.Code.region 25 #[{ dst := some 158, op := Go.Op.move (Go.Operand.tmp 23), type := 3, pos := "law.go:97", after := #[], guard := none }, { dst := some 159, op := Go.Op.move (Go.Operand.tmp 12), type := 57, pos := "law.go:97", after := #[], guard := none }, { dst := some 160, op := Go.Op.call { callee := Go.Callee.builtin Go.Builtin.len, args := #[Go.Operand.tmp 159], argTypes := #[57] }, type := 3, pos := "law.go:97", after := #[{ on := 1, ground := Go.Ground.data }], guard := none }, { dst := some 161, op := Go.Op.binOp Go.BinOp.lss 3 (Go.Operand.tmp 158) (Go.Operand.tmp 160) 3, type := 4, pos := "law.go:97", after := #[{ on := 0, ground := Go.Ground.data }, { on := 2, ground := Go.Ground.data }], guard := none }] false).seq (Go.Code.cond (Go.Operand.tmp 161) Go.Code.skip (Go.Code.exit 4))).seq ((Go.Code.block 5 ((Go.Code.region 27 #[{ dst := some 24, op := Go.Op.assign (Go.Operand.const (Go.Value.int Go.IntKind.i64 0)), type := 3, pos := "law.go:98", after := #[], guard := none }] false).seq (Go.Code.block 6 (((Go.Code.region 28 #[{ dst := some 164, op := Go.Op.move (Go.Operand.tmp 24), type := 3, pos := "law.go:98", after := #[], guard := none }, { dst := some 165, op := Go.Op.move (Go.Operand.tmp 23), type := 3, pos := "law.go:98", after := #[], guard := none }, { dst := some 166, op := Go.Op.binOp Go.BinOp.lss 3 (Go.Operand.tmp 164) (Go.Operand.tmp 165) 3, type := 4, pos := "law.go:98", after := #[{ on := 0, ground := Go.Ground.data }, { on := 1, ground := Go.Ground.data }], guard := none }] false).seq (Go.Code.cond (Go.Operand.tmp 166) Go.Code.skip (Go.Code.exit 6))).seq ((Go.Code.block 7 ((Go.Code.region 30 #[{ dst := some 169, op := Go.Op.move (Go.Operand.tmp 12), type := 57, pos := "law.go:99", after := #[], guard := none }, { dst := some 170, op := Go.Op.move (Go.Operand.tmp 23), type := 3, pos := "law.go:99", after := #[], guard := none }, { dst := some 171, op := Go.Op.indexAddr 57 (Go.Operand.tmp 169) (Go.Operand.tmp 170), type := 0, pos := "law.go:99", after := #[{ on := 0, ground := Go.Ground.data }, { on := 1, ground := Go.Ground.data }], guard := none }, { dst := some 172, op := Go.Op.load 3 (Go.Operand.tmp 171), type := 3, pos := "law.go:99", after := #[{ on := 2, ground := Go.Ground.data }], guard := none }, { dst := some 173, op := Go.Op.move (Go.Operand.tmp 12), type := 57, pos := "law.go:99", after := #[], guard := none }, { dst := some 174, op := Go.Op.move (Go.Operand.tmp 24), type := 3, pos := "law.go:99", after := #[], guard := none }, { dst := some 175, op := Go.Op.indexAddr 57 (Go.Operand.tmp 173) (Go.Operand.tmp 174), type := 0, pos := "law.go:99", after := #[{ on := 4, ground := Go.Ground.data }, { on := 5, ground := Go.Ground.data }], guard := none }, { dst := some 176, op := Go.Op.load 3 (Go.Operand.tmp 175), type := 3, pos := "law.go:99", after := #[{ on := 6, ground := Go.Ground.data }], guard := none }, { dst := some 177, op := Go.Op.binOp Go.BinOp.eql 3 (Go.Operand.tmp 172) (Go.Operand.tmp 176) 3, type := 4, pos := "law.go:99", after := #[{ on := 3, ground := Go.Ground.data }, { on := 7, ground := Go.Ground.data }], guard := none }] true).seq (Go.Code.cond (Go.Operand.tmp 177) ((Go.Code.region 31 #[{ dst := some 6, op := Go.Op.assign (Go.Operand.const (Go.Value.bool false)), type := 4, pos := "law.go:100", after := #[], guard := none }] false).seq Go.Code.ret) Go.Code.skip))).seq (Go.Code.region 29 #[{ dst := some 167, op := Go.Op.move (Go.Operand.tmp 24), type := 3, pos := "law.go:98", after := #[], guard := none }, { dst := some 168, op := Go.Op.binOp Go.BinOp.add 3 (Go.Operand.tmp 167) (Go.Operand.const (Go.Value.int Go.IntKind.i64 1)) 3, type := 3, pos := "law.go:98", after := #[{ on := 0, ground := Go.Ground.data }], guard := none }, { dst := some 24, op := Go.Op.assign (Go.Operand.tmp 168), type := 3, pos := "law.go:98", after := #[{ on := 1, ground := Go.Ground.data }, { on := 0, ground := Go.Ground.phase }, { on := 1, ground := Go.Ground.phase }], guard := none }] false))).loop))).seq (Go.Code.region 26 #[{ dst := some 162, op := Go.Op.move (Go.Operand.tmp 23), type := 3, pos := "law.go:97", after := #[], guard := none }, { dst := some 163, op := Go.Op.binOp Go.BinOp.add 3 (Go.Operand.tmp 162) (Go.Operand.const (Go.Value.int Go.IntKind.i64 1)) 3, type := 3, pos := "law.go:97", after := #[{ on := 0, ground := Go.Ground.data }], guard := none }, { dst := some 23, op := Go.Op.assign (Go.Operand.tmp 163), type := 3, pos := "law.go:97", after := #[{ on := 1, ground := Go.Ground.data }, { on := 0, ground := Go.Ground.phase }, { on := 1, ground := Go.Ground.phase }], guard := none }] false)))) Q e H := by
  have cat : ∀ i : Nat, (hi : i < vis.length) → ∃ b off, va = some ⟨b, off, none⟩ ∧ (H.un G).cell ⟨b, off + i, none⟩ = some (.int .i64 vis[i]) := by
    intro i hi
    obtain ⟨b, off, hb, c1⟩ := hv.at1 (i := i) hi
    refine ⟨b, off, hb, ?_⟩
    rw [c1]
    unfold iv
    rw [List.getElem?_map, List.getElem?_eq_getElem hi]; rfl
  refine cl_loop (fun i e' H' => H' = H ∧ i ≤ vis.length ∧ e' 12 = .slice va vis.length vc ∧ e' 23 = .int .i64 (i : Nat) ∧ e' 5 = e 5 ∧ e' 11 = e 11 ∧ e' 15 = e 15 ∧ e' 16 = e 16) (fun i : Nat => vis.length - i) 0
    ⟨rfl, by omega, q12, q23, rfl, rfl, rfl, rfl⟩ ?_
  clear q12 q23
  rintro i e1 H1 ⟨rfl, q1, q12, q23, q5, q11, q15, q16⟩
  by_cases g1 : (i : Int) < vis.length
  · have hi : i < vis.length := by omega
    ((try simp only [S, TY, reduceCtorEq, nq0, nq1, nq2, nq3, nq4, iq0, iq1, iq2, iq3, iq4, iq5, iq6, iq7, iq8, q12, q23, g1]); (try (simp (disch := omega) only [W2, Int.cast_ofNat_Int]; (try simp only [S, TY, reduceCtorEq, nq0, nq1, nq2, nq3, nq4, iq0, iq1, iq2, iq3, iq4, iq5, iq6, iq7, iq8, q12, q23, g1]))); repeat ((first | (refine cl_drawi 19 D4_19 ([0, 1, 2, 3, 4, 5, 6, 7, 9, 8, 10]) (by decide) (by kernel_rfl) ?_; unfold D4_19) | (refine cl_drawi 30 D4_30 (List.range 9) (by decide) (by kernel_rfl) ?_; unfold D4_30)); simp only [S, TY, reduceCtorEq, nq0, nq1, nq2, nq3, nq4, iq0, iq1, iq2, iq3, iq4, iq5, iq6, iq7, iq8, q12, q23, g1]; (try (simp (disch := omega) only [W2, Int.cast_ofNat_Int]; (try simp only [S, TY, reduceCtorEq, nq0, nq1, nq2, nq3, nq4, iq0, iq1, iq2, iq3, iq4, iq5, iq6, iq7, iq8, q12, q23, g1])))))
    refine cl_loop (fun k e' H' => H' = H1 ∧ k ≤ i ∧ e' 12 = .slice va vis.length vc ∧ e' 23 = .int .i64 (i : Nat) ∧ e' 24 = .int .i64 (k : Nat) ∧ e' 5 = e 5 ∧ e' 11 = e 11 ∧ e' 15 = e 15 ∧ e' 16 = e 16) (fun k : Nat => i - k) 0
      ⟨rfl, by omega, q12, q23, rfl, q5, q11, q15, q16⟩ ?_
    clear q12 q23 q5 q11 q15 q16 e1
    rintro k e1 H2 ⟨rfl, q2, q12, q23, q24, q5, q11, q15, q16⟩
    by_cases g2 : (k : Int) < i
    · have hk : k < vis.length := by omega
      obtain ⟨b, off, rfl, c1⟩ := cat i hi
      obtain ⟨b', off', hb, c2⟩ := cat k hk
      cases hb
      have g3 : (0 : Int) ≤ i ∧ (i : Int) < vis.length := by omega
      have g4 : (0 : Int) ≤ k ∧ (k : Int) < vis.length := by omega
      have hne : ¬ vis[i] = vis[k] := fun z => List.pairwise_iff_getElem.1 hp k i hk hi (by omega) z.symm
      ((try simp only [S, TY, reduceCtorEq, nq0, nq1, nq2, nq3, nq4, iq0, iq1, iq2, iq3, iq4, iq5, iq6, iq7, iq8, q12, q23, q24, g2, g3, g4, c1, c2, hne]); (try (simp (disch := omega) only [W2, Int.cast_ofNat_Int]; (try simp only [S, TY, reduceCtorEq, nq0, nq1, nq2, nq3, nq4, iq0, iq1, iq2, iq3, iq4, iq5, iq6, iq7, iq8, q12, q23, q24, g2, g3, g4, c1, c2, hne]))); repeat ((first | (refine cl_drawi 19 D4_19 ([0, 1, 2, 3, 4, 5, 6, 7, 9, 8, 10]) (by decide) (by kernel_rfl) ?_; unfold D4_19) | (refine cl_drawi 30 D4_30 (List.range 9) (by decide) (by kernel_rfl) ?_; unfold D4_30)); simp only [S, TY, reduceCtorEq, nq0, nq1, nq2, nq3, nq4, iq0, iq1, iq2, iq3, iq4, iq5, iq6, iq7, iq8, q12, q23, q24, g2, g3, g4, c1, c2, hne]; (try (simp (disch := omega) only [W2, Int.cast_ofNat_Int]; (try simp only [S, TY, reduceCtorEq, nq0, nq1, nq2, nq3, nq4, iq0, iq1, iq2, iq3, iq4, iq5, iq6, iq7, iq8, q12, q23, q24, g2, g3, g4, c1, c2, hne])))))
      exact .go (k + 1) (by omega) ⟨rfl, by omega, q12, q23, rfl, q5, q11, q15, q16⟩
    · ((try simp only [S, TY, reduceCtorEq, nq0, nq1, nq2, nq3, nq4, iq0, iq1, iq2, iq3, iq4, iq5, iq6, iq7, iq8, q12, q23, q24, g2]); (try (simp (disch := omega) only [W2, Int.cast_ofNat_Int]; (try simp only [S, TY, reduceCtorEq, nq0, nq1, nq2, nq3, nq4, iq0, iq1, iq2, iq3, iq4, iq5, iq6, iq7, iq8, q12, q23, q24, g2]))); repeat ((first | (refine cl_drawi 19 D4_19 ([0, 1, 2, 3, 4, 5, 6, 7, 9, 8, 10]) (by decide) (by kernel_rfl) ?_; unfold D4_19) | (refine cl_drawi 30 D4_30 (List.range 9) (by decide) (by kernel_rfl) ?_; unfold D4_30)); simp only [S, TY, reduceCtorEq, nq0, nq1, nq2, nq3, nq4, iq0, iq1, iq2, iq3, iq4, iq5, iq6, iq7, iq8, q12, q23, q24, g2]; (try (simp (disch := omega) only [W2, Int.cast_ofNat_Int]; (try simp only [S, TY, reduceCtorEq, nq0, nq1, nq2, nq3, nq4, iq0, iq1, iq2, iq3, iq4, iq5, iq6, iq7, iq8, q12, q23, q24, g2])))))
      exact .go (i + 1) (by omega) ⟨rfl, by omega, q12, rfl, q5, q11, q15, q16⟩
  · ((try simp only [S, TY, reduceCtorEq, nq0, nq1, nq2, nq3, nq4, iq0, iq1, iq2, iq3, iq4, iq5, iq6, iq7, iq8, q12, q23, g1]); (try (simp (disch := omega) only [W2, Int.cast_ofNat_Int]; (try simp only [S, TY, reduceCtorEq, nq0, nq1, nq2, nq3, nq4, iq0, iq1, iq2, iq3, iq4, iq5, iq6, iq7, iq8, q12, q23, g1]))); repeat ((first | (refine cl_drawi 19 D4_19 ([0, 1, 2, 3, 4, 5, 6, 7, 9, 8, 10]) (by decide) (by kernel_rfl) ?_; unfold D4_19) | (refine cl_drawi 30 D4_30 (List.range 9) (by decide) (by kernel_rfl) ?_; unfold D4_30)); simp only [S, TY, reduceCtorEq, nq0, nq1, nq2, nq3, nq4, iq0, iq1, iq2, iq3, iq4, iq5, iq6, iq7, iq8, q12, q23, g1]; (try (simp (disch := omega) only [W2, Int.cast_ofNat_Int]; (try simp only [S, TY, reduceCtorEq, nq0, nq1, nq2, nq3, nq4, iq0, iq1, iq2, iq3, iq4, iq5, iq6, iq7, iq8, q12, q23, g1])))))
    exact hQ _ q5 q11 q15 q16
theorem iv_length (l : List Int) : (iv l).length = l.length := by unfold iv; simp
theorem enc_le {d s ty : Int} {l : List UInt8} (hd : 0 ≤ d) (hs : 0 ≤ s) (h : Eth.right d s ty l.length = true) : (enc d s ty l).length ≤ 100000 := by
  unfold Eth.right at h
  simp only [decide_eq_true_eq] at h
  unfold enc
  simp only [List.length_append, num_length]
  omega
theorem onLaw {G : Hp} {v w0 w1 w2 : Value} {l : List UInt8} {l0 l1 l2 : List Rw} (d s ty c id : Int) (hd : 0 ≤ d) (hs : 0 ≤ s) (hty : -9223372036854775808 ≤ ty ∧ ty ≤ 9223372036854775807) (hf : rds G 1 v (bv l)) (hr0 : rws G w0 l0) (hr1 : rws G w1 l1) (hr2 : rws G w2 l2) :
    Con Try.prog G 4 [.agg #[w0, w1, w2], frv d s ty v, .agg #[.int .i64 c, .int .i64 id]] [] (fun r B => r = .bool true ∧ B = []) := by
  obtain ⟨va, vn, vc, rfl, e1, -⟩ := hf.slice
  obtain ⟨x0, n0, y0, rfl, k0, -⟩ := hr0.slice
  obtain ⟨x1, n1, y1, rfl, k1, -⟩ := hr1.slice
  obtain ⟨x2, n2, y2, rfl, k2, -⟩ := hr2.slice
  rw [bv_length, Nat.mul_one] at e1
  rw [flat_len Rw.len] at k0 k1 k2
  obtain rfl : l0.length = n0 := by omega
  obtain rfl : l1.length = n1 := by omega
  obtain rfl : l2.length = n2 := by omega
  subst e1
  clear k0 k1 k2
  obtain ⟨fb, kf⟩ : ∃ b, decide (l.length ≤ 3000) = b := ⟨_, rfl⟩
  refine Con.intro Try.func4 rfl (Nat.le_of_ble_eq_true (by kernel_rfl)) (by kernel_rfl) Try.results4 ?_
  intro H h
  ((try simp only [S, TY, reduceCtorEq, nq0, nq1, nq2, nq3, nq4, iq0, iq1, iq2, iq3, iq4, iq5, iq6, iq7, iq8]); (try (simp (disch := omega) only [W2, Int.cast_ofNat_Int]; (try simp only [S, TY, reduceCtorEq, nq0, nq1, nq2, nq3, nq4, iq0, iq1, iq2, iq3, iq4, iq5, iq6, iq7, iq8]))); repeat ((first | (refine cl_drawi 19 D4_19 ([0, 1, 2, 3, 4, 5, 6, 7, 9, 8, 10]) (by decide) (by kernel_rfl) ?_; unfold D4_19) | (refine cl_drawi 30 D4_30 (List.range 9) (by decide) (by kernel_rfl) ?_; unfold D4_30)); simp only [S, TY, reduceCtorEq, nq0, nq1, nq2, nq3, nq4, iq0, iq1, iq2, iq3, iq4, iq5, iq6, iq7, iq8]; (try (simp (disch := omega) only [W2, Int.cast_ofNat_Int]; (try simp only [S, TY, reduceCtorEq, nq0, nq1, nq2, nq3, nq4, iq0, iq1, iq2, iq3, iq4, iq5, iq6, iq7, iq8])))))
  intro b3 hb3 hg3
  replace h := h.new hb3 hg3 (.cells #[.slice x0 l0.length y0, .slice x1 l1.length y1, .slice x2 l2.length y2] 48 (0, 0))
  ((try simp only [S, TY, reduceCtorEq, nq0, nq1, nq2, nq3, nq4, iq0, iq1, iq2, iq3, iq4, iq5, iq6, iq7, iq8]); (try (simp (disch := omega) only [W2, Int.cast_ofNat_Int]; (try simp only [S, TY, reduceCtorEq, nq0, nq1, nq2, nq3, nq4, iq0, iq1, iq2, iq3, iq4, iq5, iq6, iq7, iq8]))); repeat ((first | (refine cl_drawi 19 D4_19 ([0, 1, 2, 3, 4, 5, 6, 7, 9, 8, 10]) (by decide) (by kernel_rfl) ?_; unfold D4_19) | (refine cl_drawi 30 D4_30 (List.range 9) (by decide) (by kernel_rfl) ?_; unfold D4_30)); simp only [S, TY, reduceCtorEq, nq0, nq1, nq2, nq3, nq4, iq0, iq1, iq2, iq3, iq4, iq5, iq6, iq7, iq8]; (try (simp (disch := omega) only [W2, Int.cast_ofNat_Int]; (try simp only [S, TY, reduceCtorEq, nq0, nq1, nq2, nq3, nq4, iq0, iq1, iq2, iq3, iq4, iq5, iq6, iq7, iq8])))))
  intro b4 hb4 hg4
  replace h := h.new hb4 hg4 (.cells #[.int .u64 d, .int .u64 s, .int .i64 ty, .slice va l.length vc] 51 (0, 0))
  ((try simp only [S, TY, reduceCtorEq, nq0, nq1, nq2, nq3, nq4, iq0, iq1, iq2, iq3, iq4, iq5, iq6, iq7, iq8]); (try (simp (disch := omega) only [W2, Int.cast_ofNat_Int]; (try simp only [S, TY, reduceCtorEq, nq0, nq1, nq2, nq3, nq4, iq0, iq1, iq2, iq3, iq4, iq5, iq6, iq7, iq8]))); repeat ((first | (refine cl_drawi 19 D4_19 ([0, 1, 2, 3, 4, 5, 6, 7, 9, 8, 10]) (by decide) (by kernel_rfl) ?_; unfold D4_19) | (refine cl_drawi 30 D4_30 (List.range 9) (by decide) (by kernel_rfl) ?_; unfold D4_30)); simp only [S, TY, reduceCtorEq, nq0, nq1, nq2, nq3, nq4, iq0, iq1, iq2, iq3, iq4, iq5, iq6, iq7, iq8]; (try (simp (disch := omega) only [W2, Int.cast_ofNat_Int]; (try simp only [S, TY, reduceCtorEq, nq0, nq1, nq2, nq3, nq4, iq0, iq1, iq2, iq3, iq4, iq5, iq6, iq7, iq8])))))
  intro b5 hb5 hg5
  replace h := h.new hb5 hg5 (.cells #[.int .i64 c, .int .i64 id] 53 (0, 0))
  have w1 := h.li 1 rfl
  ((try simp only [S, TY, reduceCtorEq, nq0, nq1, nq2, nq3, nq4, iq0, iq1, iq2, iq3, iq4, iq5, iq6, iq7, iq8, w1]); (try (simp (disch := omega) only [W2, Int.cast_ofNat_Int]; (try simp only [S, TY, reduceCtorEq, nq0, nq1, nq2, nq3, nq4, iq0, iq1, iq2, iq3, iq4, iq5, iq6, iq7, iq8, w1]))); repeat ((first | (refine cl_drawi 19 D4_19 ([0, 1, 2, 3, 4, 5, 6, 7, 9, 8, 10]) (by decide) (by kernel_rfl) ?_; unfold D4_19) | (refine cl_drawi 30 D4_30 (List.range 9) (by decide) (by kernel_rfl) ?_; unfold D4_30)); simp only [S, TY, reduceCtorEq, nq0, nq1, nq2, nq3, nq4, iq0, iq1, iq2, iq3, iq4, iq5, iq6, iq7, iq8, w1]; (try (simp (disch := omega) only [W2, Int.cast_ofNat_Int]; (try simp only [S, TY, reduceCtorEq, nq0, nq1, nq2, nq3, nq4, iq0, iq1, iq2, iq3, iq4, iq5, iq6, iq7, iq8, w1])))))
  refine (Fits2 d s ty hf).at_ h [] _ rfl fun r B H1 hr h1 => ?_
  obtain ⟨rfl, rfl⟩ := hr
  rw [kf]
  replace h := h1.fronts [2, 1, 0]
  clear h1
  cases fb with
  | false =>
    obtain ⟨z0, hz0⟩ : ∃ z : Bool, false = z := ⟨_, rfl⟩
    ((try simp only [S, TY, reduceCtorEq, nq0, nq1, nq2, nq3, nq4, iq0, iq1, iq2, iq3, iq4, iq5, iq6, iq7, iq8]); (try (simp (disch := omega) only [W2, Int.cast_ofNat_Int]; (try simp only [S, TY, reduceCtorEq, nq0, nq1, nq2, nq3, nq4, iq0, iq1, iq2, iq3, iq4, iq5, iq6, iq7, iq8]))); repeat ((first | (refine cl_drawi 19 D4_19 ([0, 1, 2, 3, 4, 5, 6, 7, 9, 8, 10]) (by decide) (by kernel_rfl) ?_; unfold D4_19) | (refine cl_drawi 30 D4_30 (List.range 9) (by decide) (by kernel_rfl) ?_; unfold D4_30)); simp only [S, TY, reduceCtorEq, nq0, nq1, nq2, nq3, nq4, iq0, iq1, iq2, iq3, iq4, iq5, iq6, iq7, iq8]; (try (simp (disch := omega) only [W2, Int.cast_ofNat_Int]; (try simp only [S, TY, reduceCtorEq, nq0, nq1, nq2, nq3, nq4, iq0, iq1, iq2, iq3, iq4, iq5, iq6, iq7, iq8])))))
    refine cl_loop (fun i e H => i ≤ 3 ∧ e 3 = .pointer (some ⟨b3, 0, none⟩) ∧ e 4 = .pointer (some ⟨b4, 0, none⟩) ∧ e 5 = .pointer (some ⟨b5, 0, none⟩) ∧ e 9 = .int .i64 (i : Nat) ∧
        ∃ x : Bool, e 8 = .bool x ∧ (x = true ↔ (z0 = true) ∧ ∀ j, j < i → okL (ls l0 l1 l2 j)) ∧ sg G [pLots b3 (.slice x0 l0.length y0) (.slice x1 l1.length y1) (.slice x2 l2.length y2), pFr b4 d s ty (.slice va l.length vc), pAt b5 c id] H) (fun i : Nat => 3 - i) 0
      ⟨by omega, rfl, rfl, rfl, rfl, z0, congrArg Value.bool hz0, by simp, h⟩ ?_
    clear h
    rintro i e H ⟨q1, q3, q4, q5, q9, x, q8, hx, h⟩
    by_cases g1 : i < 3
    · rcases (show i = 0 ∨ i = 1 ∨ i = 2 by omega) with rfl | rfl | rfl
      · have c3 := h.c0
        by_cases gl : (((l0).length : Nat) : Int) ≤ 100
        · ((try simp only [S, TY, reduceCtorEq, nq0, nq1, nq2, nq3, nq4, iq0, iq1, iq2, iq3, iq4, iq5, iq6, iq7, iq8, q3, q4, q5, q8, q9, c3, gl]); (try (simp (disch := omega) only [W2, Int.cast_ofNat_Int]; (try simp only [S, TY, reduceCtorEq, nq0, nq1, nq2, nq3, nq4, iq0, iq1, iq2, iq3, iq4, iq5, iq6, iq7, iq8, q3, q4, q5, q8, q9, c3, gl]))); repeat ((first | (refine cl_drawi 19 D4_19 ([0, 1, 2, 3, 4, 5, 6, 7, 9, 8, 10]) (by decide) (by kernel_rfl) ?_; unfold D4_19) | (refine cl_drawi 30 D4_30 (List.range 9) (by decide) (by kernel_rfl) ?_; unfold D4_30)); simp only [S, TY, reduceCtorEq, nq0, nq1, nq2, nq3, nq4, iq0, iq1, iq2, iq3, iq4, iq5, iq6, iq7, iq8, q3, q4, q5, q8, q9, c3, gl]; (try (simp (disch := omega) only [W2, Int.cast_ofNat_Int]; (try simp only [S, TY, reduceCtorEq, nq0, nq1, nq2, nq3, nq4, iq0, iq1, iq2, iq3, iq4, iq5, iq6, iq7, iq8, q3, q4, q5, q8, q9, c3, gl])))))
          refine (Stand_ok hr0 (by omega)).at_ h [] _ rfl fun r B H2 hr h2 => ?_
          obtain ⟨rfl, rfl⟩ := hr
          obtain ⟨y, hy⟩ : ∃ y, decide (Std l0) = y := ⟨_, rfl⟩
          have hy2 : y = true ↔ okL (ls l0 l1 l2 0) := by rw [← hy, decide_eq_true_eq]; exact ⟨fun z => ⟨(by show (l0).length ≤ 100; omega), z⟩, fun z => z.2⟩
          rw [hy]
          have hxy := stepI y hx hy2
          clear hy hy2 hx c3 h
          cases x with
          | true =>
            rw [Bool.true_and] at hxy
            ((try simp only [S, TY, reduceCtorEq, nq0, nq1, nq2, nq3, nq4, iq0, iq1, iq2, iq3, iq4, iq5, iq6, iq7, iq8, q3, q4, q5, q8, q9]); (try (simp (disch := omega) only [W2, Int.cast_ofNat_Int]; (try simp only [S, TY, reduceCtorEq, nq0, nq1, nq2, nq3, nq4, iq0, iq1, iq2, iq3, iq4, iq5, iq6, iq7, iq8, q3, q4, q5, q8, q9]))); repeat ((first | (refine cl_drawi 19 D4_19 ([0, 1, 2, 3, 4, 5, 6, 7, 9, 8, 10]) (by decide) (by kernel_rfl) ?_; unfold D4_19) | (refine cl_drawi 30 D4_30 (List.range 9) (by decide) (by kernel_rfl) ?_; unfold D4_30)); simp only [S, TY, reduceCtorEq, nq0, nq1, nq2, nq3, nq4, iq0, iq1, iq2, iq3, iq4, iq5, iq6, iq7, iq8, q3, q4, q5, q8, q9]; (try (simp (disch := omega) only [W2, Int.cast_ofNat_Int]; (try simp only [S, TY, reduceCtorEq, nq0, nq1, nq2, nq3, nq4, iq0, iq1, iq2, iq3, iq4, iq5, iq6, iq7, iq8, q3, q4, q5, q8, q9])))))
            exact .go (0 + 1) (by decide) ⟨by decide, q3, q4, q5, rfl, _, rfl, hxy, h2⟩
          | false =>
            rw [Bool.false_and] at hxy
            ((try simp only [S, TY, reduceCtorEq, nq0, nq1, nq2, nq3, nq4, iq0, iq1, iq2, iq3, iq4, iq5, iq6, iq7, iq8, q3, q4, q5, q8, q9]); (try (simp (disch := omega) only [W2, Int.cast_ofNat_Int]; (try simp only [S, TY, reduceCtorEq, nq0, nq1, nq2, nq3, nq4, iq0, iq1, iq2, iq3, iq4, iq5, iq6, iq7, iq8, q3, q4, q5, q8, q9]))); repeat ((first | (refine cl_drawi 19 D4_19 ([0, 1, 2, 3, 4, 5, 6, 7, 9, 8, 10]) (by decide) (by kernel_rfl) ?_; unfold D4_19) | (refine cl_drawi 30 D4_30 (List.range 9) (by decide) (by kernel_rfl) ?_; unfold D4_30)); simp only [S, TY, reduceCtorEq, nq0, nq1, nq2, nq3, nq4, iq0, iq1, iq2, iq3, iq4, iq5, iq6, iq7, iq8, q3, q4, q5, q8, q9]; (try (simp (disch := omega) only [W2, Int.cast_ofNat_Int]; (try simp only [S, TY, reduceCtorEq, nq0, nq1, nq2, nq3, nq4, iq0, iq1, iq2, iq3, iq4, iq5, iq6, iq7, iq8, q3, q4, q5, q8, q9])))))
            exact .go (0 + 1) (by decide) ⟨by decide, q3, q4, q5, rfl, _, rfl, hxy, h2⟩
        · have hy2 : false = true ↔ okL (ls l0 l1 l2 0) := ⟨fun z => (by cases z), fun z => (by have : (l0).length ≤ 100 := z.1; omega)⟩
          have hxy := stepI false hx hy2
          rw [Bool.and_false] at hxy
          clear hx hy2
          cases x with
          | true =>
            ((try simp only [S, TY, reduceCtorEq, nq0, nq1, nq2, nq3, nq4, iq0, iq1, iq2, iq3, iq4, iq5, iq6, iq7, iq8, q3, q4, q5, q8, q9, c3, gl]); (try (simp (disch := omega) only [W2, Int.cast_ofNat_Int]; (try simp only [S, TY, reduceCtorEq, nq0, nq1, nq2, nq3, nq4, iq0, iq1, iq2, iq3, iq4, iq5, iq6, iq7, iq8, q3, q4, q5, q8, q9, c3, gl]))); repeat ((first | (refine cl_drawi 19 D4_19 ([0, 1, 2, 3, 4, 5, 6, 7, 9, 8, 10]) (by decide) (by kernel_rfl) ?_; unfold D4_19) | (refine cl_drawi 30 D4_30 (List.range 9) (by decide) (by kernel_rfl) ?_; unfold D4_30)); simp only [S, TY, reduceCtorEq, nq0, nq1, nq2, nq3, nq4, iq0, iq1, iq2, iq3, iq4, iq5, iq6, iq7, iq8, q3, q4, q5, q8, q9, c3, gl]; (try (simp (disch := omega) only [W2, Int.cast_ofNat_Int]; (try simp only [S, TY, reduceCtorEq, nq0, nq1, nq2, nq3, nq4, iq0, iq1, iq2, iq3, iq4, iq5, iq6, iq7, iq8, q3, q4, q5, q8, q9, c3, gl])))))
            exact .go (0 + 1) (by decide) ⟨by decide, q3, q4, q5, rfl, _, rfl, hxy, h⟩
          | false =>
            ((try simp only [S, TY, reduceCtorEq, nq0, nq1, nq2, nq3, nq4, iq0, iq1, iq2, iq3, iq4, iq5, iq6, iq7, iq8, q3, q4, q5, q8, q9, c3, gl]); (try (simp (disch := omega) only [W2, Int.cast_ofNat_Int]; (try simp only [S, TY, reduceCtorEq, nq0, nq1, nq2, nq3, nq4, iq0, iq1, iq2, iq3, iq4, iq5, iq6, iq7, iq8, q3, q4, q5, q8, q9, c3, gl]))); repeat ((first | (refine cl_drawi 19 D4_19 ([0, 1, 2, 3, 4, 5, 6, 7, 9, 8, 10]) (by decide) (by kernel_rfl) ?_; unfold D4_19) | (refine cl_drawi 30 D4_30 (List.range 9) (by decide) (by kernel_rfl) ?_; unfold D4_30)); simp only [S, TY, reduceCtorEq, nq0, nq1, nq2, nq3, nq4, iq0, iq1, iq2, iq3, iq4, iq5, iq6, iq7, iq8, q3, q4, q5, q8, q9, c3, gl]; (try (simp (disch := omega) only [W2, Int.cast_ofNat_Int]; (try simp only [S, TY, reduceCtorEq, nq0, nq1, nq2, nq3, nq4, iq0, iq1, iq2, iq3, iq4, iq5, iq6, iq7, iq8, q3, q4, q5, q8, q9, c3, gl])))))
            exact .go (0 + 1) (by decide) ⟨by decide, q3, q4, q5, rfl, _, rfl, hxy, h⟩
      · have c3 := h.c0
        by_cases gl : (((l1).length : Nat) : Int) ≤ 100
        · ((try simp only [S, TY, reduceCtorEq, nq0, nq1, nq2, nq3, nq4, iq0, iq1, iq2, iq3, iq4, iq5, iq6, iq7, iq8, q3, q4, q5, q8, q9, c3, gl]); (try (simp (disch := omega) only [W2, Int.cast_ofNat_Int]; (try simp only [S, TY, reduceCtorEq, nq0, nq1, nq2, nq3, nq4, iq0, iq1, iq2, iq3, iq4, iq5, iq6, iq7, iq8, q3, q4, q5, q8, q9, c3, gl]))); repeat ((first | (refine cl_drawi 19 D4_19 ([0, 1, 2, 3, 4, 5, 6, 7, 9, 8, 10]) (by decide) (by kernel_rfl) ?_; unfold D4_19) | (refine cl_drawi 30 D4_30 (List.range 9) (by decide) (by kernel_rfl) ?_; unfold D4_30)); simp only [S, TY, reduceCtorEq, nq0, nq1, nq2, nq3, nq4, iq0, iq1, iq2, iq3, iq4, iq5, iq6, iq7, iq8, q3, q4, q5, q8, q9, c3, gl]; (try (simp (disch := omega) only [W2, Int.cast_ofNat_Int]; (try simp only [S, TY, reduceCtorEq, nq0, nq1, nq2, nq3, nq4, iq0, iq1, iq2, iq3, iq4, iq5, iq6, iq7, iq8, q3, q4, q5, q8, q9, c3, gl])))))
          refine (Stand_ok hr1 (by omega)).at_ h [] _ rfl fun r B H2 hr h2 => ?_
          obtain ⟨rfl, rfl⟩ := hr
          obtain ⟨y, hy⟩ : ∃ y, decide (Std l1) = y := ⟨_, rfl⟩
          have hy2 : y = true ↔ okL (ls l0 l1 l2 1) := by rw [← hy, decide_eq_true_eq]; exact ⟨fun z => ⟨(by show (l1).length ≤ 100; omega), z⟩, fun z => z.2⟩
          rw [hy]
          have hxy := stepI y hx hy2
          clear hy hy2 hx c3 h
          cases x with
          | true =>
            rw [Bool.true_and] at hxy
            ((try simp only [S, TY, reduceCtorEq, nq0, nq1, nq2, nq3, nq4, iq0, iq1, iq2, iq3, iq4, iq5, iq6, iq7, iq8, q3, q4, q5, q8, q9]); (try (simp (disch := omega) only [W2, Int.cast_ofNat_Int]; (try simp only [S, TY, reduceCtorEq, nq0, nq1, nq2, nq3, nq4, iq0, iq1, iq2, iq3, iq4, iq5, iq6, iq7, iq8, q3, q4, q5, q8, q9]))); repeat ((first | (refine cl_drawi 19 D4_19 ([0, 1, 2, 3, 4, 5, 6, 7, 9, 8, 10]) (by decide) (by kernel_rfl) ?_; unfold D4_19) | (refine cl_drawi 30 D4_30 (List.range 9) (by decide) (by kernel_rfl) ?_; unfold D4_30)); simp only [S, TY, reduceCtorEq, nq0, nq1, nq2, nq3, nq4, iq0, iq1, iq2, iq3, iq4, iq5, iq6, iq7, iq8, q3, q4, q5, q8, q9]; (try (simp (disch := omega) only [W2, Int.cast_ofNat_Int]; (try simp only [S, TY, reduceCtorEq, nq0, nq1, nq2, nq3, nq4, iq0, iq1, iq2, iq3, iq4, iq5, iq6, iq7, iq8, q3, q4, q5, q8, q9])))))
            exact .go (1 + 1) (by decide) ⟨by decide, q3, q4, q5, rfl, _, rfl, hxy, h2⟩
          | false =>
            rw [Bool.false_and] at hxy
            ((try simp only [S, TY, reduceCtorEq, nq0, nq1, nq2, nq3, nq4, iq0, iq1, iq2, iq3, iq4, iq5, iq6, iq7, iq8, q3, q4, q5, q8, q9]); (try (simp (disch := omega) only [W2, Int.cast_ofNat_Int]; (try simp only [S, TY, reduceCtorEq, nq0, nq1, nq2, nq3, nq4, iq0, iq1, iq2, iq3, iq4, iq5, iq6, iq7, iq8, q3, q4, q5, q8, q9]))); repeat ((first | (refine cl_drawi 19 D4_19 ([0, 1, 2, 3, 4, 5, 6, 7, 9, 8, 10]) (by decide) (by kernel_rfl) ?_; unfold D4_19) | (refine cl_drawi 30 D4_30 (List.range 9) (by decide) (by kernel_rfl) ?_; unfold D4_30)); simp only [S, TY, reduceCtorEq, nq0, nq1, nq2, nq3, nq4, iq0, iq1, iq2, iq3, iq4, iq5, iq6, iq7, iq8, q3, q4, q5, q8, q9]; (try (simp (disch := omega) only [W2, Int.cast_ofNat_Int]; (try simp only [S, TY, reduceCtorEq, nq0, nq1, nq2, nq3, nq4, iq0, iq1, iq2, iq3, iq4, iq5, iq6, iq7, iq8, q3, q4, q5, q8, q9])))))
            exact .go (1 + 1) (by decide) ⟨by decide, q3, q4, q5, rfl, _, rfl, hxy, h2⟩
        · have hy2 : false = true ↔ okL (ls l0 l1 l2 1) := ⟨fun z => (by cases z), fun z => (by have : (l1).length ≤ 100 := z.1; omega)⟩
          have hxy := stepI false hx hy2
          rw [Bool.and_false] at hxy
          clear hx hy2
          cases x with
          | true =>
            ((try simp only [S, TY, reduceCtorEq, nq0, nq1, nq2, nq3, nq4, iq0, iq1, iq2, iq3, iq4, iq5, iq6, iq7, iq8, q3, q4, q5, q8, q9, c3, gl]); (try (simp (disch := omega) only [W2, Int.cast_ofNat_Int]; (try simp only [S, TY, reduceCtorEq, nq0, nq1, nq2, nq3, nq4, iq0, iq1, iq2, iq3, iq4, iq5, iq6, iq7, iq8, q3, q4, q5, q8, q9, c3, gl]))); repeat ((first | (refine cl_drawi 19 D4_19 ([0, 1, 2, 3, 4, 5, 6, 7, 9, 8, 10]) (by decide) (by kernel_rfl) ?_; unfold D4_19) | (refine cl_drawi 30 D4_30 (List.range 9) (by decide) (by kernel_rfl) ?_; unfold D4_30)); simp only [S, TY, reduceCtorEq, nq0, nq1, nq2, nq3, nq4, iq0, iq1, iq2, iq3, iq4, iq5, iq6, iq7, iq8, q3, q4, q5, q8, q9, c3, gl]; (try (simp (disch := omega) only [W2, Int.cast_ofNat_Int]; (try simp only [S, TY, reduceCtorEq, nq0, nq1, nq2, nq3, nq4, iq0, iq1, iq2, iq3, iq4, iq5, iq6, iq7, iq8, q3, q4, q5, q8, q9, c3, gl])))))
            exact .go (1 + 1) (by decide) ⟨by decide, q3, q4, q5, rfl, _, rfl, hxy, h⟩
          | false =>
            ((try simp only [S, TY, reduceCtorEq, nq0, nq1, nq2, nq3, nq4, iq0, iq1, iq2, iq3, iq4, iq5, iq6, iq7, iq8, q3, q4, q5, q8, q9, c3, gl]); (try (simp (disch := omega) only [W2, Int.cast_ofNat_Int]; (try simp only [S, TY, reduceCtorEq, nq0, nq1, nq2, nq3, nq4, iq0, iq1, iq2, iq3, iq4, iq5, iq6, iq7, iq8, q3, q4, q5, q8, q9, c3, gl]))); repeat ((first | (refine cl_drawi 19 D4_19 ([0, 1, 2, 3, 4, 5, 6, 7, 9, 8, 10]) (by decide) (by kernel_rfl) ?_; unfold D4_19) | (refine cl_drawi 30 D4_30 (List.range 9) (by decide) (by kernel_rfl) ?_; unfold D4_30)); simp only [S, TY, reduceCtorEq, nq0, nq1, nq2, nq3, nq4, iq0, iq1, iq2, iq3, iq4, iq5, iq6, iq7, iq8, q3, q4, q5, q8, q9, c3, gl]; (try (simp (disch := omega) only [W2, Int.cast_ofNat_Int]; (try simp only [S, TY, reduceCtorEq, nq0, nq1, nq2, nq3, nq4, iq0, iq1, iq2, iq3, iq4, iq5, iq6, iq7, iq8, q3, q4, q5, q8, q9, c3, gl])))))
            exact .go (1 + 1) (by decide) ⟨by decide, q3, q4, q5, rfl, _, rfl, hxy, h⟩
      · have c3 := h.c0
        by_cases gl : (((l2).length : Nat) : Int) ≤ 100
        · ((try simp only [S, TY, reduceCtorEq, nq0, nq1, nq2, nq3, nq4, iq0, iq1, iq2, iq3, iq4, iq5, iq6, iq7, iq8, q3, q4, q5, q8, q9, c3, gl]); (try (simp (disch := omega) only [W2, Int.cast_ofNat_Int]; (try simp only [S, TY, reduceCtorEq, nq0, nq1, nq2, nq3, nq4, iq0, iq1, iq2, iq3, iq4, iq5, iq6, iq7, iq8, q3, q4, q5, q8, q9, c3, gl]))); repeat ((first | (refine cl_drawi 19 D4_19 ([0, 1, 2, 3, 4, 5, 6, 7, 9, 8, 10]) (by decide) (by kernel_rfl) ?_; unfold D4_19) | (refine cl_drawi 30 D4_30 (List.range 9) (by decide) (by kernel_rfl) ?_; unfold D4_30)); simp only [S, TY, reduceCtorEq, nq0, nq1, nq2, nq3, nq4, iq0, iq1, iq2, iq3, iq4, iq5, iq6, iq7, iq8, q3, q4, q5, q8, q9, c3, gl]; (try (simp (disch := omega) only [W2, Int.cast_ofNat_Int]; (try simp only [S, TY, reduceCtorEq, nq0, nq1, nq2, nq3, nq4, iq0, iq1, iq2, iq3, iq4, iq5, iq6, iq7, iq8, q3, q4, q5, q8, q9, c3, gl])))))
          refine (Stand_ok hr2 (by omega)).at_ h [] _ rfl fun r B H2 hr h2 => ?_
          obtain ⟨rfl, rfl⟩ := hr
          obtain ⟨y, hy⟩ : ∃ y, decide (Std l2) = y := ⟨_, rfl⟩
          have hy2 : y = true ↔ okL (ls l0 l1 l2 2) := by rw [← hy, decide_eq_true_eq]; exact ⟨fun z => ⟨(by show (l2).length ≤ 100; omega), z⟩, fun z => z.2⟩
          rw [hy]
          have hxy := stepI y hx hy2
          clear hy hy2 hx c3 h
          cases x with
          | true =>
            rw [Bool.true_and] at hxy
            ((try simp only [S, TY, reduceCtorEq, nq0, nq1, nq2, nq3, nq4, iq0, iq1, iq2, iq3, iq4, iq5, iq6, iq7, iq8, q3, q4, q5, q8, q9]); (try (simp (disch := omega) only [W2, Int.cast_ofNat_Int]; (try simp only [S, TY, reduceCtorEq, nq0, nq1, nq2, nq3, nq4, iq0, iq1, iq2, iq3, iq4, iq5, iq6, iq7, iq8, q3, q4, q5, q8, q9]))); repeat ((first | (refine cl_drawi 19 D4_19 ([0, 1, 2, 3, 4, 5, 6, 7, 9, 8, 10]) (by decide) (by kernel_rfl) ?_; unfold D4_19) | (refine cl_drawi 30 D4_30 (List.range 9) (by decide) (by kernel_rfl) ?_; unfold D4_30)); simp only [S, TY, reduceCtorEq, nq0, nq1, nq2, nq3, nq4, iq0, iq1, iq2, iq3, iq4, iq5, iq6, iq7, iq8, q3, q4, q5, q8, q9]; (try (simp (disch := omega) only [W2, Int.cast_ofNat_Int]; (try simp only [S, TY, reduceCtorEq, nq0, nq1, nq2, nq3, nq4, iq0, iq1, iq2, iq3, iq4, iq5, iq6, iq7, iq8, q3, q4, q5, q8, q9])))))
            exact .go (2 + 1) (by decide) ⟨by decide, q3, q4, q5, rfl, _, rfl, hxy, h2⟩
          | false =>
            rw [Bool.false_and] at hxy
            ((try simp only [S, TY, reduceCtorEq, nq0, nq1, nq2, nq3, nq4, iq0, iq1, iq2, iq3, iq4, iq5, iq6, iq7, iq8, q3, q4, q5, q8, q9]); (try (simp (disch := omega) only [W2, Int.cast_ofNat_Int]; (try simp only [S, TY, reduceCtorEq, nq0, nq1, nq2, nq3, nq4, iq0, iq1, iq2, iq3, iq4, iq5, iq6, iq7, iq8, q3, q4, q5, q8, q9]))); repeat ((first | (refine cl_drawi 19 D4_19 ([0, 1, 2, 3, 4, 5, 6, 7, 9, 8, 10]) (by decide) (by kernel_rfl) ?_; unfold D4_19) | (refine cl_drawi 30 D4_30 (List.range 9) (by decide) (by kernel_rfl) ?_; unfold D4_30)); simp only [S, TY, reduceCtorEq, nq0, nq1, nq2, nq3, nq4, iq0, iq1, iq2, iq3, iq4, iq5, iq6, iq7, iq8, q3, q4, q5, q8, q9]; (try (simp (disch := omega) only [W2, Int.cast_ofNat_Int]; (try simp only [S, TY, reduceCtorEq, nq0, nq1, nq2, nq3, nq4, iq0, iq1, iq2, iq3, iq4, iq5, iq6, iq7, iq8, q3, q4, q5, q8, q9])))))
            exact .go (2 + 1) (by decide) ⟨by decide, q3, q4, q5, rfl, _, rfl, hxy, h2⟩
        · have hy2 : false = true ↔ okL (ls l0 l1 l2 2) := ⟨fun z => (by cases z), fun z => (by have : (l2).length ≤ 100 := z.1; omega)⟩
          have hxy := stepI false hx hy2
          rw [Bool.and_false] at hxy
          clear hx hy2
          cases x with
          | true =>
            ((try simp only [S, TY, reduceCtorEq, nq0, nq1, nq2, nq3, nq4, iq0, iq1, iq2, iq3, iq4, iq5, iq6, iq7, iq8, q3, q4, q5, q8, q9, c3, gl]); (try (simp (disch := omega) only [W2, Int.cast_ofNat_Int]; (try simp only [S, TY, reduceCtorEq, nq0, nq1, nq2, nq3, nq4, iq0, iq1, iq2, iq3, iq4, iq5, iq6, iq7, iq8, q3, q4, q5, q8, q9, c3, gl]))); repeat ((first | (refine cl_drawi 19 D4_19 ([0, 1, 2, 3, 4, 5, 6, 7, 9, 8, 10]) (by decide) (by kernel_rfl) ?_; unfold D4_19) | (refine cl_drawi 30 D4_30 (List.range 9) (by decide) (by kernel_rfl) ?_; unfold D4_30)); simp only [S, TY, reduceCtorEq, nq0, nq1, nq2, nq3, nq4, iq0, iq1, iq2, iq3, iq4, iq5, iq6, iq7, iq8, q3, q4, q5, q8, q9, c3, gl]; (try (simp (disch := omega) only [W2, Int.cast_ofNat_Int]; (try simp only [S, TY, reduceCtorEq, nq0, nq1, nq2, nq3, nq4, iq0, iq1, iq2, iq3, iq4, iq5, iq6, iq7, iq8, q3, q4, q5, q8, q9, c3, gl])))))
            exact .go (2 + 1) (by decide) ⟨by decide, q3, q4, q5, rfl, _, rfl, hxy, h⟩
          | false =>
            ((try simp only [S, TY, reduceCtorEq, nq0, nq1, nq2, nq3, nq4, iq0, iq1, iq2, iq3, iq4, iq5, iq6, iq7, iq8, q3, q4, q5, q8, q9, c3, gl]); (try (simp (disch := omega) only [W2, Int.cast_ofNat_Int]; (try simp only [S, TY, reduceCtorEq, nq0, nq1, nq2, nq3, nq4, iq0, iq1, iq2, iq3, iq4, iq5, iq6, iq7, iq8, q3, q4, q5, q8, q9, c3, gl]))); repeat ((first | (refine cl_drawi 19 D4_19 ([0, 1, 2, 3, 4, 5, 6, 7, 9, 8, 10]) (by decide) (by kernel_rfl) ?_; unfold D4_19) | (refine cl_drawi 30 D4_30 (List.range 9) (by decide) (by kernel_rfl) ?_; unfold D4_30)); simp only [S, TY, reduceCtorEq, nq0, nq1, nq2, nq3, nq4, iq0, iq1, iq2, iq3, iq4, iq5, iq6, iq7, iq8, q3, q4, q5, q8, q9, c3, gl]; (try (simp (disch := omega) only [W2, Int.cast_ofNat_Int]; (try simp only [S, TY, reduceCtorEq, nq0, nq1, nq2, nq3, nq4, iq0, iq1, iq2, iq3, iq4, iq5, iq6, iq7, iq8, q3, q4, q5, q8, q9, c3, gl])))))
            exact .go (2 + 1) (by decide) ⟨by decide, q3, q4, q5, rfl, _, rfl, hxy, h⟩
    obtain rfl : i = 3 := by omega
    clear g1 q1
    have hx0 : x = false := by
      cases x with
      | false => rfl
      | true => have := hx.1 rfl; rw [← hz0] at this; cases this.1
    subst hx0
    ((try simp only [S, TY, reduceCtorEq, nq0, nq1, nq2, nq3, nq4, iq0, iq1, iq2, iq3, iq4, iq5, iq6, iq7, iq8, q3, q4, q5, q8, q9]); (try (simp (disch := omega) only [W2, Int.cast_ofNat_Int]; (try simp only [S, TY, reduceCtorEq, nq0, nq1, nq2, nq3, nq4, iq0, iq1, iq2, iq3, iq4, iq5, iq6, iq7, iq8, q3, q4, q5, q8, q9]))); repeat ((first | (refine cl_drawi 19 D4_19 ([0, 1, 2, 3, 4, 5, 6, 7, 9, 8, 10]) (by decide) (by kernel_rfl) ?_; unfold D4_19) | (refine cl_drawi 30 D4_30 (List.range 9) (by decide) (by kernel_rfl) ?_; unfold D4_30)); simp only [S, TY, reduceCtorEq, nq0, nq1, nq2, nq3, nq4, iq0, iq1, iq2, iq3, iq4, iq5, iq6, iq7, iq8, q3, q4, q5, q8, q9]; (try (simp (disch := omega) only [W2, Int.cast_ofNat_Int]; (try simp only [S, TY, reduceCtorEq, nq0, nq1, nq2, nq3, nq4, iq0, iq1, iq2, iq3, iq4, iq5, iq6, iq7, iq8, q3, q4, q5, q8, q9])))))
    refine DpL.alive.at_ h [] _ rfl fun r B H2 hr h2 => ?_
    obtain ⟨rfl, rfl⟩ := hr
    ((try simp only [S, TY, reduceCtorEq, nq0, nq1, nq2, nq3, nq4, iq0, iq1, iq2, iq3, iq4, iq5, iq6, iq7, iq8]); (try (simp (disch := omega) only [W2, Int.cast_ofNat_Int]; (try simp only [S, TY, reduceCtorEq, nq0, nq1, nq2, nq3, nq4, iq0, iq1, iq2, iq3, iq4, iq5, iq6, iq7, iq8]))); repeat ((first | (refine cl_drawi 19 D4_19 ([0, 1, 2, 3, 4, 5, 6, 7, 9, 8, 10]) (by decide) (by kernel_rfl) ?_; unfold D4_19) | (refine cl_drawi 30 D4_30 (List.range 9) (by decide) (by kernel_rfl) ?_; unfold D4_30)); simp only [S, TY, reduceCtorEq, nq0, nq1, nq2, nq3, nq4, iq0, iq1, iq2, iq3, iq4, iq5, iq6, iq7, iq8]; (try (simp (disch := omega) only [W2, Int.cast_ofNat_Int]; (try simp only [S, TY, reduceCtorEq, nq0, nq1, nq2, nq3, nq4, iq0, iq1, iq2, iq3, iq4, iq5, iq6, iq7, iq8])))))
    exact fin_take (B := []) h2 ⟨rfl, rfl⟩
  | true =>
    have hl3 : l.length ≤ 3000 := by simpa using kf
    have w1 := h.li 1 rfl
    ((try simp only [S, TY, reduceCtorEq, nq0, nq1, nq2, nq3, nq4, iq0, iq1, iq2, iq3, iq4, iq5, iq6, iq7, iq8, w1]); (try (simp (disch := omega) only [W2, Int.cast_ofNat_Int]; (try simp only [S, TY, reduceCtorEq, nq0, nq1, nq2, nq3, nq4, iq0, iq1, iq2, iq3, iq4, iq5, iq6, iq7, iq8, w1]))); repeat ((first | (refine cl_drawi 19 D4_19 ([0, 1, 2, 3, 4, 5, 6, 7, 9, 8, 10]) (by decide) (by kernel_rfl) ?_; unfold D4_19) | (refine cl_drawi 30 D4_30 (List.range 9) (by decide) (by kernel_rfl) ?_; unfold D4_30)); simp only [S, TY, reduceCtorEq, nq0, nq1, nq2, nq3, nq4, iq0, iq1, iq2, iq3, iq4, iq5, iq6, iq7, iq8, w1]; (try (simp (disch := omega) only [W2, Int.cast_ofNat_Int]; (try simp only [S, TY, reduceCtorEq, nq0, nq1, nq2, nq3, nq4, iq0, iq1, iq2, iq3, iq4, iq5, iq6, iq7, iq8, w1])))))
    refine (EthR.dRight d s ty hf).at_ h [] _ rfl fun r B H2 hr h2 => ?_
    obtain ⟨rfl, rfl⟩ := hr
    obtain ⟨rb, hrb⟩ : ∃ b, Eth.right d s ty l.length = b := ⟨_, rfl⟩
    rw [hrb]
    replace h := h2
    clear h2 w1
    ((try simp only [S, TY, reduceCtorEq, nq0, nq1, nq2, nq3, nq4, iq0, iq1, iq2, iq3, iq4, iq5, iq6, iq7, iq8]); (try (simp (disch := omega) only [W2, Int.cast_ofNat_Int]; (try simp only [S, TY, reduceCtorEq, nq0, nq1, nq2, nq3, nq4, iq0, iq1, iq2, iq3, iq4, iq5, iq6, iq7, iq8]))); repeat ((first | (refine cl_drawi 19 D4_19 ([0, 1, 2, 3, 4, 5, 6, 7, 9, 8, 10]) (by decide) (by kernel_rfl) ?_; unfold D4_19) | (refine cl_drawi 30 D4_30 (List.range 9) (by decide) (by kernel_rfl) ?_; unfold D4_30)); simp only [S, TY, reduceCtorEq, nq0, nq1, nq2, nq3, nq4, iq0, iq1, iq2, iq3, iq4, iq5, iq6, iq7, iq8]; (try (simp (disch := omega) only [W2, Int.cast_ofNat_Int]; (try simp only [S, TY, reduceCtorEq, nq0, nq1, nq2, nq3, nq4, iq0, iq1, iq2, iq3, iq4, iq5, iq6, iq7, iq8])))))
    refine cl_loop (fun i e H => i ≤ 3 ∧ e 3 = .pointer (some ⟨b3, 0, none⟩) ∧ e 4 = .pointer (some ⟨b4, 0, none⟩) ∧ e 5 = .pointer (some ⟨b5, 0, none⟩) ∧ e 9 = .int .i64 (i : Nat) ∧
        ∃ x : Bool, e 8 = .bool x ∧ (x = true ↔ (rb = true) ∧ ∀ j, j < i → okL (ls l0 l1 l2 j)) ∧ sg G [pLots b3 (.slice x0 l0.length y0) (.slice x1 l1.length y1) (.slice x2 l2.length y2), pFr b4 d s ty (.slice va l.length vc), pAt b5 c id] H) (fun i : Nat => 3 - i) 0
      ⟨by omega, rfl, rfl, rfl, rfl, rb, rfl, by simp, h⟩ ?_
    clear h
    rintro i e H ⟨q1, q3, q4, q5, q9, x, q8, hx, h⟩
    by_cases g1 : i < 3
    · rcases (show i = 0 ∨ i = 1 ∨ i = 2 by omega) with rfl | rfl | rfl
      · have c3 := h.c0
        by_cases gl : (((l0).length : Nat) : Int) ≤ 100
        · ((try simp only [S, TY, reduceCtorEq, nq0, nq1, nq2, nq3, nq4, iq0, iq1, iq2, iq3, iq4, iq5, iq6, iq7, iq8, q3, q4, q5, q8, q9, c3, gl]); (try (simp (disch := omega) only [W2, Int.cast_ofNat_Int]; (try simp only [S, TY, reduceCtorEq, nq0, nq1, nq2, nq3, nq4, iq0, iq1, iq2, iq3, iq4, iq5, iq6, iq7, iq8, q3, q4, q5, q8, q9, c3, gl]))); repeat ((first | (refine cl_drawi 19 D4_19 ([0, 1, 2, 3, 4, 5, 6, 7, 9, 8, 10]) (by decide) (by kernel_rfl) ?_; unfold D4_19) | (refine cl_drawi 30 D4_30 (List.range 9) (by decide) (by kernel_rfl) ?_; unfold D4_30)); simp only [S, TY, reduceCtorEq, nq0, nq1, nq2, nq3, nq4, iq0, iq1, iq2, iq3, iq4, iq5, iq6, iq7, iq8, q3, q4, q5, q8, q9, c3, gl]; (try (simp (disch := omega) only [W2, Int.cast_ofNat_Int]; (try simp only [S, TY, reduceCtorEq, nq0, nq1, nq2, nq3, nq4, iq0, iq1, iq2, iq3, iq4, iq5, iq6, iq7, iq8, q3, q4, q5, q8, q9, c3, gl])))))
          refine (Stand_ok hr0 (by omega)).at_ h [] _ rfl fun r B H2 hr h2 => ?_
          obtain ⟨rfl, rfl⟩ := hr
          obtain ⟨y, hy⟩ : ∃ y, decide (Std l0) = y := ⟨_, rfl⟩
          have hy2 : y = true ↔ okL (ls l0 l1 l2 0) := by rw [← hy, decide_eq_true_eq]; exact ⟨fun z => ⟨(by show (l0).length ≤ 100; omega), z⟩, fun z => z.2⟩
          rw [hy]
          have hxy := stepI y hx hy2
          clear hy hy2 hx c3 h
          cases x with
          | true =>
            rw [Bool.true_and] at hxy
            ((try simp only [S, TY, reduceCtorEq, nq0, nq1, nq2, nq3, nq4, iq0, iq1, iq2, iq3, iq4, iq5, iq6, iq7, iq8, q3, q4, q5, q8, q9]); (try (simp (disch := omega) only [W2, Int.cast_ofNat_Int]; (try simp only [S, TY, reduceCtorEq, nq0, nq1, nq2, nq3, nq4, iq0, iq1, iq2, iq3, iq4, iq5, iq6, iq7, iq8, q3, q4, q5, q8, q9]))); repeat ((first | (refine cl_drawi 19 D4_19 ([0, 1, 2, 3, 4, 5, 6, 7, 9, 8, 10]) (by decide) (by kernel_rfl) ?_; unfold D4_19) | (refine cl_drawi 30 D4_30 (List.range 9) (by decide) (by kernel_rfl) ?_; unfold D4_30)); simp only [S, TY, reduceCtorEq, nq0, nq1, nq2, nq3, nq4, iq0, iq1, iq2, iq3, iq4, iq5, iq6, iq7, iq8, q3, q4, q5, q8, q9]; (try (simp (disch := omega) only [W2, Int.cast_ofNat_Int]; (try simp only [S, TY, reduceCtorEq, nq0, nq1, nq2, nq3, nq4, iq0, iq1, iq2, iq3, iq4, iq5, iq6, iq7, iq8, q3, q4, q5, q8, q9])))))
            exact .go (0 + 1) (by decide) ⟨by decide, q3, q4, q5, rfl, _, rfl, hxy, h2⟩
          | false =>
            rw [Bool.false_and] at hxy
            ((try simp only [S, TY, reduceCtorEq, nq0, nq1, nq2, nq3, nq4, iq0, iq1, iq2, iq3, iq4, iq5, iq6, iq7, iq8, q3, q4, q5, q8, q9]); (try (simp (disch := omega) only [W2, Int.cast_ofNat_Int]; (try simp only [S, TY, reduceCtorEq, nq0, nq1, nq2, nq3, nq4, iq0, iq1, iq2, iq3, iq4, iq5, iq6, iq7, iq8, q3, q4, q5, q8, q9]))); repeat ((first | (refine cl_drawi 19 D4_19 ([0, 1, 2, 3, 4, 5, 6, 7, 9, 8, 10]) (by decide) (by kernel_rfl) ?_; unfold D4_19) | (refine cl_drawi 30 D4_30 (List.range 9) (by decide) (by kernel_rfl) ?_; unfold D4_30)); simp only [S, TY, reduceCtorEq, nq0, nq1, nq2, nq3, nq4, iq0, iq1, iq2, iq3, iq4, iq5, iq6, iq7, iq8, q3, q4, q5, q8, q9]; (try (simp (disch := omega) only [W2, Int.cast_ofNat_Int]; (try simp only [S, TY, reduceCtorEq, nq0, nq1, nq2, nq3, nq4, iq0, iq1, iq2, iq3, iq4, iq5, iq6, iq7, iq8, q3, q4, q5, q8, q9])))))
            exact .go (0 + 1) (by decide) ⟨by decide, q3, q4, q5, rfl, _, rfl, hxy, h2⟩
        · have hy2 : false = true ↔ okL (ls l0 l1 l2 0) := ⟨fun z => (by cases z), fun z => (by have : (l0).length ≤ 100 := z.1; omega)⟩
          have hxy := stepI false hx hy2
          rw [Bool.and_false] at hxy
          clear hx hy2
          cases x with
          | true =>
            ((try simp only [S, TY, reduceCtorEq, nq0, nq1, nq2, nq3, nq4, iq0, iq1, iq2, iq3, iq4, iq5, iq6, iq7, iq8, q3, q4, q5, q8, q9, c3, gl]); (try (simp (disch := omega) only [W2, Int.cast_ofNat_Int]; (try simp only [S, TY, reduceCtorEq, nq0, nq1, nq2, nq3, nq4, iq0, iq1, iq2, iq3, iq4, iq5, iq6, iq7, iq8, q3, q4, q5, q8, q9, c3, gl]))); repeat ((first | (refine cl_drawi 19 D4_19 ([0, 1, 2, 3, 4, 5, 6, 7, 9, 8, 10]) (by decide) (by kernel_rfl) ?_; unfold D4_19) | (refine cl_drawi 30 D4_30 (List.range 9) (by decide) (by kernel_rfl) ?_; unfold D4_30)); simp only [S, TY, reduceCtorEq, nq0, nq1, nq2, nq3, nq4, iq0, iq1, iq2, iq3, iq4, iq5, iq6, iq7, iq8, q3, q4, q5, q8, q9, c3, gl]; (try (simp (disch := omega) only [W2, Int.cast_ofNat_Int]; (try simp only [S, TY, reduceCtorEq, nq0, nq1, nq2, nq3, nq4, iq0, iq1, iq2, iq3, iq4, iq5, iq6, iq7, iq8, q3, q4, q5, q8, q9, c3, gl])))))
            exact .go (0 + 1) (by decide) ⟨by decide, q3, q4, q5, rfl, _, rfl, hxy, h⟩
          | false =>
            ((try simp only [S, TY, reduceCtorEq, nq0, nq1, nq2, nq3, nq4, iq0, iq1, iq2, iq3, iq4, iq5, iq6, iq7, iq8, q3, q4, q5, q8, q9, c3, gl]); (try (simp (disch := omega) only [W2, Int.cast_ofNat_Int]; (try simp only [S, TY, reduceCtorEq, nq0, nq1, nq2, nq3, nq4, iq0, iq1, iq2, iq3, iq4, iq5, iq6, iq7, iq8, q3, q4, q5, q8, q9, c3, gl]))); repeat ((first | (refine cl_drawi 19 D4_19 ([0, 1, 2, 3, 4, 5, 6, 7, 9, 8, 10]) (by decide) (by kernel_rfl) ?_; unfold D4_19) | (refine cl_drawi 30 D4_30 (List.range 9) (by decide) (by kernel_rfl) ?_; unfold D4_30)); simp only [S, TY, reduceCtorEq, nq0, nq1, nq2, nq3, nq4, iq0, iq1, iq2, iq3, iq4, iq5, iq6, iq7, iq8, q3, q4, q5, q8, q9, c3, gl]; (try (simp (disch := omega) only [W2, Int.cast_ofNat_Int]; (try simp only [S, TY, reduceCtorEq, nq0, nq1, nq2, nq3, nq4, iq0, iq1, iq2, iq3, iq4, iq5, iq6, iq7, iq8, q3, q4, q5, q8, q9, c3, gl])))))
            exact .go (0 + 1) (by decide) ⟨by decide, q3, q4, q5, rfl, _, rfl, hxy, h⟩
      · have c3 := h.c0
        by_cases gl : (((l1).length : Nat) : Int) ≤ 100
        · ((try simp only [S, TY, reduceCtorEq, nq0, nq1, nq2, nq3, nq4, iq0, iq1, iq2, iq3, iq4, iq5, iq6, iq7, iq8, q3, q4, q5, q8, q9, c3, gl]); (try (simp (disch := omega) only [W2, Int.cast_ofNat_Int]; (try simp only [S, TY, reduceCtorEq, nq0, nq1, nq2, nq3, nq4, iq0, iq1, iq2, iq3, iq4, iq5, iq6, iq7, iq8, q3, q4, q5, q8, q9, c3, gl]))); repeat ((first | (refine cl_drawi 19 D4_19 ([0, 1, 2, 3, 4, 5, 6, 7, 9, 8, 10]) (by decide) (by kernel_rfl) ?_; unfold D4_19) | (refine cl_drawi 30 D4_30 (List.range 9) (by decide) (by kernel_rfl) ?_; unfold D4_30)); simp only [S, TY, reduceCtorEq, nq0, nq1, nq2, nq3, nq4, iq0, iq1, iq2, iq3, iq4, iq5, iq6, iq7, iq8, q3, q4, q5, q8, q9, c3, gl]; (try (simp (disch := omega) only [W2, Int.cast_ofNat_Int]; (try simp only [S, TY, reduceCtorEq, nq0, nq1, nq2, nq3, nq4, iq0, iq1, iq2, iq3, iq4, iq5, iq6, iq7, iq8, q3, q4, q5, q8, q9, c3, gl])))))
          refine (Stand_ok hr1 (by omega)).at_ h [] _ rfl fun r B H2 hr h2 => ?_
          obtain ⟨rfl, rfl⟩ := hr
          obtain ⟨y, hy⟩ : ∃ y, decide (Std l1) = y := ⟨_, rfl⟩
          have hy2 : y = true ↔ okL (ls l0 l1 l2 1) := by rw [← hy, decide_eq_true_eq]; exact ⟨fun z => ⟨(by show (l1).length ≤ 100; omega), z⟩, fun z => z.2⟩
          rw [hy]
          have hxy := stepI y hx hy2
          clear hy hy2 hx c3 h
          cases x with
          | true =>
            rw [Bool.true_and] at hxy
            ((try simp only [S, TY, reduceCtorEq, nq0, nq1, nq2, nq3, nq4, iq0, iq1, iq2, iq3, iq4, iq5, iq6, iq7, iq8, q3, q4, q5, q8, q9]); (try (simp (disch := omega) only [W2, Int.cast_ofNat_Int]; (try simp only [S, TY, reduceCtorEq, nq0, nq1, nq2, nq3, nq4, iq0, iq1, iq2, iq3, iq4, iq5, iq6, iq7, iq8, q3, q4, q5, q8, q9]))); repeat ((first | (refine cl_drawi 19 D4_19 ([0, 1, 2, 3, 4, 5, 6, 7, 9, 8, 10]) (by decide) (by kernel_rfl) ?_; unfold D4_19) | (refine cl_drawi 30 D4_30 (List.range 9) (by decide) (by kernel_rfl) ?_; unfold D4_30)); simp only [S, TY, reduceCtorEq, nq0, nq1, nq2, nq3, nq4, iq0, iq1, iq2, iq3, iq4, iq5, iq6, iq7, iq8, q3, q4, q5, q8, q9]; (try (simp (disch := omega) only [W2, Int.cast_ofNat_Int]; (try simp only [S, TY, reduceCtorEq, nq0, nq1, nq2, nq3, nq4, iq0, iq1, iq2, iq3, iq4, iq5, iq6, iq7, iq8, q3, q4, q5, q8, q9])))))
            exact .go (1 + 1) (by decide) ⟨by decide, q3, q4, q5, rfl, _, rfl, hxy, h2⟩
          | false =>
            rw [Bool.false_and] at hxy
            ((try simp only [S, TY, reduceCtorEq, nq0, nq1, nq2, nq3, nq4, iq0, iq1, iq2, iq3, iq4, iq5, iq6, iq7, iq8, q3, q4, q5, q8, q9]); (try (simp (disch := omega) only [W2, Int.cast_ofNat_Int]; (try simp only [S, TY, reduceCtorEq, nq0, nq1, nq2, nq3, nq4, iq0, iq1, iq2, iq3, iq4, iq5, iq6, iq7, iq8, q3, q4, q5, q8, q9]))); repeat ((first | (refine cl_drawi 19 D4_19 ([0, 1, 2, 3, 4, 5, 6, 7, 9, 8, 10]) (by decide) (by kernel_rfl) ?_; unfold D4_19) | (refine cl_drawi 30 D4_30 (List.range 9) (by decide) (by kernel_rfl) ?_; unfold D4_30)); simp only [S, TY, reduceCtorEq, nq0, nq1, nq2, nq3, nq4, iq0, iq1, iq2, iq3, iq4, iq5, iq6, iq7, iq8, q3, q4, q5, q8, q9]; (try (simp (disch := omega) only [W2, Int.cast_ofNat_Int]; (try simp only [S, TY, reduceCtorEq, nq0, nq1, nq2, nq3, nq4, iq0, iq1, iq2, iq3, iq4, iq5, iq6, iq7, iq8, q3, q4, q5, q8, q9])))))
            exact .go (1 + 1) (by decide) ⟨by decide, q3, q4, q5, rfl, _, rfl, hxy, h2⟩
        · have hy2 : false = true ↔ okL (ls l0 l1 l2 1) := ⟨fun z => (by cases z), fun z => (by have : (l1).length ≤ 100 := z.1; omega)⟩
          have hxy := stepI false hx hy2
          rw [Bool.and_false] at hxy
          clear hx hy2
          cases x with
          | true =>
            ((try simp only [S, TY, reduceCtorEq, nq0, nq1, nq2, nq3, nq4, iq0, iq1, iq2, iq3, iq4, iq5, iq6, iq7, iq8, q3, q4, q5, q8, q9, c3, gl]); (try (simp (disch := omega) only [W2, Int.cast_ofNat_Int]; (try simp only [S, TY, reduceCtorEq, nq0, nq1, nq2, nq3, nq4, iq0, iq1, iq2, iq3, iq4, iq5, iq6, iq7, iq8, q3, q4, q5, q8, q9, c3, gl]))); repeat ((first | (refine cl_drawi 19 D4_19 ([0, 1, 2, 3, 4, 5, 6, 7, 9, 8, 10]) (by decide) (by kernel_rfl) ?_; unfold D4_19) | (refine cl_drawi 30 D4_30 (List.range 9) (by decide) (by kernel_rfl) ?_; unfold D4_30)); simp only [S, TY, reduceCtorEq, nq0, nq1, nq2, nq3, nq4, iq0, iq1, iq2, iq3, iq4, iq5, iq6, iq7, iq8, q3, q4, q5, q8, q9, c3, gl]; (try (simp (disch := omega) only [W2, Int.cast_ofNat_Int]; (try simp only [S, TY, reduceCtorEq, nq0, nq1, nq2, nq3, nq4, iq0, iq1, iq2, iq3, iq4, iq5, iq6, iq7, iq8, q3, q4, q5, q8, q9, c3, gl])))))
            exact .go (1 + 1) (by decide) ⟨by decide, q3, q4, q5, rfl, _, rfl, hxy, h⟩
          | false =>
            ((try simp only [S, TY, reduceCtorEq, nq0, nq1, nq2, nq3, nq4, iq0, iq1, iq2, iq3, iq4, iq5, iq6, iq7, iq8, q3, q4, q5, q8, q9, c3, gl]); (try (simp (disch := omega) only [W2, Int.cast_ofNat_Int]; (try simp only [S, TY, reduceCtorEq, nq0, nq1, nq2, nq3, nq4, iq0, iq1, iq2, iq3, iq4, iq5, iq6, iq7, iq8, q3, q4, q5, q8, q9, c3, gl]))); repeat ((first | (refine cl_drawi 19 D4_19 ([0, 1, 2, 3, 4, 5, 6, 7, 9, 8, 10]) (by decide) (by kernel_rfl) ?_; unfold D4_19) | (refine cl_drawi 30 D4_30 (List.range 9) (by decide) (by kernel_rfl) ?_; unfold D4_30)); simp only [S, TY, reduceCtorEq, nq0, nq1, nq2, nq3, nq4, iq0, iq1, iq2, iq3, iq4, iq5, iq6, iq7, iq8, q3, q4, q5, q8, q9, c3, gl]; (try (simp (disch := omega) only [W2, Int.cast_ofNat_Int]; (try simp only [S, TY, reduceCtorEq, nq0, nq1, nq2, nq3, nq4, iq0, iq1, iq2, iq3, iq4, iq5, iq6, iq7, iq8, q3, q4, q5, q8, q9, c3, gl])))))
            exact .go (1 + 1) (by decide) ⟨by decide, q3, q4, q5, rfl, _, rfl, hxy, h⟩
      · have c3 := h.c0
        by_cases gl : (((l2).length : Nat) : Int) ≤ 100
        · ((try simp only [S, TY, reduceCtorEq, nq0, nq1, nq2, nq3, nq4, iq0, iq1, iq2, iq3, iq4, iq5, iq6, iq7, iq8, q3, q4, q5, q8, q9, c3, gl]); (try (simp (disch := omega) only [W2, Int.cast_ofNat_Int]; (try simp only [S, TY, reduceCtorEq, nq0, nq1, nq2, nq3, nq4, iq0, iq1, iq2, iq3, iq4, iq5, iq6, iq7, iq8, q3, q4, q5, q8, q9, c3, gl]))); repeat ((first | (refine cl_drawi 19 D4_19 ([0, 1, 2, 3, 4, 5, 6, 7, 9, 8, 10]) (by decide) (by kernel_rfl) ?_; unfold D4_19) | (refine cl_drawi 30 D4_30 (List.range 9) (by decide) (by kernel_rfl) ?_; unfold D4_30)); simp only [S, TY, reduceCtorEq, nq0, nq1, nq2, nq3, nq4, iq0, iq1, iq2, iq3, iq4, iq5, iq6, iq7, iq8, q3, q4, q5, q8, q9, c3, gl]; (try (simp (disch := omega) only [W2, Int.cast_ofNat_Int]; (try simp only [S, TY, reduceCtorEq, nq0, nq1, nq2, nq3, nq4, iq0, iq1, iq2, iq3, iq4, iq5, iq6, iq7, iq8, q3, q4, q5, q8, q9, c3, gl])))))
          refine (Stand_ok hr2 (by omega)).at_ h [] _ rfl fun r B H2 hr h2 => ?_
          obtain ⟨rfl, rfl⟩ := hr
          obtain ⟨y, hy⟩ : ∃ y, decide (Std l2) = y := ⟨_, rfl⟩
          have hy2 : y = true ↔ okL (ls l0 l1 l2 2) := by rw [← hy, decide_eq_true_eq]; exact ⟨fun z => ⟨(by show (l2).length ≤ 100; omega), z⟩, fun z => z.2⟩
          rw [hy]
          have hxy := stepI y hx hy2
          clear hy hy2 hx c3 h
          cases x with
          | true =>
            rw [Bool.true_and] at hxy
            ((try simp only [S, TY, reduceCtorEq, nq0, nq1, nq2, nq3, nq4, iq0, iq1, iq2, iq3, iq4, iq5, iq6, iq7, iq8, q3, q4, q5, q8, q9]); (try (simp (disch := omega) only [W2, Int.cast_ofNat_Int]; (try simp only [S, TY, reduceCtorEq, nq0, nq1, nq2, nq3, nq4, iq0, iq1, iq2, iq3, iq4, iq5, iq6, iq7, iq8, q3, q4, q5, q8, q9]))); repeat ((first | (refine cl_drawi 19 D4_19 ([0, 1, 2, 3, 4, 5, 6, 7, 9, 8, 10]) (by decide) (by kernel_rfl) ?_; unfold D4_19) | (refine cl_drawi 30 D4_30 (List.range 9) (by decide) (by kernel_rfl) ?_; unfold D4_30)); simp only [S, TY, reduceCtorEq, nq0, nq1, nq2, nq3, nq4, iq0, iq1, iq2, iq3, iq4, iq5, iq6, iq7, iq8, q3, q4, q5, q8, q9]; (try (simp (disch := omega) only [W2, Int.cast_ofNat_Int]; (try simp only [S, TY, reduceCtorEq, nq0, nq1, nq2, nq3, nq4, iq0, iq1, iq2, iq3, iq4, iq5, iq6, iq7, iq8, q3, q4, q5, q8, q9])))))
            exact .go (2 + 1) (by decide) ⟨by decide, q3, q4, q5, rfl, _, rfl, hxy, h2⟩
          | false =>
            rw [Bool.false_and] at hxy
            ((try simp only [S, TY, reduceCtorEq, nq0, nq1, nq2, nq3, nq4, iq0, iq1, iq2, iq3, iq4, iq5, iq6, iq7, iq8, q3, q4, q5, q8, q9]); (try (simp (disch := omega) only [W2, Int.cast_ofNat_Int]; (try simp only [S, TY, reduceCtorEq, nq0, nq1, nq2, nq3, nq4, iq0, iq1, iq2, iq3, iq4, iq5, iq6, iq7, iq8, q3, q4, q5, q8, q9]))); repeat ((first | (refine cl_drawi 19 D4_19 ([0, 1, 2, 3, 4, 5, 6, 7, 9, 8, 10]) (by decide) (by kernel_rfl) ?_; unfold D4_19) | (refine cl_drawi 30 D4_30 (List.range 9) (by decide) (by kernel_rfl) ?_; unfold D4_30)); simp only [S, TY, reduceCtorEq, nq0, nq1, nq2, nq3, nq4, iq0, iq1, iq2, iq3, iq4, iq5, iq6, iq7, iq8, q3, q4, q5, q8, q9]; (try (simp (disch := omega) only [W2, Int.cast_ofNat_Int]; (try simp only [S, TY, reduceCtorEq, nq0, nq1, nq2, nq3, nq4, iq0, iq1, iq2, iq3, iq4, iq5, iq6, iq7, iq8, q3, q4, q5, q8, q9])))))
            exact .go (2 + 1) (by decide) ⟨by decide, q3, q4, q5, rfl, _, rfl, hxy, h2⟩
        · have hy2 : false = true ↔ okL (ls l0 l1 l2 2) := ⟨fun z => (by cases z), fun z => (by have : (l2).length ≤ 100 := z.1; omega)⟩
          have hxy := stepI false hx hy2
          rw [Bool.and_false] at hxy
          clear hx hy2
          cases x with
          | true =>
            ((try simp only [S, TY, reduceCtorEq, nq0, nq1, nq2, nq3, nq4, iq0, iq1, iq2, iq3, iq4, iq5, iq6, iq7, iq8, q3, q4, q5, q8, q9, c3, gl]); (try (simp (disch := omega) only [W2, Int.cast_ofNat_Int]; (try simp only [S, TY, reduceCtorEq, nq0, nq1, nq2, nq3, nq4, iq0, iq1, iq2, iq3, iq4, iq5, iq6, iq7, iq8, q3, q4, q5, q8, q9, c3, gl]))); repeat ((first | (refine cl_drawi 19 D4_19 ([0, 1, 2, 3, 4, 5, 6, 7, 9, 8, 10]) (by decide) (by kernel_rfl) ?_; unfold D4_19) | (refine cl_drawi 30 D4_30 (List.range 9) (by decide) (by kernel_rfl) ?_; unfold D4_30)); simp only [S, TY, reduceCtorEq, nq0, nq1, nq2, nq3, nq4, iq0, iq1, iq2, iq3, iq4, iq5, iq6, iq7, iq8, q3, q4, q5, q8, q9, c3, gl]; (try (simp (disch := omega) only [W2, Int.cast_ofNat_Int]; (try simp only [S, TY, reduceCtorEq, nq0, nq1, nq2, nq3, nq4, iq0, iq1, iq2, iq3, iq4, iq5, iq6, iq7, iq8, q3, q4, q5, q8, q9, c3, gl])))))
            exact .go (2 + 1) (by decide) ⟨by decide, q3, q4, q5, rfl, _, rfl, hxy, h⟩
          | false =>
            ((try simp only [S, TY, reduceCtorEq, nq0, nq1, nq2, nq3, nq4, iq0, iq1, iq2, iq3, iq4, iq5, iq6, iq7, iq8, q3, q4, q5, q8, q9, c3, gl]); (try (simp (disch := omega) only [W2, Int.cast_ofNat_Int]; (try simp only [S, TY, reduceCtorEq, nq0, nq1, nq2, nq3, nq4, iq0, iq1, iq2, iq3, iq4, iq5, iq6, iq7, iq8, q3, q4, q5, q8, q9, c3, gl]))); repeat ((first | (refine cl_drawi 19 D4_19 ([0, 1, 2, 3, 4, 5, 6, 7, 9, 8, 10]) (by decide) (by kernel_rfl) ?_; unfold D4_19) | (refine cl_drawi 30 D4_30 (List.range 9) (by decide) (by kernel_rfl) ?_; unfold D4_30)); simp only [S, TY, reduceCtorEq, nq0, nq1, nq2, nq3, nq4, iq0, iq1, iq2, iq3, iq4, iq5, iq6, iq7, iq8, q3, q4, q5, q8, q9, c3, gl]; (try (simp (disch := omega) only [W2, Int.cast_ofNat_Int]; (try simp only [S, TY, reduceCtorEq, nq0, nq1, nq2, nq3, nq4, iq0, iq1, iq2, iq3, iq4, iq5, iq6, iq7, iq8, q3, q4, q5, q8, q9, c3, gl])))))
            exact .go (2 + 1) (by decide) ⟨by decide, q3, q4, q5, rfl, _, rfl, hxy, h⟩
    obtain rfl : i = 3 := by omega
    clear g1 q1
    have hrt : ∀ b : Bool, x = b → (b = true ↔ rb = true ∧ ∀ j, j < 3 → okL (ls l0 l1 l2 j)) := fun b hb => hb ▸ hx
    cases x with
    | false =>
      ((try simp only [S, TY, reduceCtorEq, nq0, nq1, nq2, nq3, nq4, iq0, iq1, iq2, iq3, iq4, iq5, iq6, iq7, iq8, q3, q4, q5, q8, q9]); (try (simp (disch := omega) only [W2, Int.cast_ofNat_Int]; (try simp only [S, TY, reduceCtorEq, nq0, nq1, nq2, nq3, nq4, iq0, iq1, iq2, iq3, iq4, iq5, iq6, iq7, iq8, q3, q4, q5, q8, q9]))); repeat ((first | (refine cl_drawi 19 D4_19 ([0, 1, 2, 3, 4, 5, 6, 7, 9, 8, 10]) (by decide) (by kernel_rfl) ?_; unfold D4_19) | (refine cl_drawi 30 D4_30 (List.range 9) (by decide) (by kernel_rfl) ?_; unfold D4_30)); simp only [S, TY, reduceCtorEq, nq0, nq1, nq2, nq3, nq4, iq0, iq1, iq2, iq3, iq4, iq5, iq6, iq7, iq8, q3, q4, q5, q8, q9]; (try (simp (disch := omega) only [W2, Int.cast_ofNat_Int]; (try simp only [S, TY, reduceCtorEq, nq0, nq1, nq2, nq3, nq4, iq0, iq1, iq2, iq3, iq4, iq5, iq6, iq7, iq8, q3, q4, q5, q8, q9])))))
      refine DpL.alive.at_ h [] _ rfl fun r B H2 hr h2 => ?_
      obtain ⟨rfl, rfl⟩ := hr
      ((try simp only [S, TY, reduceCtorEq, nq0, nq1, nq2, nq3, nq4, iq0, iq1, iq2, iq3, iq4, iq5, iq6, iq7, iq8]); (try (simp (disch := omega) only [W2, Int.cast_ofNat_Int]; (try simp only [S, TY, reduceCtorEq, nq0, nq1, nq2, nq3, nq4, iq0, iq1, iq2, iq3, iq4, iq5, iq6, iq7, iq8]))); repeat ((first | (refine cl_drawi 19 D4_19 ([0, 1, 2, 3, 4, 5, 6, 7, 9, 8, 10]) (by decide) (by kernel_rfl) ?_; unfold D4_19) | (refine cl_drawi 30 D4_30 (List.range 9) (by decide) (by kernel_rfl) ?_; unfold D4_30)); simp only [S, TY, reduceCtorEq, nq0, nq1, nq2, nq3, nq4, iq0, iq1, iq2, iq3, iq4, iq5, iq6, iq7, iq8]; (try (simp (disch := omega) only [W2, Int.cast_ofNat_Int]; (try simp only [S, TY, reduceCtorEq, nq0, nq1, nq2, nq3, nq4, iq0, iq1, iq2, iq3, iq4, iq5, iq6, iq7, iq8])))))
      exact fin_take (B := []) h2 ⟨rfl, rfl⟩
    | true =>
      obtain ⟨rfl, hok⟩ := hx.1 rfl
      clear hx hrt
      have hk0 : okL l0 := hok 0 (by decide)
      have hk1 : okL l1 := hok 1 (by decide)
      have hk2 : okL l2 := hok 2 (by decide)
      have c5 := (h.front 2).c0
      by_cases gc : (0 ≤ c ∧ c ≤ 15) ∧ 0 ≤ id ∧ id ≤ 1099511627776
      · have gc1 : ¬ c < 0 := by omega
        have gc2 : ¬ (15 : Int) < c := by omega
        have gc3 : ¬ id < 0 := by omega
        have gc4 : ¬ (1099511627776 : Int) < id := by omega
        have w1 := h.li 1 rfl
        ((try simp only [S, TY, reduceCtorEq, nq0, nq1, nq2, nq3, nq4, iq0, iq1, iq2, iq3, iq4, iq5, iq6, iq7, iq8, q3, q4, q5, q8, q9, c5, gc1, gc2, gc3, gc4, w1]); (try (simp (disch := omega) only [W2, Int.cast_ofNat_Int]; (try simp only [S, TY, reduceCtorEq, nq0, nq1, nq2, nq3, nq4, iq0, iq1, iq2, iq3, iq4, iq5, iq6, iq7, iq8, q3, q4, q5, q8, q9, c5, gc1, gc2, gc3, gc4, w1]))); repeat ((first | (refine cl_drawi 19 D4_19 ([0, 1, 2, 3, 4, 5, 6, 7, 9, 8, 10]) (by decide) (by kernel_rfl) ?_; unfold D4_19) | (refine cl_drawi 30 D4_30 (List.range 9) (by decide) (by kernel_rfl) ?_; unfold D4_30)); simp only [S, TY, reduceCtorEq, nq0, nq1, nq2, nq3, nq4, iq0, iq1, iq2, iq3, iq4, iq5, iq6, iq7, iq8, q3, q4, q5, q8, q9, c5, gc1, gc2, gc3, gc4, w1]; (try (simp (disch := omega) only [W2, Int.cast_ofNat_Int]; (try simp only [S, TY, reduceCtorEq, nq0, nq1, nq2, nq3, nq4, iq0, iq1, iq2, iq3, iq4, iq5, iq6, iq7, iq8, q3, q4, q5, q8, q9, c5, gc1, gc2, gc3, gc4, w1])))))
        refine (EthR.dBytes d s ty hd hs hrb hf).at_ h [] _ rfl fun r B H2 hr h2 => ?_
        subst hr
        obtain ⟨ba, bn, bc, rfl, _, _⟩ := h2.sl 0 rfl Rd_own
        have hEl := enc_le hd hs hrb
        obtain ⟨E, hE⟩ : ∃ E, enc d s ty l = E := ⟨_, rfl⟩
        have hgok : gok d s ty l.length c id = true := by unfold gok; rw [hrb, decide_eq_true gc]; rfl
        have c5 := (h2.front 3).c0
        ((try simp only [S, TY, reduceCtorEq, nq0, nq1, nq2, nq3, nq4, iq0, iq1, iq2, iq3, iq4, iq5, iq6, iq7, iq8, q3, q4, q5, c5]); (try (simp (disch := omega) only [W2, Int.cast_ofNat_Int]; (try simp only [S, TY, reduceCtorEq, nq0, nq1, nq2, nq3, nq4, iq0, iq1, iq2, iq3, iq4, iq5, iq6, iq7, iq8, q3, q4, q5, c5]))); repeat ((first | (refine cl_drawi 19 D4_19 ([0, 1, 2, 3, 4, 5, 6, 7, 9, 8, 10]) (by decide) (by kernel_rfl) ?_; unfold D4_19) | (refine cl_drawi 30 D4_30 (List.range 9) (by decide) (by kernel_rfl) ?_; unfold D4_30)); simp only [S, TY, reduceCtorEq, nq0, nq1, nq2, nq3, nq4, iq0, iq1, iq2, iq3, iq4, iq5, iq6, iq7, iq8, q3, q4, q5, c5]; (try (simp (disch := omega) only [W2, Int.cast_ofNat_Int]; (try simp only [S, TY, reduceCtorEq, nq0, nq1, nq2, nq3, nq4, iq0, iq1, iq2, iq3, iq4, iq5, iq6, iq7, iq8, q3, q4, q5, c5])))))
        intro nv hnv hngv
        have h3 := h2.newsl (e := 3) (sz := 1) (n := 1) (xs := [.int .i64 c]) hnv hngv rfl
        have c5 := (h3.front 4).c0
        have c3 := (h3.front 2).c0
        ((try simp only [S, TY, reduceCtorEq, nq0, nq1, nq2, nq3, nq4, iq0, iq1, iq2, iq3, iq4, iq5, iq6, iq7, iq8, q3, q4, q5, c5, c3]); (try (simp (disch := omega) only [W2, Int.cast_ofNat_Int]; (try simp only [S, TY, reduceCtorEq, nq0, nq1, nq2, nq3, nq4, iq0, iq1, iq2, iq3, iq4, iq5, iq6, iq7, iq8, q3, q4, q5, c5, c3]))); repeat ((first | (refine cl_drawi 19 D4_19 ([0, 1, 2, 3, 4, 5, 6, 7, 9, 8, 10]) (by decide) (by kernel_rfl) ?_; unfold D4_19) | (refine cl_drawi 30 D4_30 (List.range 9) (by decide) (by kernel_rfl) ?_; unfold D4_30)); simp only [S, TY, reduceCtorEq, nq0, nq1, nq2, nq3, nq4, iq0, iq1, iq2, iq3, iq4, iq5, iq6, iq7, iq8, q3, q4, q5, c5, c3]; (try (simp (disch := omega) only [W2, Int.cast_ofNat_Int]; (try simp only [S, TY, reduceCtorEq, nq0, nq1, nq2, nq3, nq4, iq0, iq1, iq2, iq3, iq4, iq5, iq6, iq7, iq8, q3, q4, q5, c5, c3])))))
        refine (Table_ok c hr0 hk0.1).at_ h3 [] _ rfl fun r B H4 hr h4 => ?_
        obtain ⟨pt, rfl, rfl⟩ := hr
        have hTl := comp_len c l0
        have hk01 := hk0.1
        obtain ⟨T, hT⟩ : ∃ T, l0.flatMap (comp c) = T := ⟨_, rfl⟩
        rw [hT] at h4 hTl
        simp only [front_eq, fronts_nil, fronts_cons, List.getElem?_cons_zero, List.getElem?_cons_succ, List.eraseIdx_cons_zero, List.eraseIdx_cons_succ, List.cons_append, List.nil_append, putL_cons, putL_nil, List.set_cons_zero, List.set_cons_succ, Nat.reduceAdd] at h4
        have c5 := (h4.front 5).c0
        have w4 := h4.li 4 rfl
        ((try simp only [S, TY, reduceCtorEq, nq0, nq1, nq2, nq3, nq4, iq0, iq1, iq2, iq3, iq4, iq5, iq6, iq7, iq8, q3, q4, q5, c5, w4]); (try (simp (disch := omega) only [W2, Int.cast_ofNat_Int]; (try simp only [S, TY, reduceCtorEq, nq0, nq1, nq2, nq3, nq4, iq0, iq1, iq2, iq3, iq4, iq5, iq6, iq7, iq8, q3, q4, q5, c5, w4]))); repeat ((first | (refine cl_drawi 19 D4_19 ([0, 1, 2, 3, 4, 5, 6, 7, 9, 8, 10]) (by decide) (by kernel_rfl) ?_; unfold D4_19) | (refine cl_drawi 30 D4_30 (List.range 9) (by decide) (by kernel_rfl) ?_; unfold D4_30)); simp only [S, TY, reduceCtorEq, nq0, nq1, nq2, nq3, nq4, iq0, iq1, iq2, iq3, iq4, iq5, iq6, iq7, iq8, q3, q4, q5, c5, w4]; (try (simp (disch := omega) only [W2, Int.cast_ofNat_Int]; (try simp only [S, TY, reduceCtorEq, nq0, nq1, nq2, nq3, nq4, iq0, iq1, iq2, iq3, iq4, iq5, iq6, iq7, iq8, q3, q4, q5, c5, w4])))))
        refine (DpG.Guest_ok (t := T) d s ty hd hs hty hf (by omega) c id).at_ h4 [0] _ rfl fun r B H5 hr h5 => ?_
        unfold DpG.GuestR at hr
        rw [if_pos hgok] at hr
        obtain ⟨u, rfl, rfl⟩ := hr
        obtain ⟨ua, un, uc, rfl, _, _⟩ := h5.sl 0 rfl Rd_own
        simp only [front_eq, fronts_nil, fronts_cons, List.getElem?_cons_zero, List.getElem?_cons_succ, List.eraseIdx_cons_zero, List.eraseIdx_cons_succ, List.cons_append, List.nil_append, putL_cons, putL_nil, List.set_cons_zero, List.set_cons_succ, Nat.reduceAdd] at h5
        have hcs := wayM_cases (lookT ⟨0, d, 0, 0, -1⟩ T).1 c id (enc d s ty l).length
        rw [hE] at h5 hcs hEl ⊢
        rcases hcs with hd | ⟨p, g, hd⟩ | ⟨t, p, g, hd, hrt⟩
        · rw [hd]
          ((try simp only [S, TY, reduceCtorEq, nq0, nq1, nq2, nq3, nq4, iq0, iq1, iq2, iq3, iq4, iq5, iq6, iq7, iq8, q3, q4, q5]); (try (simp (disch := omega) only [W2, Int.cast_ofNat_Int]; (try simp only [S, TY, reduceCtorEq, nq0, nq1, nq2, nq3, nq4, iq0, iq1, iq2, iq3, iq4, iq5, iq6, iq7, iq8, q3, q4, q5]))); repeat ((first | (refine cl_drawi 19 D4_19 ([0, 1, 2, 3, 4, 5, 6, 7, 9, 8, 10]) (by decide) (by kernel_rfl) ?_; unfold D4_19) | (refine cl_drawi 30 D4_30 (List.range 9) (by decide) (by kernel_rfl) ?_; unfold D4_30)); simp only [S, TY, reduceCtorEq, nq0, nq1, nq2, nq3, nq4, iq0, iq1, iq2, iq3, iq4, iq5, iq6, iq7, iq8, q3, q4, q5]; (try (simp (disch := omega) only [W2, Int.cast_ofNat_Int]; (try simp only [S, TY, reduceCtorEq, nq0, nq1, nq2, nq3, nq4, iq0, iq1, iq2, iq3, iq4, iq5, iq6, iq7, iq8, q3, q4, q5])))))
          intro bo hbo hgo
          have h6 := h5.new hbo hgo (.cells (Oc.l nilS .drop).toArray 34 (0, 0))
          ((try simp only [S, TY, reduceCtorEq, nq0, nq1, nq2, nq3, nq4, iq0, iq1, iq2, iq3, iq4, iq5, iq6, iq7, iq8, q3, q4, q5]); (try (simp (disch := omega) only [W2, Int.cast_ofNat_Int]; (try simp only [S, TY, reduceCtorEq, nq0, nq1, nq2, nq3, nq4, iq0, iq1, iq2, iq3, iq4, iq5, iq6, iq7, iq8, q3, q4, q5]))); repeat ((first | (refine cl_drawi 19 D4_19 ([0, 1, 2, 3, 4, 5, 6, 7, 9, 8, 10]) (by decide) (by kernel_rfl) ?_; unfold D4_19) | (refine cl_drawi 30 D4_30 (List.range 9) (by decide) (by kernel_rfl) ?_; unfold D4_30)); simp only [S, TY, reduceCtorEq, nq0, nq1, nq2, nq3, nq4, iq0, iq1, iq2, iq3, iq4, iq5, iq6, iq7, iq8, q3, q4, q5]; (try (simp (disch := omega) only [W2, Int.cast_ofNat_Int]; (try simp only [S, TY, reduceCtorEq, nq0, nq1, nq2, nq3, nq4, iq0, iq1, iq2, iq3, iq4, iq5, iq6, iq7, iq8, q3, q4, q5])))))
          refine sg.st h6 rfl rfl fun H7 h7 => ?_
          simp only [front_eq, fronts_nil, fronts_cons, List.getElem?_cons_zero, List.getElem?_cons_succ, List.eraseIdx_cons_zero, List.eraseIdx_cons_succ, List.cons_append, List.nil_append, putL_cons, putL_nil, List.set_cons_zero, List.set_cons_succ, Nat.reduceAdd] at h7
          ((try simp only [S, TY, reduceCtorEq, nq0, nq1, nq2, nq3, nq4, iq0, iq1, iq2, iq3, iq4, iq5, iq6, iq7, iq8, q3, q4, q5]); (try (simp (disch := omega) only [W2, Int.cast_ofNat_Int]; (try simp only [S, TY, reduceCtorEq, nq0, nq1, nq2, nq3, nq4, iq0, iq1, iq2, iq3, iq4, iq5, iq6, iq7, iq8, q3, q4, q5]))); repeat ((first | (refine cl_drawi 19 D4_19 ([0, 1, 2, 3, 4, 5, 6, 7, 9, 8, 10]) (by decide) (by kernel_rfl) ?_; unfold D4_19) | (refine cl_drawi 30 D4_30 (List.range 9) (by decide) (by kernel_rfl) ?_; unfold D4_30)); simp only [S, TY, reduceCtorEq, nq0, nq1, nq2, nq3, nq4, iq0, iq1, iq2, iq3, iq4, iq5, iq6, iq7, iq8, q3, q4, q5]; (try (simp (disch := omega) only [W2, Int.cast_ofNat_Int]; (try simp only [S, TY, reduceCtorEq, nq0, nq1, nq2, nq3, nq4, iq0, iq1, iq2, iq3, iq4, iq5, iq6, iq7, iq8, q3, q4, q5])))))
          refine main_loop (l0 := l0) (x0 := x0) (y0 := y0) (E := E) (c := c) (id := id) (b3 := b3) (b5 := b5) (bo := bo) (ba := ba) (bn := bn) (bc := bc) (oc := .drop) (vis := [c]) (vv := .slice (some ⟨nv, 0, none⟩) 1 1) (u := .slice ua un uc) hEl hr1 hr2 hk1.1 hk2.1 (fun e' H' oc vis vv u2 hF r5 r11 r12 r15 r16 h' => ?_)
            ⟨by simp, by simp, trivial⟩ (by exact q3) (by exact q5) (by rfl) (by rfl) (by rfl) (by rfl) (by rfl) ⟨h7.1, seps_take (B := [_, _, _, _, _, _]) (h7.fronts [0, 2, 0, 1, 1, 2]).2⟩
          obtain ⟨fp, fl, fo⟩ := hF
          obtain ⟨va2, vn2, vc2, rfl, z1, _⟩ := h'.sl 1 rfl Rd_own
          rw [Nat.mul_one, iv_length] at z1
          subst z1
          ((try simp only [S, TY, reduceCtorEq, nq0, nq1, nq2, nq3, nq4, iq0, iq1, iq2, iq3, iq4, iq5, iq6, iq7, iq8, r5, r11, r12, r15, r16]); (try (simp (disch := omega) only [W2, Int.cast_ofNat_Int]; (try simp only [S, TY, reduceCtorEq, nq0, nq1, nq2, nq3, nq4, iq0, iq1, iq2, iq3, iq4, iq5, iq6, iq7, iq8, r5, r11, r12, r15, r16]))); repeat ((first | (refine cl_drawi 19 D4_19 ([0, 1, 2, 3, 4, 5, 6, 7, 9, 8, 10]) (by decide) (by kernel_rfl) ?_; unfold D4_19) | (refine cl_drawi 30 D4_30 (List.range 9) (by decide) (by kernel_rfl) ?_; unfold D4_30)); simp only [S, TY, reduceCtorEq, nq0, nq1, nq2, nq3, nq4, iq0, iq1, iq2, iq3, iq4, iq5, iq6, iq7, iq8, r5, r11, r12, r15, r16]; (try (simp (disch := omega) only [W2, Int.cast_ofNat_Int]; (try simp only [S, TY, reduceCtorEq, nq0, nq1, nq2, nq3, nq4, iq0, iq1, iq2, iq3, iq4, iq5, iq6, iq7, iq8, r5, r11, r12, r15, r16])))))
          refine tail_loop fp fl (by exact r12) (by rfl) (h'.rdsi 1 rfl Rd_own) (fun e2 s5 s11 s15 s16 => ?_)
          replace s5 := s5.trans r5
          replace s11 := s11.trans r11
          replace s15 := s15.trans r15
          replace s16 := s16.trans r16
          ((try simp only [S, TY, reduceCtorEq, nq0, nq1, nq2, nq3, nq4, iq0, iq1, iq2, iq3, iq4, iq5, iq6, iq7, iq8, s5, s11, s15, s16]); (try (simp (disch := omega) only [W2, Int.cast_ofNat_Int]; (try simp only [S, TY, reduceCtorEq, nq0, nq1, nq2, nq3, nq4, iq0, iq1, iq2, iq3, iq4, iq5, iq6, iq7, iq8, s5, s11, s15, s16]))); repeat ((first | (refine cl_drawi 19 D4_19 ([0, 1, 2, 3, 4, 5, 6, 7, 9, 8, 10]) (by decide) (by kernel_rfl) ?_; unfold D4_19) | (refine cl_drawi 30 D4_30 (List.range 9) (by decide) (by kernel_rfl) ?_; unfold D4_30)); simp only [S, TY, reduceCtorEq, nq0, nq1, nq2, nq3, nq4, iq0, iq1, iq2, iq3, iq4, iq5, iq6, iq7, iq8, s5, s11, s15, s16]; (try (simp (disch := omega) only [W2, Int.cast_ofNat_Int]; (try simp only [S, TY, reduceCtorEq, nq0, nq1, nq2, nq3, nq4, iq0, iq1, iq2, iq3, iq4, iq5, iq6, iq7, iq8, s5, s11, s15, s16])))))
          refine DpL.alive.at_ h' [] _ rfl fun r B H8 hr h8 => ?_
          obtain ⟨rfl, rfl⟩ := hr
          obtain ⟨uu, uu2, uu3, rfl, _, _⟩ := h8.sl 2 rfl Rd_own
          have t2 := rStr_of (P := Try.prog) (h8.rdsi 2 rfl Rd_own)
          have t3 := rStr_of (P := Try.prog) (h8.rdsi 3 rfl Rd_own)
          cases oc with
          | drop =>
            have c8 := h8.c0
            ((try simp only [S, TY, reduceCtorEq, nq0, nq1, nq2, nq3, nq4, iq0, iq1, iq2, iq3, iq4, iq5, iq6, iq7, iq8, s5, s11, s15, s16, c8]); (try (simp (disch := omega) only [W2, Int.cast_ofNat_Int]; (try simp only [S, TY, reduceCtorEq, nq0, nq1, nq2, nq3, nq4, iq0, iq1, iq2, iq3, iq4, iq5, iq6, iq7, iq8, s5, s11, s15, s16, c8]))); repeat ((first | (refine cl_drawi 19 D4_19 ([0, 1, 2, 3, 4, 5, 6, 7, 9, 8, 10]) (by decide) (by kernel_rfl) ?_; unfold D4_19) | (refine cl_drawi 30 D4_30 (List.range 9) (by decide) (by kernel_rfl) ?_; unfold D4_30)); simp only [S, TY, reduceCtorEq, nq0, nq1, nq2, nq3, nq4, iq0, iq1, iq2, iq3, iq4, iq5, iq6, iq7, iq8, s5, s11, s15, s16, c8]; (try (simp (disch := omega) only [W2, Int.cast_ofNat_Int]; (try simp only [S, TY, reduceCtorEq, nq0, nq1, nq2, nq3, nq4, iq0, iq1, iq2, iq3, iq4, iq5, iq6, iq7, iq8, s5, s11, s15, s16, c8])))))
            exact fin_take (B := []) h8 ⟨rfl, rfl⟩
          | del pp gg ss =>
            have c8 := h8.c0
            have hle : ss ≤ gg := fo
            ((try simp only [S, TY, reduceCtorEq, nq0, nq1, nq2, nq3, nq4, iq0, iq1, iq2, iq3, iq4, iq5, iq6, iq7, iq8, s5, s11, s15, s16, c8, t2, t3, hle]); (try (simp (disch := omega) only [W2, Int.cast_ofNat_Int]; (try simp only [S, TY, reduceCtorEq, nq0, nq1, nq2, nq3, nq4, iq0, iq1, iq2, iq3, iq4, iq5, iq6, iq7, iq8, s5, s11, s15, s16, c8, t2, t3, hle]))); repeat ((first | (refine cl_drawi 19 D4_19 ([0, 1, 2, 3, 4, 5, 6, 7, 9, 8, 10]) (by decide) (by kernel_rfl) ?_; unfold D4_19) | (refine cl_drawi 30 D4_30 (List.range 9) (by decide) (by kernel_rfl) ?_; unfold D4_30)); simp only [S, TY, reduceCtorEq, nq0, nq1, nq2, nq3, nq4, iq0, iq1, iq2, iq3, iq4, iq5, iq6, iq7, iq8, s5, s11, s15, s16, c8, t2, t3, hle]; (try (simp (disch := omega) only [W2, Int.cast_ofNat_Int]; (try simp only [S, TY, reduceCtorEq, nq0, nq1, nq2, nq3, nq4, iq0, iq1, iq2, iq3, iq4, iq5, iq6, iq7, iq8, s5, s11, s15, s16, c8, t2, t3, hle])))))
            exact fin_take (B := []) h8 ⟨rfl, rfl⟩
          | snt k o f t p g i =>
            obtain ⟨-, -, hw⟩ := fo
            omega
        · rw [hd]
          ((try simp only [S, TY, reduceCtorEq, nq0, nq1, nq2, nq3, nq4, iq0, iq1, iq2, iq3, iq4, iq5, iq6, iq7, iq8, q3, q4, q5]); (try (simp (disch := omega) only [W2, Int.cast_ofNat_Int]; (try simp only [S, TY, reduceCtorEq, nq0, nq1, nq2, nq3, nq4, iq0, iq1, iq2, iq3, iq4, iq5, iq6, iq7, iq8, q3, q4, q5]))); repeat ((first | (refine cl_drawi 19 D4_19 ([0, 1, 2, 3, 4, 5, 6, 7, 9, 8, 10]) (by decide) (by kernel_rfl) ?_; unfold D4_19) | (refine cl_drawi 30 D4_30 (List.range 9) (by decide) (by kernel_rfl) ?_; unfold D4_30)); simp only [S, TY, reduceCtorEq, nq0, nq1, nq2, nq3, nq4, iq0, iq1, iq2, iq3, iq4, iq5, iq6, iq7, iq8, q3, q4, q5]; (try (simp (disch := omega) only [W2, Int.cast_ofNat_Int]; (try simp only [S, TY, reduceCtorEq, nq0, nq1, nq2, nq3, nq4, iq0, iq1, iq2, iq3, iq4, iq5, iq6, iq7, iq8, q3, q4, q5])))))
          intro bo hbo hgo
          have h6 := h5.new hbo hgo (.cells (Oc.l nilS .drop).toArray 34 (0, 0))
          ((try simp only [S, TY, reduceCtorEq, nq0, nq1, nq2, nq3, nq4, iq0, iq1, iq2, iq3, iq4, iq5, iq6, iq7, iq8, q3, q4, q5]); (try (simp (disch := omega) only [W2, Int.cast_ofNat_Int]; (try simp only [S, TY, reduceCtorEq, nq0, nq1, nq2, nq3, nq4, iq0, iq1, iq2, iq3, iq4, iq5, iq6, iq7, iq8, q3, q4, q5]))); repeat ((first | (refine cl_drawi 19 D4_19 ([0, 1, 2, 3, 4, 5, 6, 7, 9, 8, 10]) (by decide) (by kernel_rfl) ?_; unfold D4_19) | (refine cl_drawi 30 D4_30 (List.range 9) (by decide) (by kernel_rfl) ?_; unfold D4_30)); simp only [S, TY, reduceCtorEq, nq0, nq1, nq2, nq3, nq4, iq0, iq1, iq2, iq3, iq4, iq5, iq6, iq7, iq8, q3, q4, q5]; (try (simp (disch := omega) only [W2, Int.cast_ofNat_Int]; (try simp only [S, TY, reduceCtorEq, nq0, nq1, nq2, nq3, nq4, iq0, iq1, iq2, iq3, iq4, iq5, iq6, iq7, iq8, q3, q4, q5])))))
          refine sg.st h6 rfl rfl fun H7 h7 => ?_
          simp only [front_eq, fronts_nil, fronts_cons, List.getElem?_cons_zero, List.getElem?_cons_succ, List.eraseIdx_cons_zero, List.eraseIdx_cons_succ, List.cons_append, List.nil_append, putL_cons, putL_nil, List.set_cons_zero, List.set_cons_succ, Nat.reduceAdd] at h7
          ((try simp only [S, TY, reduceCtorEq, nq0, nq1, nq2, nq3, nq4, iq0, iq1, iq2, iq3, iq4, iq5, iq6, iq7, iq8, q3, q4, q5]); (try (simp (disch := omega) only [W2, Int.cast_ofNat_Int]; (try simp only [S, TY, reduceCtorEq, nq0, nq1, nq2, nq3, nq4, iq0, iq1, iq2, iq3, iq4, iq5, iq6, iq7, iq8, q3, q4, q5]))); repeat ((first | (refine cl_drawi 19 D4_19 ([0, 1, 2, 3, 4, 5, 6, 7, 9, 8, 10]) (by decide) (by kernel_rfl) ?_; unfold D4_19) | (refine cl_drawi 30 D4_30 (List.range 9) (by decide) (by kernel_rfl) ?_; unfold D4_30)); simp only [S, TY, reduceCtorEq, nq0, nq1, nq2, nq3, nq4, iq0, iq1, iq2, iq3, iq4, iq5, iq6, iq7, iq8, q3, q4, q5]; (try (simp (disch := omega) only [W2, Int.cast_ofNat_Int]; (try simp only [S, TY, reduceCtorEq, nq0, nq1, nq2, nq3, nq4, iq0, iq1, iq2, iq3, iq4, iq5, iq6, iq7, iq8, q3, q4, q5])))))
          refine main_loop (l0 := l0) (x0 := x0) (y0 := y0) (E := E) (c := c) (id := id) (b3 := b3) (b5 := b5) (bo := bo) (ba := ba) (bn := bn) (bc := bc) (oc := (.del p g g)) (vis := [c]) (vv := .slice (some ⟨nv, 0, none⟩) 1 1) (u := .slice ua un uc) hEl hr1 hr2 hk1.1 hk2.1 (fun e' H' oc vis vv u2 hF r5 r11 r12 r15 r16 h' => ?_)
            ⟨by simp, by simp, Int.le_refl _⟩ (by exact q3) (by exact q5) (by rfl) (by rfl) (by rfl) (by rfl) (by rfl) ⟨h7.1, seps_take (B := [_, _, _, _, _, _]) (h7.fronts [0, 2, 0, 1, 1, 2]).2⟩
          obtain ⟨fp, fl, fo⟩ := hF
          obtain ⟨va2, vn2, vc2, rfl, z1, _⟩ := h'.sl 1 rfl Rd_own
          rw [Nat.mul_one, iv_length] at z1
          subst z1
          ((try simp only [S, TY, reduceCtorEq, nq0, nq1, nq2, nq3, nq4, iq0, iq1, iq2, iq3, iq4, iq5, iq6, iq7, iq8, r5, r11, r12, r15, r16]); (try (simp (disch := omega) only [W2, Int.cast_ofNat_Int]; (try simp only [S, TY, reduceCtorEq, nq0, nq1, nq2, nq3, nq4, iq0, iq1, iq2, iq3, iq4, iq5, iq6, iq7, iq8, r5, r11, r12, r15, r16]))); repeat ((first | (refine cl_drawi 19 D4_19 ([0, 1, 2, 3, 4, 5, 6, 7, 9, 8, 10]) (by decide) (by kernel_rfl) ?_; unfold D4_19) | (refine cl_drawi 30 D4_30 (List.range 9) (by decide) (by kernel_rfl) ?_; unfold D4_30)); simp only [S, TY, reduceCtorEq, nq0, nq1, nq2, nq3, nq4, iq0, iq1, iq2, iq3, iq4, iq5, iq6, iq7, iq8, r5, r11, r12, r15, r16]; (try (simp (disch := omega) only [W2, Int.cast_ofNat_Int]; (try simp only [S, TY, reduceCtorEq, nq0, nq1, nq2, nq3, nq4, iq0, iq1, iq2, iq3, iq4, iq5, iq6, iq7, iq8, r5, r11, r12, r15, r16])))))
          refine tail_loop fp fl (by exact r12) (by rfl) (h'.rdsi 1 rfl Rd_own) (fun e2 s5 s11 s15 s16 => ?_)
          replace s5 := s5.trans r5
          replace s11 := s11.trans r11
          replace s15 := s15.trans r15
          replace s16 := s16.trans r16
          ((try simp only [S, TY, reduceCtorEq, nq0, nq1, nq2, nq3, nq4, iq0, iq1, iq2, iq3, iq4, iq5, iq6, iq7, iq8, s5, s11, s15, s16]); (try (simp (disch := omega) only [W2, Int.cast_ofNat_Int]; (try simp only [S, TY, reduceCtorEq, nq0, nq1, nq2, nq3, nq4, iq0, iq1, iq2, iq3, iq4, iq5, iq6, iq7, iq8, s5, s11, s15, s16]))); repeat ((first | (refine cl_drawi 19 D4_19 ([0, 1, 2, 3, 4, 5, 6, 7, 9, 8, 10]) (by decide) (by kernel_rfl) ?_; unfold D4_19) | (refine cl_drawi 30 D4_30 (List.range 9) (by decide) (by kernel_rfl) ?_; unfold D4_30)); simp only [S, TY, reduceCtorEq, nq0, nq1, nq2, nq3, nq4, iq0, iq1, iq2, iq3, iq4, iq5, iq6, iq7, iq8, s5, s11, s15, s16]; (try (simp (disch := omega) only [W2, Int.cast_ofNat_Int]; (try simp only [S, TY, reduceCtorEq, nq0, nq1, nq2, nq3, nq4, iq0, iq1, iq2, iq3, iq4, iq5, iq6, iq7, iq8, s5, s11, s15, s16])))))
          refine DpL.alive.at_ h' [] _ rfl fun r B H8 hr h8 => ?_
          obtain ⟨rfl, rfl⟩ := hr
          obtain ⟨uu, uu2, uu3, rfl, _, _⟩ := h8.sl 2 rfl Rd_own
          have t2 := rStr_of (P := Try.prog) (h8.rdsi 2 rfl Rd_own)
          have t3 := rStr_of (P := Try.prog) (h8.rdsi 3 rfl Rd_own)
          cases oc with
          | drop =>
            have c8 := h8.c0
            ((try simp only [S, TY, reduceCtorEq, nq0, nq1, nq2, nq3, nq4, iq0, iq1, iq2, iq3, iq4, iq5, iq6, iq7, iq8, s5, s11, s15, s16, c8]); (try (simp (disch := omega) only [W2, Int.cast_ofNat_Int]; (try simp only [S, TY, reduceCtorEq, nq0, nq1, nq2, nq3, nq4, iq0, iq1, iq2, iq3, iq4, iq5, iq6, iq7, iq8, s5, s11, s15, s16, c8]))); repeat ((first | (refine cl_drawi 19 D4_19 ([0, 1, 2, 3, 4, 5, 6, 7, 9, 8, 10]) (by decide) (by kernel_rfl) ?_; unfold D4_19) | (refine cl_drawi 30 D4_30 (List.range 9) (by decide) (by kernel_rfl) ?_; unfold D4_30)); simp only [S, TY, reduceCtorEq, nq0, nq1, nq2, nq3, nq4, iq0, iq1, iq2, iq3, iq4, iq5, iq6, iq7, iq8, s5, s11, s15, s16, c8]; (try (simp (disch := omega) only [W2, Int.cast_ofNat_Int]; (try simp only [S, TY, reduceCtorEq, nq0, nq1, nq2, nq3, nq4, iq0, iq1, iq2, iq3, iq4, iq5, iq6, iq7, iq8, s5, s11, s15, s16, c8])))))
            exact fin_take (B := []) h8 ⟨rfl, rfl⟩
          | del pp gg ss =>
            have c8 := h8.c0
            have hle : ss ≤ gg := fo
            ((try simp only [S, TY, reduceCtorEq, nq0, nq1, nq2, nq3, nq4, iq0, iq1, iq2, iq3, iq4, iq5, iq6, iq7, iq8, s5, s11, s15, s16, c8, t2, t3, hle]); (try (simp (disch := omega) only [W2, Int.cast_ofNat_Int]; (try simp only [S, TY, reduceCtorEq, nq0, nq1, nq2, nq3, nq4, iq0, iq1, iq2, iq3, iq4, iq5, iq6, iq7, iq8, s5, s11, s15, s16, c8, t2, t3, hle]))); repeat ((first | (refine cl_drawi 19 D4_19 ([0, 1, 2, 3, 4, 5, 6, 7, 9, 8, 10]) (by decide) (by kernel_rfl) ?_; unfold D4_19) | (refine cl_drawi 30 D4_30 (List.range 9) (by decide) (by kernel_rfl) ?_; unfold D4_30)); simp only [S, TY, reduceCtorEq, nq0, nq1, nq2, nq3, nq4, iq0, iq1, iq2, iq3, iq4, iq5, iq6, iq7, iq8, s5, s11, s15, s16, c8, t2, t3, hle]; (try (simp (disch := omega) only [W2, Int.cast_ofNat_Int]; (try simp only [S, TY, reduceCtorEq, nq0, nq1, nq2, nq3, nq4, iq0, iq1, iq2, iq3, iq4, iq5, iq6, iq7, iq8, s5, s11, s15, s16, c8, t2, t3, hle])))))
            exact fin_take (B := []) h8 ⟨rfl, rfl⟩
          | snt k o f t p g i =>
            obtain ⟨-, -, hw⟩ := fo
            omega
        · rw [hd]
          ((try simp only [S, TY, reduceCtorEq, nq0, nq1, nq2, nq3, nq4, iq0, iq1, iq2, iq3, iq4, iq5, iq6, iq7, iq8, q3, q4, q5]); (try (simp (disch := omega) only [W2, Int.cast_ofNat_Int]; (try simp only [S, TY, reduceCtorEq, nq0, nq1, nq2, nq3, nq4, iq0, iq1, iq2, iq3, iq4, iq5, iq6, iq7, iq8, q3, q4, q5]))); repeat ((first | (refine cl_drawi 19 D4_19 ([0, 1, 2, 3, 4, 5, 6, 7, 9, 8, 10]) (by decide) (by kernel_rfl) ?_; unfold D4_19) | (refine cl_drawi 30 D4_30 (List.range 9) (by decide) (by kernel_rfl) ?_; unfold D4_30)); simp only [S, TY, reduceCtorEq, nq0, nq1, nq2, nq3, nq4, iq0, iq1, iq2, iq3, iq4, iq5, iq6, iq7, iq8, q3, q4, q5]; (try (simp (disch := omega) only [W2, Int.cast_ofNat_Int]; (try simp only [S, TY, reduceCtorEq, nq0, nq1, nq2, nq3, nq4, iq0, iq1, iq2, iq3, iq4, iq5, iq6, iq7, iq8, q3, q4, q5])))))
          intro bo hbo hgo
          have h6 := h5.new hbo hgo (.cells (Oc.l nilS .drop).toArray 34 (0, 0))
          ((try simp only [S, TY, reduceCtorEq, nq0, nq1, nq2, nq3, nq4, iq0, iq1, iq2, iq3, iq4, iq5, iq6, iq7, iq8, q3, q4, q5]); (try (simp (disch := omega) only [W2, Int.cast_ofNat_Int]; (try simp only [S, TY, reduceCtorEq, nq0, nq1, nq2, nq3, nq4, iq0, iq1, iq2, iq3, iq4, iq5, iq6, iq7, iq8, q3, q4, q5]))); repeat ((first | (refine cl_drawi 19 D4_19 ([0, 1, 2, 3, 4, 5, 6, 7, 9, 8, 10]) (by decide) (by kernel_rfl) ?_; unfold D4_19) | (refine cl_drawi 30 D4_30 (List.range 9) (by decide) (by kernel_rfl) ?_; unfold D4_30)); simp only [S, TY, reduceCtorEq, nq0, nq1, nq2, nq3, nq4, iq0, iq1, iq2, iq3, iq4, iq5, iq6, iq7, iq8, q3, q4, q5]; (try (simp (disch := omega) only [W2, Int.cast_ofNat_Int]; (try simp only [S, TY, reduceCtorEq, nq0, nq1, nq2, nq3, nq4, iq0, iq1, iq2, iq3, iq4, iq5, iq6, iq7, iq8, q3, q4, q5])))))
          refine sg.st h6 rfl rfl fun H7 h7 => ?_
          simp only [front_eq, fronts_nil, fronts_cons, List.getElem?_cons_zero, List.getElem?_cons_succ, List.eraseIdx_cons_zero, List.eraseIdx_cons_succ, List.cons_append, List.nil_append, putL_cons, putL_nil, List.set_cons_zero, List.set_cons_succ, Nat.reduceAdd] at h7
          ((try simp only [S, TY, reduceCtorEq, nq0, nq1, nq2, nq3, nq4, iq0, iq1, iq2, iq3, iq4, iq5, iq6, iq7, iq8, q3, q4, q5]); (try (simp (disch := omega) only [W2, Int.cast_ofNat_Int]; (try simp only [S, TY, reduceCtorEq, nq0, nq1, nq2, nq3, nq4, iq0, iq1, iq2, iq3, iq4, iq5, iq6, iq7, iq8, q3, q4, q5]))); repeat ((first | (refine cl_drawi 19 D4_19 ([0, 1, 2, 3, 4, 5, 6, 7, 9, 8, 10]) (by decide) (by kernel_rfl) ?_; unfold D4_19) | (refine cl_drawi 30 D4_30 (List.range 9) (by decide) (by kernel_rfl) ?_; unfold D4_30)); simp only [S, TY, reduceCtorEq, nq0, nq1, nq2, nq3, nq4, iq0, iq1, iq2, iq3, iq4, iq5, iq6, iq7, iq8, q3, q4, q5]; (try (simp (disch := omega) only [W2, Int.cast_ofNat_Int]; (try simp only [S, TY, reduceCtorEq, nq0, nq1, nq2, nq3, nq4, iq0, iq1, iq2, iq3, iq4, iq5, iq6, iq7, iq8, q3, q4, q5])))))
          refine main_loop (l0 := l0) (x0 := x0) (y0 := y0) (E := E) (c := c) (id := id) (b3 := b3) (b5 := b5) (bo := bo) (ba := ba) (bn := bn) (bc := bc) (oc := (.snt 1 c c t p g id)) (vis := [c]) (vv := .slice (some ⟨nv, 0, none⟩) 1 1) (u := .slice ua un uc) hEl hr1 hr2 hk1.1 hk2.1 (fun e' H' oc vis vv u2 hF r5 r11 r12 r15 r16 h' => ?_)
            ⟨by simp, by simp, rfl, hrt, .inl ⟨rfl, rfl, rfl, rfl, rfl⟩⟩ (by exact q3) (by exact q5) (by rfl) (by rfl) (by rfl) (by rfl) (by rfl) ⟨h7.1, seps_take (B := [_, _, _, _, _, _]) (h7.fronts [0, 2, 0, 1, 1, 2]).2⟩
          obtain ⟨fp, fl, fo⟩ := hF
          obtain ⟨va2, vn2, vc2, rfl, z1, _⟩ := h'.sl 1 rfl Rd_own
          rw [Nat.mul_one, iv_length] at z1
          subst z1
          ((try simp only [S, TY, reduceCtorEq, nq0, nq1, nq2, nq3, nq4, iq0, iq1, iq2, iq3, iq4, iq5, iq6, iq7, iq8, r5, r11, r12, r15, r16]); (try (simp (disch := omega) only [W2, Int.cast_ofNat_Int]; (try simp only [S, TY, reduceCtorEq, nq0, nq1, nq2, nq3, nq4, iq0, iq1, iq2, iq3, iq4, iq5, iq6, iq7, iq8, r5, r11, r12, r15, r16]))); repeat ((first | (refine cl_drawi 19 D4_19 ([0, 1, 2, 3, 4, 5, 6, 7, 9, 8, 10]) (by decide) (by kernel_rfl) ?_; unfold D4_19) | (refine cl_drawi 30 D4_30 (List.range 9) (by decide) (by kernel_rfl) ?_; unfold D4_30)); simp only [S, TY, reduceCtorEq, nq0, nq1, nq2, nq3, nq4, iq0, iq1, iq2, iq3, iq4, iq5, iq6, iq7, iq8, r5, r11, r12, r15, r16]; (try (simp (disch := omega) only [W2, Int.cast_ofNat_Int]; (try simp only [S, TY, reduceCtorEq, nq0, nq1, nq2, nq3, nq4, iq0, iq1, iq2, iq3, iq4, iq5, iq6, iq7, iq8, r5, r11, r12, r15, r16])))))
          refine tail_loop fp fl (by exact r12) (by rfl) (h'.rdsi 1 rfl Rd_own) (fun e2 s5 s11 s15 s16 => ?_)
          replace s5 := s5.trans r5
          replace s11 := s11.trans r11
          replace s15 := s15.trans r15
          replace s16 := s16.trans r16
          ((try simp only [S, TY, reduceCtorEq, nq0, nq1, nq2, nq3, nq4, iq0, iq1, iq2, iq3, iq4, iq5, iq6, iq7, iq8, s5, s11, s15, s16]); (try (simp (disch := omega) only [W2, Int.cast_ofNat_Int]; (try simp only [S, TY, reduceCtorEq, nq0, nq1, nq2, nq3, nq4, iq0, iq1, iq2, iq3, iq4, iq5, iq6, iq7, iq8, s5, s11, s15, s16]))); repeat ((first | (refine cl_drawi 19 D4_19 ([0, 1, 2, 3, 4, 5, 6, 7, 9, 8, 10]) (by decide) (by kernel_rfl) ?_; unfold D4_19) | (refine cl_drawi 30 D4_30 (List.range 9) (by decide) (by kernel_rfl) ?_; unfold D4_30)); simp only [S, TY, reduceCtorEq, nq0, nq1, nq2, nq3, nq4, iq0, iq1, iq2, iq3, iq4, iq5, iq6, iq7, iq8, s5, s11, s15, s16]; (try (simp (disch := omega) only [W2, Int.cast_ofNat_Int]; (try simp only [S, TY, reduceCtorEq, nq0, nq1, nq2, nq3, nq4, iq0, iq1, iq2, iq3, iq4, iq5, iq6, iq7, iq8, s5, s11, s15, s16])))))
          refine DpL.alive.at_ h' [] _ rfl fun r B H8 hr h8 => ?_
          obtain ⟨rfl, rfl⟩ := hr
          obtain ⟨uu, uu2, uu3, rfl, _, _⟩ := h8.sl 2 rfl Rd_own
          have t2 := rStr_of (P := Try.prog) (h8.rdsi 2 rfl Rd_own)
          have t3 := rStr_of (P := Try.prog) (h8.rdsi 3 rfl Rd_own)
          cases oc with
          | drop =>
            have c8 := h8.c0
            ((try simp only [S, TY, reduceCtorEq, nq0, nq1, nq2, nq3, nq4, iq0, iq1, iq2, iq3, iq4, iq5, iq6, iq7, iq8, s5, s11, s15, s16, c8]); (try (simp (disch := omega) only [W2, Int.cast_ofNat_Int]; (try simp only [S, TY, reduceCtorEq, nq0, nq1, nq2, nq3, nq4, iq0, iq1, iq2, iq3, iq4, iq5, iq6, iq7, iq8, s5, s11, s15, s16, c8]))); repeat ((first | (refine cl_drawi 19 D4_19 ([0, 1, 2, 3, 4, 5, 6, 7, 9, 8, 10]) (by decide) (by kernel_rfl) ?_; unfold D4_19) | (refine cl_drawi 30 D4_30 (List.range 9) (by decide) (by kernel_rfl) ?_; unfold D4_30)); simp only [S, TY, reduceCtorEq, nq0, nq1, nq2, nq3, nq4, iq0, iq1, iq2, iq3, iq4, iq5, iq6, iq7, iq8, s5, s11, s15, s16, c8]; (try (simp (disch := omega) only [W2, Int.cast_ofNat_Int]; (try simp only [S, TY, reduceCtorEq, nq0, nq1, nq2, nq3, nq4, iq0, iq1, iq2, iq3, iq4, iq5, iq6, iq7, iq8, s5, s11, s15, s16, c8])))))
            exact fin_take (B := []) h8 ⟨rfl, rfl⟩
          | del pp gg ss =>
            have c8 := h8.c0
            have hle : ss ≤ gg := fo
            ((try simp only [S, TY, reduceCtorEq, nq0, nq1, nq2, nq3, nq4, iq0, iq1, iq2, iq3, iq4, iq5, iq6, iq7, iq8, s5, s11, s15, s16, c8, t2, t3, hle]); (try (simp (disch := omega) only [W2, Int.cast_ofNat_Int]; (try simp only [S, TY, reduceCtorEq, nq0, nq1, nq2, nq3, nq4, iq0, iq1, iq2, iq3, iq4, iq5, iq6, iq7, iq8, s5, s11, s15, s16, c8, t2, t3, hle]))); repeat ((first | (refine cl_drawi 19 D4_19 ([0, 1, 2, 3, 4, 5, 6, 7, 9, 8, 10]) (by decide) (by kernel_rfl) ?_; unfold D4_19) | (refine cl_drawi 30 D4_30 (List.range 9) (by decide) (by kernel_rfl) ?_; unfold D4_30)); simp only [S, TY, reduceCtorEq, nq0, nq1, nq2, nq3, nq4, iq0, iq1, iq2, iq3, iq4, iq5, iq6, iq7, iq8, s5, s11, s15, s16, c8, t2, t3, hle]; (try (simp (disch := omega) only [W2, Int.cast_ofNat_Int]; (try simp only [S, TY, reduceCtorEq, nq0, nq1, nq2, nq3, nq4, iq0, iq1, iq2, iq3, iq4, iq5, iq6, iq7, iq8, s5, s11, s15, s16, c8, t2, t3, hle])))))
            exact fin_take (B := []) h8 ⟨rfl, rfl⟩
          | snt k o f t p g i =>
            obtain ⟨-, -, hw⟩ := fo
            omega
      · ((try simp only [S, TY, reduceCtorEq, nq0, nq1, nq2, nq3, nq4, iq0, iq1, iq2, iq3, iq4, iq5, iq6, iq7, iq8, q3, q4, q5, q8, q9, c5]); (try (simp (disch := omega) only [W2, Int.cast_ofNat_Int]; (try simp only [S, TY, reduceCtorEq, nq0, nq1, nq2, nq3, nq4, iq0, iq1, iq2, iq3, iq4, iq5, iq6, iq7, iq8, q3, q4, q5, q8, q9, c5]))); repeat ((first | (refine cl_drawi 19 D4_19 ([0, 1, 2, 3, 4, 5, 6, 7, 9, 8, 10]) (by decide) (by kernel_rfl) ?_; unfold D4_19) | (refine cl_drawi 30 D4_30 (List.range 9) (by decide) (by kernel_rfl) ?_; unfold D4_30)); simp only [S, TY, reduceCtorEq, nq0, nq1, nq2, nq3, nq4, iq0, iq1, iq2, iq3, iq4, iq5, iq6, iq7, iq8, q3, q4, q5, q8, q9, c5]; (try (simp (disch := omega) only [W2, Int.cast_ofNat_Int]; (try simp only [S, TY, reduceCtorEq, nq0, nq1, nq2, nq3, nq4, iq0, iq1, iq2, iq3, iq4, iq5, iq6, iq7, iq8, q3, q4, q5, q8, q9, c5])))))
        repeat' (refine Gate.intro (fun g => ?_) (fun g => ?_) <;> ((try simp only [S, TY, reduceCtorEq, nq0, nq1, nq2, nq3, nq4, iq0, iq1, iq2, iq3, iq4, iq5, iq6, iq7, iq8, q3, q4, q5, q8, q9, c5, g]); (try (simp (disch := omega) only [W2, Int.cast_ofNat_Int]; (try simp only [S, TY, reduceCtorEq, nq0, nq1, nq2, nq3, nq4, iq0, iq1, iq2, iq3, iq4, iq5, iq6, iq7, iq8, q3, q4, q5, q8, q9, c5, g]))); repeat ((first | (refine cl_drawi 19 D4_19 ([0, 1, 2, 3, 4, 5, 6, 7, 9, 8, 10]) (by decide) (by kernel_rfl) ?_; unfold D4_19) | (refine cl_drawi 30 D4_30 (List.range 9) (by decide) (by kernel_rfl) ?_; unfold D4_30)); simp only [S, TY, reduceCtorEq, nq0, nq1, nq2, nq3, nq4, iq0, iq1, iq2, iq3, iq4, iq5, iq6, iq7, iq8, q3, q4, q5, q8, q9, c5, g]; (try (simp (disch := omega) only [W2, Int.cast_ofNat_Int]; (try simp only [S, TY, reduceCtorEq, nq0, nq1, nq2, nq3, nq4, iq0, iq1, iq2, iq3, iq4, iq5, iq6, iq7, iq8, q3, q4, q5, q8, q9, c5, g]))))))
        all_goals first
          | (exfalso; omega)
          | (refine DpL.alive.at_ h [] _ rfl fun r B H2 hr h2 => ?_
             obtain ⟨rfl, rfl⟩ := hr
             ((try simp only [S, TY, reduceCtorEq, nq0, nq1, nq2, nq3, nq4, iq0, iq1, iq2, iq3, iq4, iq5, iq6, iq7, iq8]); (try (simp (disch := omega) only [W2, Int.cast_ofNat_Int]; (try simp only [S, TY, reduceCtorEq, nq0, nq1, nq2, nq3, nq4, iq0, iq1, iq2, iq3, iq4, iq5, iq6, iq7, iq8]))); repeat ((first | (refine cl_drawi 19 D4_19 ([0, 1, 2, 3, 4, 5, 6, 7, 9, 8, 10]) (by decide) (by kernel_rfl) ?_; unfold D4_19) | (refine cl_drawi 30 D4_30 (List.range 9) (by decide) (by kernel_rfl) ?_; unfold D4_30)); simp only [S, TY, reduceCtorEq, nq0, nq1, nq2, nq3, nq4, iq0, iq1, iq2, iq3, iq4, iq5, iq6, iq7, iq8]; (try (simp (disch := omega) only [W2, Int.cast_ofNat_Int]; (try simp only [S, TY, reduceCtorEq, nq0, nq1, nq2, nq3, nq4, iq0, iq1, iq2, iq3, iq4, iq5, iq6, iq7, iq8])))))
             exact fin_take (B := []) h2 ⟨rfl, rfl⟩)
abbrev RWT : Ty := .st (.pr (.int .i64) (.pr (.int .u64) (.pr (.int .i64) (.pr (.int .i64) (.pr (.int .i64) (.pr (.int .i64) (.pr (.int .i64) (.pr (.int .i64) (.pr (.int .i64) .un)))))))))
def toRw (x : RWT.den) : Rw := ⟨x.1, x.2.1, x.2.2.1, x.2.2.2.1, x.2.2.2.2.1, x.2.2.2.2.2.1, x.2.2.2.2.2.2.1, x.2.2.2.2.2.2.2.1, x.2.2.2.2.2.2.2.2.1⟩
theorem toRw_l {G : Hp} (cs : List Value) (x : RWT.den) (h : RWT.R G cs x) : cs = Rw.l (toRw x) := by
  obtain ⟨_, _, rfl, -, ⟨rfl, -⟩, _, _, rfl, -, ⟨rfl, -⟩, _, _, rfl, -, ⟨rfl, -⟩, _, _, rfl, -, ⟨rfl, -⟩, _, _, rfl, -, ⟨rfl, -⟩, _, _, rfl, -, ⟨rfl, -⟩, _, _, rfl, -, ⟨rfl, -⟩, _, _, rfl, -, ⟨rfl, -⟩, _, _, rfl, -, ⟨rfl, -⟩, rfl⟩ := h
  rfl
abbrev FRT : Ty := .st (.pr (.int .u64) (.pr (.int .u64) (.pr (.int .i64) (.pr .bytes .un))))
abbrev ATT : Ty := .st (.pr (.int .i64) (.pr (.int .i64) .un))
theorem arr3 {G : Hp} {v : Value} {y : (Ty.arr 3 (.sl RWT)).den} (h : Ty.V G (.arr 3 (.sl RWT)) v y) : ∃ w0 w1 w2 l0 l1 l2, v = .agg #[w0, w1, w2] ∧ rws G w0 l0 ∧ rws G w1 l1 ∧ rws G w2 l2 := by
  rcases h with ⟨_, cs, rfl, css, rfl, h1, h2⟩ | ⟨h, _⟩
  · obtain ⟨h3, h4, h5⟩ := h2
    obtain ⟨c0, c1, c2, rfl⟩ : ∃ a b c, css = [a, b, c] := by
      match css, h1 with
      | [a, b, c], _ => exact ⟨a, b, c, rfl⟩
    obtain ⟨z0, z1, z2, rfl⟩ : ∃ a b c, y = [a, b, c] := by
      match y, h3 with
      | [a, b, c], _ => exact ⟨a, b, c, rfl⟩
    obtain ⟨w0, rfl, k0⟩ := h5 0 c0 z0 rfl rfl
    obtain ⟨w1, rfl, k1⟩ := h5 1 c1 z1 rfl rfl
    obtain ⟨w2, rfl, k2⟩ := h5 2 c2 z2 rfl rfl
    exact ⟨w0, w1, w2, _, _, _, rfl, rdl_map toRw_l k0, rdl_map toRw_l k1, rdl_map toRw_l k2⟩
  · cases h
theorem onV {G : Hp} {v0 v1 v2 : Value} {y0 : (Ty.arr 3 (.sl RWT)).den} {y1 : FRT.den} {y2 : ATT.den} (h0 : Ty.V G (.arr 3 (.sl RWT)) v0 y0) (h1 : Ty.V G FRT v1 y1) (h2 : Ty.V G ATT v2 y2) :
    Con Try.prog G 4 [v0, v1, v2] [] (fun r B => r = .bool true ∧ B = []) := by
  obtain ⟨w0, w1, w2, l0, l1, l2, rfl, k0, k1, k2⟩ := arr3 h0
  rcases h1 with ⟨_, ds, rfl, h1⟩ | ⟨h, _⟩
  · rcases h2 with ⟨_, es, rfl, h2⟩ | ⟨h, _⟩
    · obtain ⟨_, _, rfl, _, ⟨rfl, j1⟩, _, _, rfl, _, ⟨rfl, j2⟩, _, _, rfl, _, ⟨rfl, j3⟩, _, _, rfl, _, ⟨u, rfl, hu⟩, rfl⟩ := h1
      obtain ⟨_, _, rfl, _, ⟨rfl, -⟩, _, _, rfl, _, ⟨rfl, -⟩, rfl⟩ := h2
      simp only [Lit.wf, IntKind.min, IntKind.max, IntKind.signed, IntKind.bits, Bool.and_eq_true, decide_eq_true_eq] at j1 j2 j3
      exact onLaw _ _ _ _ _ (by have := j1.1; simpa using this) (by have := j2.1; simpa using this) ⟨by have := j3.1; simp at this; omega, by have := j3.2; simp at this; omega⟩ hu k0 k1 k2
    · cases h
  · cases h
end Go.Proofs.Ytanhmbdcdbcfmaa.DpW
