/- buf.Writer, over the machine. -/
import Derived.Test.YtanhmbdcdbcfmaaRow
import Derived.Test.YtanhmbdcdbcfmaaProg
import Derived.KernelRfl
set_option linter.unusedVariables false
set_option linter.unusedSimpArgs false
set_option maxRecDepth 10000
namespace Go.Proofs.Ytanhmbdcdbcfmaa.Buf
open Nat renaming reduceEqDiff → nq0, reduceAdd → nq1, reduceLeDiff → nq2, reduceBEq → nq3, reduceMul → nq4
open Int renaming reduceBEq → iq0, reduceEq → iq1, reduceLT → iq2, reduceLE → iq3, reduceAdd → iq4, reduceSub → iq5, reduceMul → iq6, reduceToNat → iq7, cast_ofNat_Int → iq8
open Go Go.Sl Go.Proofs
theorem TY : aggN Try.prog 3 = some none ∧
  aggN Try.prog 4 = some none ∧
  aggN Try.prog 5 = some none ∧
  aggN Try.prog 24 = some none ∧
  aggN Try.prog 57 = some none ∧
  aggN Try.prog 225 = some none ∧
  aggN Try.prog 227 = some (some 2) ∧
  apI Try.prog 24 = some (5, 1, 1) ∧
  apI Try.prog 57 = some (3, 1, 8) ∧
  bIs Try.prog 227 = true ∧
  boIs Try.prog 4 = true ∧
  bySl Try.prog 24 = true ∧
  csz Try.prog 3 = some 1 ∧
  csz Try.prog 4 = some 1 ∧
  csz Try.prog 5 = some 1 ∧
  csz Try.prog 24 = some 1 ∧
  csz Try.prog 57 = some 1 ∧
  csz Try.prog 225 = some 1 ∧
  csz Try.prog 227 = some 2 ∧
  fIs Try.prog 227 0 = true ∧
  fIs Try.prog 227 1 = true ∧
  fOff Try.prog 227 0 = 0 ∧
  fOff Try.prog 227 1 = 1 ∧
  fTy Try.prog 227 0 = 24 ∧
  fTy Try.prog 227 1 = 4 ∧
  goes Try.prog 120 = true ∧
  goes Try.prog 178 = true ∧
  inIs Try.prog 3 = some .i64 ∧
  inIs Try.prog 5 = some .u8 ∧
  plcs Try.prog 227 = [(0, 1), (1, 1)] ∧
  ptIs Try.prog 225 = true ∧
  slEl Try.prog 24 = 5 ∧
  slEl Try.prog 57 = 3 ∧
  slIs Try.prog 24 = true ∧
  slIs Try.prog 57 = true ∧
  slSz Try.prog 24 = 1 ∧
  slSz Try.prog 57 = 1 ∧
  zcs Try.prog 227 = [.slice none 0 0, .bool false] ∧
  zro Try.prog 3 = some (.int .i64 0) ∧
  zro Try.prog 4 = some (.bool false) ∧
  zro Try.prog 5 = some (.int .u8 0) ∧
  zro Try.prog 24 = some (.slice none 0 0) ∧
  zro Try.prog 57 = some (.slice none 0 0) ∧
  zro Try.prog 225 = some (.pointer none) ∧
  zro Try.prog 227 = some (.agg #[.slice none 0 0, .bool false]) :=
  ⟨by kernel_rfl, by kernel_rfl, by kernel_rfl, by kernel_rfl, by kernel_rfl, by kernel_rfl, by kernel_rfl, by kernel_rfl, by kernel_rfl, by kernel_rfl, by kernel_rfl, by kernel_rfl, by kernel_rfl, by kernel_rfl, by kernel_rfl, by kernel_rfl, by kernel_rfl, by kernel_rfl, by kernel_rfl, by kernel_rfl, by kernel_rfl, by kernel_rfl, by kernel_rfl, by kernel_rfl, by kernel_rfl, by kernel_rfl, by kernel_rfl, by kernel_rfl, by kernel_rfl, by kernel_rfl, by kernel_rfl, by kernel_rfl, by kernel_rfl, by kernel_rfl, by kernel_rfl, by kernel_rfl, by kernel_rfl, by kernel_rfl, by kernel_rfl, by kernel_rfl, by kernel_rfl, by kernel_rfl, by kernel_rfl, by kernel_rfl, by kernel_rfl⟩
def D120_14 : List Note := Go.Sl.nn [0, 0, 0, 0, 1, 0, 0, 0, 0, 0, 2, 3, 0, 0, 3]
/-- The last n bytes of a number, the first one first. -/
def num : Nat → Nat → List UInt8
  | 0, _ => []
  | n + 1, x => UInt8.ofNat (x / 256 ^ n) :: num n x
theorem num_length (n x : Nat) : (num n x).length = n := by induction n with | zero => rfl | succ n ih => simp [num, ih]
def fits (n x : Int) : Prop := 0 ≤ x ∧ (n = 8 ∨ x.toNat < 256 ^ n.toNat)
instance (n x : Int) : Decidable (fits n x) := by unfold fits; exact inferInstance
structure W where
  b : List UInt8
  wrong : Bool
def W.put1 (n : Int) (w : W) (x : Int) : W := if fits n x then ⟨w.b ++ num n.toNat x.toNat, w.wrong⟩ else ⟨w.b, true⟩
def W.put (w : W) (n : Int) (l : List Int) : W := if n < 1 ∨ 8 < n then ⟨w.b, true⟩ else l.foldl (W.put1 n) w
theorem put1_le (n : Int) (hn : n ≤ 8) (w : W) (x : Int) : (W.put1 n w x).b.length ≤ w.b.length + 8 := by
  unfold W.put1; split
  · simp [num_length]; omega
  · simp
theorem fold_le (n : Int) (hn : n ≤ 8) (l : List Int) : ∀ w : W, (l.foldl (W.put1 n) w).b.length ≤ w.b.length + 8 * l.length := by
  induction l with
  | nil => intro w; simp
  | cons x l ih => intro w; have := ih (W.put1 n w x); have := put1_le n hn w x; simp only [List.foldl_cons, List.length_cons]; omega
def iv (l : List Int) : List Value := l.map fun x => .int .i64 x
def isW (p : Nat) (w : W) : Asn := fun H => ∃ s, seps [ob p (.cells #[s, .bool w.wrong] 227 (0, 0)), own 5 1 s (bv w.b)] H
theorem isW_open {G H : Hp} {p : Nat} {w : W} {L : List Asn} (h : sg G (isW p w :: L) H) : ∃ sa sn sc, w.b.length = sn ∧ sn ≤ sc ∧
    sg G (ob p (.cells #[.slice sa sn sc, .bool w.wrong] 227 (0, 0)) :: own 5 1 (.slice sa sn sc) (bv w.b) :: L) H := by
  obtain ⟨hd, H1, H2, rfl, hd2, ⟨s, h1⟩, h2⟩ := h
  have h3 : sg G (ob p (.cells #[s, .bool w.wrong] 227 (0, 0)) :: own 5 1 s (bv w.b) :: L) (H1.un H2) := ⟨hd, seps_append.2 ⟨H1, H2, rfl, hd2, h1, h2⟩⟩
  obtain ⟨sa, sn, sc, rfl, e1, e2⟩ := h3.sl 1 rfl Rd_own
  rw [bv_length] at e1
  exact ⟨sa, sn, sc, by omega, e2, h3⟩
theorem isW_shut {G H : Hp} {p : Nat} {w : W} {s : Value} {L : List Asn} (h : sg G (ob p (.cells #[s, .bool w.wrong] 227 (0, 0)) :: own 5 1 s (bv w.b) :: L) H) : sg G (isW p w :: L) H :=
  h.shut (M := [ob p (.cells #[s, .bool w.wrong] 227 (0, 0)), own 5 1 s (bv w.b)]) fun H _ h => ⟨s, h⟩
theorem put_nil {G : Hp} (a b : Value) : Con Try.prog G 120 [.pointer none, a, b] [] (fun v B => v = .pointer none ∧ B = []) := by
  refine Con.intro Try.func120 rfl (Nat.le_of_ble_eq_true (by kernel_rfl)) (by kernel_rfl) Try.results120 ?_
  intro H hH
  ((try simp only [S, TY, reduceCtorEq, nq0, nq1, nq2, nq3, nq4, iq0, iq1, iq2, iq3, iq4, iq5, iq6, iq7, iq8]); (try (simp (disch := omega) only [W2, Int.cast_ofNat_Int]; (try simp only [S, TY, reduceCtorEq, nq0, nq1, nq2, nq3, nq4, iq0, iq1, iq2, iq3, iq4, iq5, iq6, iq7, iq8]))); repeat ((first | (refine cl_drawi 14 D120_14 (List.range 15) (by decide) (by kernel_rfl) ?_; unfold D120_14)); simp only [S, TY, reduceCtorEq, nq0, nq1, nq2, nq3, nq4, iq0, iq1, iq2, iq3, iq4, iq5, iq6, iq7, iq8]; (try (simp (disch := omega) only [W2, Int.cast_ofNat_Int]; (try simp only [S, TY, reduceCtorEq, nq0, nq1, nq2, nq3, nq4, iq0, iq1, iq2, iq3, iq4, iq5, iq6, iq7, iq8])))))
  exact fin_ret hH ⟨rfl, rfl⟩
theorem fdiv_pos {x k : Nat} : ((x : Int).fdiv (2 ^ k)) = ((x / 2 ^ k : Nat) : Int) := by
  rw [Int.fdiv_eq_ediv_of_nonneg _ (Int.le_of_lt (Int.pow_pos (by decide)))]
  norm_cast
theorem p256 (n : Nat) : 256 ^ n = 2 ^ (8 * n) := by rw [Nat.pow_mul]
theorem put_ok {G : Hp} {p : Nat} {w : W} {n : Int} {v : Value} {l : List Int} (hv : rds G 1 v (iv l)) (hb : w.b.length + 8 * l.length ≤ 70368744177664) :
    Con Try.prog G 120 [.pointer (some ⟨p, 0, none⟩), .int .i64 n, v] [isW p w] (fun v B => v = .pointer (some ⟨p, 0, none⟩) ∧ B = [isW p (w.put n l)]) := by
  refine Con.intro Try.func120 rfl (Nat.le_of_ble_eq_true (by kernel_rfl)) (by kernel_rfl) Try.results120 ?_
  intro H hH
  obtain ⟨a, k, c0, rfl, e1, e2⟩ := hv.slice
  obtain ⟨sa, sn, sc, f1, f2, h⟩ := isW_open hH
  by_cases a1 : n < 1
  · ((try simp only [S, TY, reduceCtorEq, nq0, nq1, nq2, nq3, nq4, iq0, iq1, iq2, iq3, iq4, iq5, iq6, iq7, iq8, a1]); (try (simp (disch := omega) only [W2, Int.cast_ofNat_Int]; (try simp only [S, TY, reduceCtorEq, nq0, nq1, nq2, nq3, nq4, iq0, iq1, iq2, iq3, iq4, iq5, iq6, iq7, iq8, a1]))); repeat ((first | (refine cl_drawi 14 D120_14 (List.range 15) (by decide) (by kernel_rfl) ?_; unfold D120_14)); simp only [S, TY, reduceCtorEq, nq0, nq1, nq2, nq3, nq4, iq0, iq1, iq2, iq3, iq4, iq5, iq6, iq7, iq8, a1]; (try (simp (disch := omega) only [W2, Int.cast_ofNat_Int]; (try simp only [S, TY, reduceCtorEq, nq0, nq1, nq2, nq3, nq4, iq0, iq1, iq2, iq3, iq4, iq5, iq6, iq7, iq8, a1])))))
    refine sg.st h rfl rfl fun H2 h2 => ?_
    simp only [front_eq, fronts_nil, fronts_cons, List.getElem?_cons_zero, List.getElem?_cons_succ, List.eraseIdx_cons_zero, List.eraseIdx_cons_succ, List.cons_append, List.nil_append, putL_cons, putL_nil, List.set_cons_zero, List.set_cons_succ, Nat.reduceAdd] at h2
    ((try simp only [S, TY, reduceCtorEq, nq0, nq1, nq2, nq3, nq4, iq0, iq1, iq2, iq3, iq4, iq5, iq6, iq7, iq8]); (try (simp (disch := omega) only [W2, Int.cast_ofNat_Int]; (try simp only [S, TY, reduceCtorEq, nq0, nq1, nq2, nq3, nq4, iq0, iq1, iq2, iq3, iq4, iq5, iq6, iq7, iq8]))); repeat ((first | (refine cl_drawi 14 D120_14 (List.range 15) (by decide) (by kernel_rfl) ?_; unfold D120_14)); simp only [S, TY, reduceCtorEq, nq0, nq1, nq2, nq3, nq4, iq0, iq1, iq2, iq3, iq4, iq5, iq6, iq7, iq8]; (try (simp (disch := omega) only [W2, Int.cast_ofNat_Int]; (try simp only [S, TY, reduceCtorEq, nq0, nq1, nq2, nq3, nq4, iq0, iq1, iq2, iq3, iq4, iq5, iq6, iq7, iq8])))))
    refine fin_ret (isW_shut (w := ⟨w.b, true⟩) h2) ⟨rfl, by unfold W.put; rw [if_pos (by omega)]⟩
  by_cases a2 : 8 < n
  · ((try simp only [S, TY, reduceCtorEq, nq0, nq1, nq2, nq3, nq4, iq0, iq1, iq2, iq3, iq4, iq5, iq6, iq7, iq8, a1, a2]); (try (simp (disch := omega) only [W2, Int.cast_ofNat_Int]; (try simp only [S, TY, reduceCtorEq, nq0, nq1, nq2, nq3, nq4, iq0, iq1, iq2, iq3, iq4, iq5, iq6, iq7, iq8, a1, a2]))); repeat ((first | (refine cl_drawi 14 D120_14 (List.range 15) (by decide) (by kernel_rfl) ?_; unfold D120_14)); simp only [S, TY, reduceCtorEq, nq0, nq1, nq2, nq3, nq4, iq0, iq1, iq2, iq3, iq4, iq5, iq6, iq7, iq8, a1, a2]; (try (simp (disch := omega) only [W2, Int.cast_ofNat_Int]; (try simp only [S, TY, reduceCtorEq, nq0, nq1, nq2, nq3, nq4, iq0, iq1, iq2, iq3, iq4, iq5, iq6, iq7, iq8, a1, a2])))))
    refine sg.st h rfl rfl fun H2 h2 => ?_
    simp only [front_eq, fronts_nil, fronts_cons, List.getElem?_cons_zero, List.getElem?_cons_succ, List.eraseIdx_cons_zero, List.eraseIdx_cons_succ, List.cons_append, List.nil_append, putL_cons, putL_nil, List.set_cons_zero, List.set_cons_succ, Nat.reduceAdd] at h2
    ((try simp only [S, TY, reduceCtorEq, nq0, nq1, nq2, nq3, nq4, iq0, iq1, iq2, iq3, iq4, iq5, iq6, iq7, iq8]); (try (simp (disch := omega) only [W2, Int.cast_ofNat_Int]; (try simp only [S, TY, reduceCtorEq, nq0, nq1, nq2, nq3, nq4, iq0, iq1, iq2, iq3, iq4, iq5, iq6, iq7, iq8]))); repeat ((first | (refine cl_drawi 14 D120_14 (List.range 15) (by decide) (by kernel_rfl) ?_; unfold D120_14)); simp only [S, TY, reduceCtorEq, nq0, nq1, nq2, nq3, nq4, iq0, iq1, iq2, iq3, iq4, iq5, iq6, iq7, iq8]; (try (simp (disch := omega) only [W2, Int.cast_ofNat_Int]; (try simp only [S, TY, reduceCtorEq, nq0, nq1, nq2, nq3, nq4, iq0, iq1, iq2, iq3, iq4, iq5, iq6, iq7, iq8])))))
    refine fin_ret (isW_shut (w := ⟨w.b, true⟩) h2) ⟨rfl, by unfold W.put; rw [if_pos (by omega)]⟩
  ((try simp only [S, TY, reduceCtorEq, nq0, nq1, nq2, nq3, nq4, iq0, iq1, iq2, iq3, iq4, iq5, iq6, iq7, iq8, a1, a2]); (try (simp (disch := omega) only [W2, Int.cast_ofNat_Int]; (try simp only [S, TY, reduceCtorEq, nq0, nq1, nq2, nq3, nq4, iq0, iq1, iq2, iq3, iq4, iq5, iq6, iq7, iq8, a1, a2]))); repeat ((first | (refine cl_drawi 14 D120_14 (List.range 15) (by decide) (by kernel_rfl) ?_; unfold D120_14)); simp only [S, TY, reduceCtorEq, nq0, nq1, nq2, nq3, nq4, iq0, iq1, iq2, iq3, iq4, iq5, iq6, iq7, iq8, a1, a2]; (try (simp (disch := omega) only [W2, Int.cast_ofNat_Int]; (try simp only [S, TY, reduceCtorEq, nq0, nq1, nq2, nq3, nq4, iq0, iq1, iq2, iq3, iq4, iq5, iq6, iq7, iq8, a1, a2])))))
  have hk : l.length = k := by simpa [iv] using e1
  refine cl_loop (fun i e H => i ≤ k ∧ e 0 = .pointer (some ⟨p, 0, none⟩) ∧ e 1 = .int .i64 n ∧ e 22 = .slice a k c0 ∧ e 23 = .int .i64 k ∧ e 24 = .int .i64 i ∧ sg G [isW p ((l.take i).foldl (W.put1 n) w)] H) (fun i => k - i) 0
    ⟨by omega, rfl, rfl, rfl, rfl, rfl, hH⟩ ?_
  rintro i e H ⟨q0, q1, q2, q3, q4, q5, hH⟩
  by_cases g1 : (i : Int) < k
  · obtain ⟨b, off, rfl, c1⟩ := (hH.ro hv).at1 (i := i) (by omega)
    have hil : i < l.length := by omega
    unfold iv at c1
    rw [List.getElem?_map, List.getElem?_eq_getElem hil, Option.map_some] at c1
    have ht : (l.take (i + 1)).foldl (W.put1 n) w = W.put1 n ((l.take i).foldl (W.put1 n) w) l[i] := by
      rw [List.take_succ_eq_append_getElem hil, List.foldl_append]; rfl
    have hwl := fold_le n (by omega) (l.take i) w
    rw [List.length_take] at hwl
    generalize hw' : (l.take i).foldl (W.put1 n) w = w' at *
    generalize hx : l[i] = x at *
    obtain ⟨sa, sn, sc, f1, f2, h⟩ := isW_open hH
    have g0 : (0 : Int) ≤ i ∧ (i : Int) < k := ⟨by omega, g1⟩
    have c := h.c0
    by_cases x0 : x < 0
    · ((try simp only [S, TY, reduceCtorEq, nq0, nq1, nq2, nq3, nq4, iq0, iq1, iq2, iq3, iq4, iq5, iq6, iq7, iq8, q1, q2, q3, q4, q5, g1, g0, c1, x0]); (try (simp (disch := omega) only [W2, Int.cast_ofNat_Int]; (try simp only [S, TY, reduceCtorEq, nq0, nq1, nq2, nq3, nq4, iq0, iq1, iq2, iq3, iq4, iq5, iq6, iq7, iq8, q1, q2, q3, q4, q5, g1, g0, c1, x0]))); repeat ((first | (refine cl_drawi 14 D120_14 (List.range 15) (by decide) (by kernel_rfl) ?_; unfold D120_14)); simp only [S, TY, reduceCtorEq, nq0, nq1, nq2, nq3, nq4, iq0, iq1, iq2, iq3, iq4, iq5, iq6, iq7, iq8, q1, q2, q3, q4, q5, g1, g0, c1, x0]; (try (simp (disch := omega) only [W2, Int.cast_ofNat_Int]; (try simp only [S, TY, reduceCtorEq, nq0, nq1, nq2, nq3, nq4, iq0, iq1, iq2, iq3, iq4, iq5, iq6, iq7, iq8, q1, q2, q3, q4, q5, g1, g0, c1, x0])))))
      refine sg.st h rfl rfl fun H2 h2 => ?_
      simp only [front_eq, fronts_nil, fronts_cons, List.getElem?_cons_zero, List.getElem?_cons_succ, List.eraseIdx_cons_zero, List.eraseIdx_cons_succ, List.cons_append, List.nil_append, putL_cons, putL_nil, List.set_cons_zero, List.set_cons_succ, Nat.reduceAdd] at h2
      ((try simp only [S, TY, reduceCtorEq, nq0, nq1, nq2, nq3, nq4, iq0, iq1, iq2, iq3, iq4, iq5, iq6, iq7, iq8, q1, q2, q3, q4, q5]); (try (simp (disch := omega) only [W2, Int.cast_ofNat_Int]; (try simp only [S, TY, reduceCtorEq, nq0, nq1, nq2, nq3, nq4, iq0, iq1, iq2, iq3, iq4, iq5, iq6, iq7, iq8, q1, q2, q3, q4, q5]))); repeat ((first | (refine cl_drawi 14 D120_14 (List.range 15) (by decide) (by kernel_rfl) ?_; unfold D120_14)); simp only [S, TY, reduceCtorEq, nq0, nq1, nq2, nq3, nq4, iq0, iq1, iq2, iq3, iq4, iq5, iq6, iq7, iq8, q1, q2, q3, q4, q5]; (try (simp (disch := omega) only [W2, Int.cast_ofNat_Int]; (try simp only [S, TY, reduceCtorEq, nq0, nq1, nq2, nq3, nq4, iq0, iq1, iq2, iq3, iq4, iq5, iq6, iq7, iq8, q1, q2, q3, q4, q5])))))
      refine .go (i + 1) (by omega) ⟨by omega, q1, q2, q3, q4, rfl, ?_⟩
      rw [ht]; unfold W.put1; rw [if_neg (by unfold fits; omega)]
      exact isW_shut (w := ⟨w'.b, true⟩) h2
    obtain ⟨X, rfl⟩ : ∃ X : Nat, x = X := ⟨x.toNat, by omega⟩
    obtain ⟨N, rfl⟩ : ∃ N : Nat, n = N := ⟨n.toNat, by omega⟩
    have e8 : IntKind.i64.wrap (8 * (N : Int)) = 8 * N := wrap_id (by omega) (by omega)
    have nn : ¬ 8 * (N : Int) < 0 := by omega
    have hsh : ((X : Int).fdiv (2 ^ (min (8 * (N : Int)).toNat 64))) = ((X / 256 ^ N : Nat) : Int) := by
      rw [show min (8 * (N : Int)).toNat 64 = 8 * N by omega, fdiv_pos, p256]
    by_cases x1 : (N : Int) < 8 ∧ (0 : Int) < ((X / 256 ^ N : Nat) : Int)
    · ((try simp only [S, TY, reduceCtorEq, nq0, nq1, nq2, nq3, nq4, iq0, iq1, iq2, iq3, iq4, iq5, iq6, iq7, iq8, q1, q2, q3, q4, q5, g1, g0, c1, x0, x1, e8, nn, hsh]); (try (simp (disch := omega) only [W2, Int.cast_ofNat_Int]; (try simp only [S, TY, reduceCtorEq, nq0, nq1, nq2, nq3, nq4, iq0, iq1, iq2, iq3, iq4, iq5, iq6, iq7, iq8, q1, q2, q3, q4, q5, g1, g0, c1, x0, x1, e8, nn, hsh]))); repeat ((first | (refine cl_drawi 14 D120_14 (List.range 15) (by decide) (by kernel_rfl) ?_; unfold D120_14)); simp only [S, TY, reduceCtorEq, nq0, nq1, nq2, nq3, nq4, iq0, iq1, iq2, iq3, iq4, iq5, iq6, iq7, iq8, q1, q2, q3, q4, q5, g1, g0, c1, x0, x1, e8, nn, hsh]; (try (simp (disch := omega) only [W2, Int.cast_ofNat_Int]; (try simp only [S, TY, reduceCtorEq, nq0, nq1, nq2, nq3, nq4, iq0, iq1, iq2, iq3, iq4, iq5, iq6, iq7, iq8, q1, q2, q3, q4, q5, g1, g0, c1, x0, x1, e8, nn, hsh])))))
      refine sg.st h rfl rfl fun H2 h2 => ?_
      simp only [front_eq, fronts_nil, fronts_cons, List.getElem?_cons_zero, List.getElem?_cons_succ, List.eraseIdx_cons_zero, List.eraseIdx_cons_succ, List.cons_append, List.nil_append, putL_cons, putL_nil, List.set_cons_zero, List.set_cons_succ, Nat.reduceAdd] at h2
      ((try simp only [S, TY, reduceCtorEq, nq0, nq1, nq2, nq3, nq4, iq0, iq1, iq2, iq3, iq4, iq5, iq6, iq7, iq8, q1, q2, q3, q4, q5]); (try (simp (disch := omega) only [W2, Int.cast_ofNat_Int]; (try simp only [S, TY, reduceCtorEq, nq0, nq1, nq2, nq3, nq4, iq0, iq1, iq2, iq3, iq4, iq5, iq6, iq7, iq8, q1, q2, q3, q4, q5]))); repeat ((first | (refine cl_drawi 14 D120_14 (List.range 15) (by decide) (by kernel_rfl) ?_; unfold D120_14)); simp only [S, TY, reduceCtorEq, nq0, nq1, nq2, nq3, nq4, iq0, iq1, iq2, iq3, iq4, iq5, iq6, iq7, iq8, q1, q2, q3, q4, q5]; (try (simp (disch := omega) only [W2, Int.cast_ofNat_Int]; (try simp only [S, TY, reduceCtorEq, nq0, nq1, nq2, nq3, nq4, iq0, iq1, iq2, iq3, iq4, iq5, iq6, iq7, iq8, q1, q2, q3, q4, q5])))))
      refine .go (i + 1) (by omega) ⟨by omega, q1, q2, q3, q4, rfl, ?_⟩
      rw [ht]; unfold W.put1; rw [if_neg]
      · exact isW_shut (w := ⟨w'.b, true⟩) h2
      · rintro ⟨_, h8 | hlt⟩
        · omega
        · have : X < 256 ^ N := by simpa using hlt
          rw [Nat.div_eq_of_lt this] at x1
          exact absurd x1.2 (by decide)
    · have fit : fits N X := by
        refine ⟨by omega, ?_⟩
        by_cases h8 : (N : Int) = 8
        · exact .inl h8
        · right
          have : ¬ (0 : Int) < ((X / 256 ^ N : Nat) : Int) := fun q => x1 ⟨by omega, q⟩
          have h0 : X / 256 ^ N = 0 := (Nat.eq_zero_or_pos _).resolve_right fun q => this (Int.natCast_pos.2 q)
          have := (Nat.div_eq_zero_iff_lt (Nat.pow_pos (by decide))).1 h0
          simpa using this
      by_cases x2 : (N : Int) < 8
      · have x3 : ¬ (0 : Int) < ((X / 256 ^ N : Nat) : Int) := fun q => x1 ⟨x2, q⟩
        ((try simp only [S, TY, reduceCtorEq, nq0, nq1, nq2, nq3, nq4, iq0, iq1, iq2, iq3, iq4, iq5, iq6, iq7, iq8, q1, q2, q3, q4, q5, g1, g0, c1, x0, x2, x3, e8, nn, hsh]); (try (simp (disch := omega) only [W2, Int.cast_ofNat_Int]; (try simp only [S, TY, reduceCtorEq, nq0, nq1, nq2, nq3, nq4, iq0, iq1, iq2, iq3, iq4, iq5, iq6, iq7, iq8, q1, q2, q3, q4, q5, g1, g0, c1, x0, x2, x3, e8, nn, hsh]))); repeat ((first | (refine cl_drawi 14 D120_14 (List.range 15) (by decide) (by kernel_rfl) ?_; unfold D120_14)); simp only [S, TY, reduceCtorEq, nq0, nq1, nq2, nq3, nq4, iq0, iq1, iq2, iq3, iq4, iq5, iq6, iq7, iq8, q1, q2, q3, q4, q5, g1, g0, c1, x0, x2, x3, e8, nn, hsh]; (try (simp (disch := omega) only [W2, Int.cast_ofNat_Int]; (try simp only [S, TY, reduceCtorEq, nq0, nq1, nq2, nq3, nq4, iq0, iq1, iq2, iq3, iq4, iq5, iq6, iq7, iq8, q1, q2, q3, q4, q5, g1, g0, c1, x0, x2, x3, e8, nn, hsh])))))
        (try simp (disch := omega) only [wrap_id, Int.natCast_zero, Int.sub_zero, Int.toNat_natCast, Int.toNat_zero, Int.cast_ofNat_Int, Int.sub_self])
        refine cl_loop (fun j e H => j ≤ N ∧ e 0 = .pointer (some ⟨p, 0, none⟩) ∧ e 1 = .int .i64 N ∧ e 8 = .int .i64 X ∧ e 22 = .slice (some ⟨b, off, none⟩) k c0 ∧ e 23 = .int .i64 k ∧ e 24 = .int .i64 i ∧ e 9 = .int .i64 ((j : Int) - 1) ∧ ∃ y, y ++ num j X = num N X ∧ sg G [isW p ⟨w'.b ++ y, w'.wrong⟩] H) (fun j => j) N
          ⟨by omega, q1, q2, rfl, q3, q4, q5, rfl, [], by simp, by rw [List.append_nil]; exact hH⟩ ?_
        rintro j e H ⟨r0, r1, r2, r3, r4, r5, r6, r7, y, r8, hH⟩
        by_cases j0 : j = 0
        · subst j0
          ((try simp only [S, TY, reduceCtorEq, nq0, nq1, nq2, nq3, nq4, iq0, iq1, iq2, iq3, iq4, iq5, iq6, iq7, iq8, r1, r2, r3, r4, r5, r6, r7]); (try (simp (disch := omega) only [W2, Int.cast_ofNat_Int]; (try simp only [S, TY, reduceCtorEq, nq0, nq1, nq2, nq3, nq4, iq0, iq1, iq2, iq3, iq4, iq5, iq6, iq7, iq8, r1, r2, r3, r4, r5, r6, r7]))); repeat ((first | (refine cl_drawi 14 D120_14 (List.range 15) (by decide) (by kernel_rfl) ?_; unfold D120_14)); simp only [S, TY, reduceCtorEq, nq0, nq1, nq2, nq3, nq4, iq0, iq1, iq2, iq3, iq4, iq5, iq6, iq7, iq8, r1, r2, r3, r4, r5, r6, r7]; (try (simp (disch := omega) only [W2, Int.cast_ofNat_Int]; (try simp only [S, TY, reduceCtorEq, nq0, nq1, nq2, nq3, nq4, iq0, iq1, iq2, iq3, iq4, iq5, iq6, iq7, iq8, r1, r2, r3, r4, r5, r6, r7])))))
          refine .go (i + 1) (by omega) ⟨by omega, r1, r2, r4, r5, rfl, ?_⟩
          rw [ht]; unfold W.put1; rw [if_pos fit]
          simp only [num, List.append_nil] at r8
          rw [r8] at hH
          exact hH
        · obtain ⟨j, rfl⟩ : ∃ m, j = m + 1 := ⟨j - 1, by omega⟩
          obtain ⟨sa, sn, sc, f1, f2, h⟩ := isW_open hH
          have c := h.c0
          have s1 : ((j + 1 : Nat) : Int) - 1 = j := by omega
          rw [s1] at r7
          have s2 : (0 : Int) ≤ j := by omega
          have s3 : IntKind.i64.wrap (8 * (j : Int)) = 8 * j := wrap_id (by omega) (by omega)
          have s4 : ¬ 8 * (j : Int) < 0 := by omega
          have s5 : ((X : Int).fdiv (2 ^ (min (8 * (j : Int)).toNat 64))) = ((X / 256 ^ j : Nat) : Int) := by
            rw [show min (8 * (j : Int)).toNat 64 = 8 * j by omega, fdiv_pos, p256]
          ((try simp only [S, TY, reduceCtorEq, nq0, nq1, nq2, nq3, nq4, iq0, iq1, iq2, iq3, iq4, iq5, iq6, iq7, iq8, r1, r2, r3, r4, r5, r6, r7, c, s2, s3, s4, s5]); (try (simp (disch := omega) only [W2, Int.cast_ofNat_Int]; (try simp only [S, TY, reduceCtorEq, nq0, nq1, nq2, nq3, nq4, iq0, iq1, iq2, iq3, iq4, iq5, iq6, iq7, iq8, r1, r2, r3, r4, r5, r6, r7, c, s2, s3, s4, s5]))); repeat ((first | (refine cl_drawi 14 D120_14 (List.range 15) (by decide) (by kernel_rfl) ?_; unfold D120_14)); simp only [S, TY, reduceCtorEq, nq0, nq1, nq2, nq3, nq4, iq0, iq1, iq2, iq3, iq4, iq5, iq6, iq7, iq8, r1, r2, r3, r4, r5, r6, r7, c, s2, s3, s4, s5]; (try (simp (disch := omega) only [W2, Int.cast_ofNat_Int]; (try simp only [S, TY, reduceCtorEq, nq0, nq1, nq2, nq3, nq4, iq0, iq1, iq2, iq3, iq4, iq5, iq6, iq7, iq8, r1, r2, r3, r4, r5, r6, r7, c, s2, s3, s4, s5])))))
          have hy : y.length + (j + 1) = N := by have := congrArg List.length r8; simpa [num_length] using this
          have s6 : (((X / 256 ^ j : Nat) : Int) % 256) = ((UInt8.ofNat (X / 256 ^ j)).toNat : Int) := by simp
          simp only [s6]
          intro nb hnb hng
          have h1 := h.newsl (e := 5) (sz := 1) (n := 1) (xs := bv [UInt8.ofNat (X / 256 ^ j)]) hnb hng rfl
          ((try simp only [S, TY, reduceCtorEq, nq0, nq1, nq2, nq3, nq4, iq0, iq1, iq2, iq3, iq4, iq5, iq6, iq7, iq8]); (try (simp (disch := omega) only [W2, Int.cast_ofNat_Int]; (try simp only [S, TY, reduceCtorEq, nq0, nq1, nq2, nq3, nq4, iq0, iq1, iq2, iq3, iq4, iq5, iq6, iq7, iq8]))); repeat ((first | (refine cl_drawi 14 D120_14 (List.range 15) (by decide) (by kernel_rfl) ?_; unfold D120_14)); simp only [S, TY, reduceCtorEq, nq0, nq1, nq2, nq3, nq4, iq0, iq1, iq2, iq3, iq4, iq5, iq6, iq7, iq8]; (try (simp (disch := omega) only [W2, Int.cast_ofNat_Int]; (try simp only [S, TY, reduceCtorEq, nq0, nq1, nq2, nq3, nq4, iq0, iq1, iq2, iq3, iq4, iq5, iq6, iq7, iq8])))))
          refine append_sl (show apI Try.prog 24 = some (5, 1, 1) from by kernel_rfl) (show slIs Try.prog 24 = true from by kernel_rfl) (h1.front 2) (h1.rdsi 0 rfl Rd_own) (bv_one _) (by simp only [bv_length, List.length_cons, List.length_nil, List.length_append]; omega) fun v H2 h2 => ?_
          obtain ⟨va, vn, vc, rfl, e7, e8⟩ := h2.sl 0 rfl Rd_own
          rw [← bv_append] at h2
          ((try simp only [S, TY, reduceCtorEq, nq0, nq1, nq2, nq3, nq4, iq0, iq1, iq2, iq3, iq4, iq5, iq6, iq7, iq8]); (try (simp (disch := omega) only [W2, Int.cast_ofNat_Int]; (try simp only [S, TY, reduceCtorEq, nq0, nq1, nq2, nq3, nq4, iq0, iq1, iq2, iq3, iq4, iq5, iq6, iq7, iq8]))); repeat ((first | (refine cl_drawi 14 D120_14 (List.range 15) (by decide) (by kernel_rfl) ?_; unfold D120_14)); simp only [S, TY, reduceCtorEq, nq0, nq1, nq2, nq3, nq4, iq0, iq1, iq2, iq3, iq4, iq5, iq6, iq7, iq8]; (try (simp (disch := omega) only [W2, Int.cast_ofNat_Int]; (try simp only [S, TY, reduceCtorEq, nq0, nq1, nq2, nq3, nq4, iq0, iq1, iq2, iq3, iq4, iq5, iq6, iq7, iq8])))))
          refine sg.st (h2.front 2) rfl rfl fun H3 h3 => ?_
          simp only [front_eq, fronts_nil, fronts_cons, List.getElem?_cons_zero, List.getElem?_cons_succ, List.eraseIdx_cons_zero, List.eraseIdx_cons_succ, List.cons_append, List.nil_append, putL_cons, putL_nil, List.set_cons_zero, List.set_cons_succ, Nat.reduceAdd] at h3
          ((try simp only [S, TY, reduceCtorEq, nq0, nq1, nq2, nq3, nq4, iq0, iq1, iq2, iq3, iq4, iq5, iq6, iq7, iq8, r1, r2, r3, r4, r5, r6, r7]); (try (simp (disch := omega) only [W2, Int.cast_ofNat_Int]; (try simp only [S, TY, reduceCtorEq, nq0, nq1, nq2, nq3, nq4, iq0, iq1, iq2, iq3, iq4, iq5, iq6, iq7, iq8, r1, r2, r3, r4, r5, r6, r7]))); repeat ((first | (refine cl_drawi 14 D120_14 (List.range 15) (by decide) (by kernel_rfl) ?_; unfold D120_14)); simp only [S, TY, reduceCtorEq, nq0, nq1, nq2, nq3, nq4, iq0, iq1, iq2, iq3, iq4, iq5, iq6, iq7, iq8, r1, r2, r3, r4, r5, r6, r7]; (try (simp (disch := omega) only [W2, Int.cast_ofNat_Int]; (try simp only [S, TY, reduceCtorEq, nq0, nq1, nq2, nq3, nq4, iq0, iq1, iq2, iq3, iq4, iq5, iq6, iq7, iq8, r1, r2, r3, r4, r5, r6, r7])))))
          refine .go j (by omega) ⟨by omega, r1, r2, r3, r4, r5, r6, rfl, y ++ [UInt8.ofNat (X / 256 ^ j)], ?_, ?_⟩
          · rw [← r8]; simp [num]
          · rw [← List.append_assoc]
            exact ((isW_shut (w := ⟨w'.b ++ y ++ [UInt8.ofNat (X / 256 ^ j)], w'.wrong⟩) h3).front 1).tail
      · ((try simp only [S, TY, reduceCtorEq, nq0, nq1, nq2, nq3, nq4, iq0, iq1, iq2, iq3, iq4, iq5, iq6, iq7, iq8, q1, q2, q3, q4, q5, g1, g0, c1, x0, x2, e8, nn, hsh]); (try (simp (disch := omega) only [W2, Int.cast_ofNat_Int]; (try simp only [S, TY, reduceCtorEq, nq0, nq1, nq2, nq3, nq4, iq0, iq1, iq2, iq3, iq4, iq5, iq6, iq7, iq8, q1, q2, q3, q4, q5, g1, g0, c1, x0, x2, e8, nn, hsh]))); repeat ((first | (refine cl_drawi 14 D120_14 (List.range 15) (by decide) (by kernel_rfl) ?_; unfold D120_14)); simp only [S, TY, reduceCtorEq, nq0, nq1, nq2, nq3, nq4, iq0, iq1, iq2, iq3, iq4, iq5, iq6, iq7, iq8, q1, q2, q3, q4, q5, g1, g0, c1, x0, x2, e8, nn, hsh]; (try (simp (disch := omega) only [W2, Int.cast_ofNat_Int]; (try simp only [S, TY, reduceCtorEq, nq0, nq1, nq2, nq3, nq4, iq0, iq1, iq2, iq3, iq4, iq5, iq6, iq7, iq8, q1, q2, q3, q4, q5, g1, g0, c1, x0, x2, e8, nn, hsh])))))
        (try simp (disch := omega) only [wrap_id, Int.natCast_zero, Int.sub_zero, Int.toNat_natCast, Int.toNat_zero, Int.cast_ofNat_Int, Int.sub_self])
        refine cl_loop (fun j e H => j ≤ N ∧ e 0 = .pointer (some ⟨p, 0, none⟩) ∧ e 1 = .int .i64 N ∧ e 8 = .int .i64 X ∧ e 22 = .slice (some ⟨b, off, none⟩) k c0 ∧ e 23 = .int .i64 k ∧ e 24 = .int .i64 i ∧ e 9 = .int .i64 ((j : Int) - 1) ∧ ∃ y, y ++ num j X = num N X ∧ sg G [isW p ⟨w'.b ++ y, w'.wrong⟩] H) (fun j => j) N
          ⟨by omega, q1, q2, rfl, q3, q4, q5, rfl, [], by simp, by rw [List.append_nil]; exact hH⟩ ?_
        rintro j e H ⟨r0, r1, r2, r3, r4, r5, r6, r7, y, r8, hH⟩
        by_cases j0 : j = 0
        · subst j0
          ((try simp only [S, TY, reduceCtorEq, nq0, nq1, nq2, nq3, nq4, iq0, iq1, iq2, iq3, iq4, iq5, iq6, iq7, iq8, r1, r2, r3, r4, r5, r6, r7]); (try (simp (disch := omega) only [W2, Int.cast_ofNat_Int]; (try simp only [S, TY, reduceCtorEq, nq0, nq1, nq2, nq3, nq4, iq0, iq1, iq2, iq3, iq4, iq5, iq6, iq7, iq8, r1, r2, r3, r4, r5, r6, r7]))); repeat ((first | (refine cl_drawi 14 D120_14 (List.range 15) (by decide) (by kernel_rfl) ?_; unfold D120_14)); simp only [S, TY, reduceCtorEq, nq0, nq1, nq2, nq3, nq4, iq0, iq1, iq2, iq3, iq4, iq5, iq6, iq7, iq8, r1, r2, r3, r4, r5, r6, r7]; (try (simp (disch := omega) only [W2, Int.cast_ofNat_Int]; (try simp only [S, TY, reduceCtorEq, nq0, nq1, nq2, nq3, nq4, iq0, iq1, iq2, iq3, iq4, iq5, iq6, iq7, iq8, r1, r2, r3, r4, r5, r6, r7])))))
          refine .go (i + 1) (by omega) ⟨by omega, r1, r2, r4, r5, rfl, ?_⟩
          rw [ht]; unfold W.put1; rw [if_pos fit]
          simp only [num, List.append_nil] at r8
          rw [r8] at hH
          exact hH
        · obtain ⟨j, rfl⟩ : ∃ m, j = m + 1 := ⟨j - 1, by omega⟩
          obtain ⟨sa, sn, sc, f1, f2, h⟩ := isW_open hH
          have c := h.c0
          have s1 : ((j + 1 : Nat) : Int) - 1 = j := by omega
          rw [s1] at r7
          have s2 : (0 : Int) ≤ j := by omega
          have s3 : IntKind.i64.wrap (8 * (j : Int)) = 8 * j := wrap_id (by omega) (by omega)
          have s4 : ¬ 8 * (j : Int) < 0 := by omega
          have s5 : ((X : Int).fdiv (2 ^ (min (8 * (j : Int)).toNat 64))) = ((X / 256 ^ j : Nat) : Int) := by
            rw [show min (8 * (j : Int)).toNat 64 = 8 * j by omega, fdiv_pos, p256]
          ((try simp only [S, TY, reduceCtorEq, nq0, nq1, nq2, nq3, nq4, iq0, iq1, iq2, iq3, iq4, iq5, iq6, iq7, iq8, r1, r2, r3, r4, r5, r6, r7, c, s2, s3, s4, s5]); (try (simp (disch := omega) only [W2, Int.cast_ofNat_Int]; (try simp only [S, TY, reduceCtorEq, nq0, nq1, nq2, nq3, nq4, iq0, iq1, iq2, iq3, iq4, iq5, iq6, iq7, iq8, r1, r2, r3, r4, r5, r6, r7, c, s2, s3, s4, s5]))); repeat ((first | (refine cl_drawi 14 D120_14 (List.range 15) (by decide) (by kernel_rfl) ?_; unfold D120_14)); simp only [S, TY, reduceCtorEq, nq0, nq1, nq2, nq3, nq4, iq0, iq1, iq2, iq3, iq4, iq5, iq6, iq7, iq8, r1, r2, r3, r4, r5, r6, r7, c, s2, s3, s4, s5]; (try (simp (disch := omega) only [W2, Int.cast_ofNat_Int]; (try simp only [S, TY, reduceCtorEq, nq0, nq1, nq2, nq3, nq4, iq0, iq1, iq2, iq3, iq4, iq5, iq6, iq7, iq8, r1, r2, r3, r4, r5, r6, r7, c, s2, s3, s4, s5])))))
          have hy : y.length + (j + 1) = N := by have := congrArg List.length r8; simpa [num_length] using this
          have s6 : (((X / 256 ^ j : Nat) : Int) % 256) = ((UInt8.ofNat (X / 256 ^ j)).toNat : Int) := by simp
          simp only [s6]
          intro nb hnb hng
          have h1 := h.newsl (e := 5) (sz := 1) (n := 1) (xs := bv [UInt8.ofNat (X / 256 ^ j)]) hnb hng rfl
          ((try simp only [S, TY, reduceCtorEq, nq0, nq1, nq2, nq3, nq4, iq0, iq1, iq2, iq3, iq4, iq5, iq6, iq7, iq8]); (try (simp (disch := omega) only [W2, Int.cast_ofNat_Int]; (try simp only [S, TY, reduceCtorEq, nq0, nq1, nq2, nq3, nq4, iq0, iq1, iq2, iq3, iq4, iq5, iq6, iq7, iq8]))); repeat ((first | (refine cl_drawi 14 D120_14 (List.range 15) (by decide) (by kernel_rfl) ?_; unfold D120_14)); simp only [S, TY, reduceCtorEq, nq0, nq1, nq2, nq3, nq4, iq0, iq1, iq2, iq3, iq4, iq5, iq6, iq7, iq8]; (try (simp (disch := omega) only [W2, Int.cast_ofNat_Int]; (try simp only [S, TY, reduceCtorEq, nq0, nq1, nq2, nq3, nq4, iq0, iq1, iq2, iq3, iq4, iq5, iq6, iq7, iq8])))))
          refine append_sl (show apI Try.prog 24 = some (5, 1, 1) from by kernel_rfl) (show slIs Try.prog 24 = true from by kernel_rfl) (h1.front 2) (h1.rdsi 0 rfl Rd_own) (bv_one _) (by simp only [bv_length, List.length_cons, List.length_nil, List.length_append]; omega) fun v H2 h2 => ?_
          obtain ⟨va, vn, vc, rfl, e7, e8⟩ := h2.sl 0 rfl Rd_own
          rw [← bv_append] at h2
          ((try simp only [S, TY, reduceCtorEq, nq0, nq1, nq2, nq3, nq4, iq0, iq1, iq2, iq3, iq4, iq5, iq6, iq7, iq8]); (try (simp (disch := omega) only [W2, Int.cast_ofNat_Int]; (try simp only [S, TY, reduceCtorEq, nq0, nq1, nq2, nq3, nq4, iq0, iq1, iq2, iq3, iq4, iq5, iq6, iq7, iq8]))); repeat ((first | (refine cl_drawi 14 D120_14 (List.range 15) (by decide) (by kernel_rfl) ?_; unfold D120_14)); simp only [S, TY, reduceCtorEq, nq0, nq1, nq2, nq3, nq4, iq0, iq1, iq2, iq3, iq4, iq5, iq6, iq7, iq8]; (try (simp (disch := omega) only [W2, Int.cast_ofNat_Int]; (try simp only [S, TY, reduceCtorEq, nq0, nq1, nq2, nq3, nq4, iq0, iq1, iq2, iq3, iq4, iq5, iq6, iq7, iq8])))))
          refine sg.st (h2.front 2) rfl rfl fun H3 h3 => ?_
          simp only [front_eq, fronts_nil, fronts_cons, List.getElem?_cons_zero, List.getElem?_cons_succ, List.eraseIdx_cons_zero, List.eraseIdx_cons_succ, List.cons_append, List.nil_append, putL_cons, putL_nil, List.set_cons_zero, List.set_cons_succ, Nat.reduceAdd] at h3
          ((try simp only [S, TY, reduceCtorEq, nq0, nq1, nq2, nq3, nq4, iq0, iq1, iq2, iq3, iq4, iq5, iq6, iq7, iq8, r1, r2, r3, r4, r5, r6, r7]); (try (simp (disch := omega) only [W2, Int.cast_ofNat_Int]; (try simp only [S, TY, reduceCtorEq, nq0, nq1, nq2, nq3, nq4, iq0, iq1, iq2, iq3, iq4, iq5, iq6, iq7, iq8, r1, r2, r3, r4, r5, r6, r7]))); repeat ((first | (refine cl_drawi 14 D120_14 (List.range 15) (by decide) (by kernel_rfl) ?_; unfold D120_14)); simp only [S, TY, reduceCtorEq, nq0, nq1, nq2, nq3, nq4, iq0, iq1, iq2, iq3, iq4, iq5, iq6, iq7, iq8, r1, r2, r3, r4, r5, r6, r7]; (try (simp (disch := omega) only [W2, Int.cast_ofNat_Int]; (try simp only [S, TY, reduceCtorEq, nq0, nq1, nq2, nq3, nq4, iq0, iq1, iq2, iq3, iq4, iq5, iq6, iq7, iq8, r1, r2, r3, r4, r5, r6, r7])))))
          refine .go j (by omega) ⟨by omega, r1, r2, r3, r4, r5, r6, rfl, y ++ [UInt8.ofNat (X / 256 ^ j)], ?_, ?_⟩
          · rw [← r8]; simp [num]
          · rw [← List.append_assoc]
            exact ((isW_shut (w := ⟨w'.b ++ y ++ [UInt8.ofNat (X / 256 ^ j)], w'.wrong⟩) h3).front 1).tail
  · ((try simp only [S, TY, reduceCtorEq, nq0, nq1, nq2, nq3, nq4, iq0, iq1, iq2, iq3, iq4, iq5, iq6, iq7, iq8, q1, q2, q3, q4, q5, g1]); (try (simp (disch := omega) only [W2, Int.cast_ofNat_Int]; (try simp only [S, TY, reduceCtorEq, nq0, nq1, nq2, nq3, nq4, iq0, iq1, iq2, iq3, iq4, iq5, iq6, iq7, iq8, q1, q2, q3, q4, q5, g1]))); repeat ((first | (refine cl_drawi 14 D120_14 (List.range 15) (by decide) (by kernel_rfl) ?_; unfold D120_14)); simp only [S, TY, reduceCtorEq, nq0, nq1, nq2, nq3, nq4, iq0, iq1, iq2, iq3, iq4, iq5, iq6, iq7, iq8, q1, q2, q3, q4, q5, g1]; (try (simp (disch := omega) only [W2, Int.cast_ofNat_Int]; (try simp only [S, TY, reduceCtorEq, nq0, nq1, nq2, nq3, nq4, iq0, iq1, iq2, iq3, iq4, iq5, iq6, iq7, iq8, q1, q2, q3, q4, q5, g1])))))
    obtain rfl : i = k := by omega
    rw [← hk, List.take_length] at hH
    exact fin_ret hH ⟨rfl, by unfold W.put; rw [if_neg (by omega)]⟩
theorem clone_nil {G : Hp} : Con Try.prog G 178 [.slice none 0 0] [] (fun v B => v = .slice none 0 0 ∧ B = []) := by
  refine Con.intro Try.func178 rfl (Nat.le_of_ble_eq_true (by kernel_rfl)) (by kernel_rfl) Try.results178 ?_
  intro H hH
  ((try simp only [S, TY, reduceCtorEq, nq0, nq1, nq2, nq3, nq4, iq0, iq1, iq2, iq3, iq4, iq5, iq6, iq7, iq8]); (try (simp (disch := omega) only [W2, Int.cast_ofNat_Int]; (try simp only [S, TY, reduceCtorEq, nq0, nq1, nq2, nq3, nq4, iq0, iq1, iq2, iq3, iq4, iq5, iq6, iq7, iq8]))))
  exact fin_ret hH ⟨rfl, rfl⟩
theorem clone_ok {G : Hp} {v : Value} {l : List UInt8} (hv : rds G 1 v (bv l)) (hl : l.length ≤ 70368744177664) :
    Con Try.prog G 178 [v] [] (fun r B => B = [own 5 1 r (bv l)]) := by
  refine Con.intro Try.func178 rfl (Nat.le_of_ble_eq_true (by kernel_rfl)) (by kernel_rfl) Try.results178 ?_
  intro H hH
  obtain ⟨a, n, c, rfl, e1, e2⟩ := hv.slice
  cases a with
  | none =>
    have h0 := bv_nil_iff.1 hv.none_
    subst h0
    obtain rfl : n = 0 := by simpa [bv] using e1.symm
    ((try simp only [S, TY, reduceCtorEq, nq0, nq1, nq2, nq3, nq4, iq0, iq1, iq2, iq3, iq4, iq5, iq6, iq7, iq8]); (try (simp (disch := omega) only [W2, Int.cast_ofNat_Int]; (try simp only [S, TY, reduceCtorEq, nq0, nq1, nq2, nq3, nq4, iq0, iq1, iq2, iq3, iq4, iq5, iq6, iq7, iq8]))))
    exact fin_ret (hH.nil_ 5 1) (by simp [bv])
  | some a =>
    ((try simp only [S, TY, reduceCtorEq, nq0, nq1, nq2, nq3, nq4, iq0, iq1, iq2, iq3, iq4, iq5, iq6, iq7, iq8]); (try (simp (disch := omega) only [W2, Int.cast_ofNat_Int]; (try simp only [S, TY, reduceCtorEq, nq0, nq1, nq2, nq3, nq4, iq0, iq1, iq2, iq3, iq4, iq5, iq6, iq7, iq8]))))
    intro b hb hg
    have h1 := hH.newsl (e := 5) (sz := 1) (n := 0) (xs := []) hb hg rfl
    ((try simp only [S, TY, reduceCtorEq, nq0, nq1, nq2, nq3, nq4, iq0, iq1, iq2, iq3, iq4, iq5, iq6, iq7, iq8]); (try (simp (disch := omega) only [W2, Int.cast_ofNat_Int]; (try simp only [S, TY, reduceCtorEq, nq0, nq1, nq2, nq3, nq4, iq0, iq1, iq2, iq3, iq4, iq5, iq6, iq7, iq8]))))
    refine append_sl (show apI Try.prog 24 = some (5, 1, 1) from by kernel_rfl) (show slIs Try.prog 24 = true from by kernel_rfl) h1 (h1.ro hv) (bv_one _) (by simp only [bv_length, List.length_nil]; omega) fun v H2 h2 => ?_
    ((try simp only [S, TY, reduceCtorEq, nq0, nq1, nq2, nq3, nq4, iq0, iq1, iq2, iq3, iq4, iq5, iq6, iq7, iq8]); (try (simp (disch := omega) only [W2, Int.cast_ofNat_Int]; (try simp only [S, TY, reduceCtorEq, nq0, nq1, nq2, nq3, nq4, iq0, iq1, iq2, iq3, iq4, iq5, iq6, iq7, iq8]))))
    exact fin_ret h2 (by simp)
theorem bytes_nil {G : Hp} (b : Value) : Con Try.prog G 121 [.pointer none, b] [] (fun v B => v = .pointer none ∧ B = []) := by
  refine Con.intro Try.func121 rfl (Nat.le_of_ble_eq_true (by kernel_rfl)) (by kernel_rfl) Try.results121 ?_
  intro H hH
  ((try simp only [S, TY, reduceCtorEq, nq0, nq1, nq2, nq3, nq4, iq0, iq1, iq2, iq3, iq4, iq5, iq6, iq7, iq8]); (try (simp (disch := omega) only [W2, Int.cast_ofNat_Int]; (try simp only [S, TY, reduceCtorEq, nq0, nq1, nq2, nq3, nq4, iq0, iq1, iq2, iq3, iq4, iq5, iq6, iq7, iq8]))))
  exact fin_ret hH ⟨rfl, rfl⟩
def W.bytes (w : W) (l : List UInt8) : W := ⟨(w.put 2 [(l.length : Int)]).b ++ l, (w.put 2 [(l.length : Int)]).wrong⟩
theorem put_len {w : W} (n : Int) (l : List Int) : (w.put n l).b.length ≤ w.b.length + 8 * l.length := by
  unfold W.put; split
  · simp
  · exact fold_le n (by omega) l w
theorem bytes_ok {G : Hp} {p : Nat} {w : W} {v : Value} {l : List UInt8} (hv : rds G 1 v (bv l)) (hb : w.b.length + 8 + l.length ≤ 70368744177664) :
    Con Try.prog G 121 [.pointer (some ⟨p, 0, none⟩), v] [isW p w] (fun r B => r = .pointer (some ⟨p, 0, none⟩) ∧ B = [isW p (w.bytes l)]) := by
  refine Con.intro Try.func121 rfl (Nat.le_of_ble_eq_true (by kernel_rfl)) (by kernel_rfl) Try.results121 ?_
  intro H hH
  obtain ⟨a, n, c, rfl, e1, e2⟩ := hv.slice
  rw [bv_length] at e1
  ((try simp only [S, TY, reduceCtorEq, nq0, nq1, nq2, nq3, nq4, iq0, iq1, iq2, iq3, iq4, iq5, iq6, iq7, iq8]); (try (simp (disch := omega) only [W2, Int.cast_ofNat_Int]; (try simp only [S, TY, reduceCtorEq, nq0, nq1, nq2, nq3, nq4, iq0, iq1, iq2, iq3, iq4, iq5, iq6, iq7, iq8]))))
  intro b hb' hg
  have h1 := hH.newsl (e := 3) (sz := 1) (n := 1) (xs := iv [(n : Int)]) hb' hg rfl
  ((try simp only [S, TY, reduceCtorEq, nq0, nq1, nq2, nq3, nq4, iq0, iq1, iq2, iq3, iq4, iq5, iq6, iq7, iq8]); (try (simp (disch := omega) only [W2, Int.cast_ofNat_Int]; (try simp only [S, TY, reduceCtorEq, nq0, nq1, nq2, nq3, nq4, iq0, iq1, iq2, iq3, iq4, iq5, iq6, iq7, iq8]))))
  refine Con.lend_at [isW p w] [own 3 1 _ _] h1 [1, 0] rfl (fun F hF hs => put_ok (n := 2) (l := [(n : Int)]) (seps_own hs 0 rfl).left (by simp; omega)) fun r B H2 hr h2 => ?_
  obtain ⟨rfl, rfl⟩ := hr
  have hpl := put_len (w := w) 2 [(n : Int)]
  simp only [List.length_cons, List.length_nil] at hpl
  obtain ⟨sa, sn, sc, f1, f2, h⟩ := isW_open h2
  have c := h.c0
  ((try simp only [S, TY, reduceCtorEq, nq0, nq1, nq2, nq3, nq4, iq0, iq1, iq2, iq3, iq4, iq5, iq6, iq7, iq8, c]); (try (simp (disch := omega) only [W2, Int.cast_ofNat_Int]; (try simp only [S, TY, reduceCtorEq, nq0, nq1, nq2, nq3, nq4, iq0, iq1, iq2, iq3, iq4, iq5, iq6, iq7, iq8, c]))))
  refine append_sl (show apI Try.prog 24 = some (5, 1, 1) from by kernel_rfl) (show slIs Try.prog 24 = true from by kernel_rfl) (h.front 1) (h.ro hv) (bv_one _) (by simp only [bv_length]; omega) fun v H3 h3 => ?_
  obtain ⟨va, vn, vc, rfl, e7, e8⟩ := h3.sl 0 rfl Rd_own
  rw [← bv_append] at h3
  ((try simp only [S, TY, reduceCtorEq, nq0, nq1, nq2, nq3, nq4, iq0, iq1, iq2, iq3, iq4, iq5, iq6, iq7, iq8]); (try (simp (disch := omega) only [W2, Int.cast_ofNat_Int]; (try simp only [S, TY, reduceCtorEq, nq0, nq1, nq2, nq3, nq4, iq0, iq1, iq2, iq3, iq4, iq5, iq6, iq7, iq8]))))
  refine sg.st (h3.front 1) rfl rfl fun H4 h4 => ?_
  simp only [front_eq, fronts_nil, fronts_cons, List.getElem?_cons_zero, List.getElem?_cons_succ, List.eraseIdx_cons_zero, List.eraseIdx_cons_succ, List.cons_append, List.nil_append, putL_cons, putL_nil, List.set_cons_zero, List.set_cons_succ, Nat.reduceAdd] at h4
  ((try simp only [S, TY, reduceCtorEq, nq0, nq1, nq2, nq3, nq4, iq0, iq1, iq2, iq3, iq4, iq5, iq6, iq7, iq8]); (try (simp (disch := omega) only [W2, Int.cast_ofNat_Int]; (try simp only [S, TY, reduceCtorEq, nq0, nq1, nq2, nq3, nq4, iq0, iq1, iq2, iq3, iq4, iq5, iq6, iq7, iq8]))))
  exact fin_take (isW_shut (w := w.bytes l) (by unfold W.bytes; rw [show l.length = n by omega]; exact h4)) ⟨rfl, rfl⟩
theorem done_nil {G : Hp} : Con Try.prog G 122 [.pointer none] [] (fun v B => v = .tuple #[.slice none 0 0, .int .i64 1] ∧ B = []) := by
  refine Con.intro Try.func122 rfl (Nat.le_of_ble_eq_true (by kernel_rfl)) (by kernel_rfl) Try.results122 ?_
  intro H hH
  ((try simp only [S, TY, reduceCtorEq, nq0, nq1, nq2, nq3, nq4, iq0, iq1, iq2, iq3, iq4, iq5, iq6, iq7, iq8]); (try (simp (disch := omega) only [W2, Int.cast_ofNat_Int]; (try simp only [S, TY, reduceCtorEq, nq0, nq1, nq2, nq3, nq4, iq0, iq1, iq2, iq3, iq4, iq5, iq6, iq7, iq8]))))
  exact fin_ret hH ⟨rfl, rfl⟩
theorem done_ok {G : Hp} {p : Nat} {w : W} (hb : w.b.length ≤ 70368744177664) :
    Con Try.prog G 122 [.pointer (some ⟨p, 0, none⟩)] [isW p w]
      (fun r B => if w.wrong then r = .tuple #[.slice none 0 0, .int .i64 1] ∧ B = [isW p w] else ∃ v, r = .tuple #[v, .int .i64 0] ∧ B = [own 5 1 v (bv w.b), isW p w]) := by
  refine Con.intro Try.func122 rfl (Nat.le_of_ble_eq_true (by kernel_rfl)) (by kernel_rfl) Try.results122 ?_
  intro H hH
  obtain ⟨sa, sn, sc, f1, f2, h⟩ := isW_open hH
  have c := h.c0
  obtain ⟨b, wrong⟩ := w
  cases wrong with
  | true =>
    ((try simp only [S, TY, reduceCtorEq, nq0, nq1, nq2, nq3, nq4, iq0, iq1, iq2, iq3, iq4, iq5, iq6, iq7, iq8, c]); (try (simp (disch := omega) only [W2, Int.cast_ofNat_Int]; (try simp only [S, TY, reduceCtorEq, nq0, nq1, nq2, nq3, nq4, iq0, iq1, iq2, iq3, iq4, iq5, iq6, iq7, iq8, c]))))
    exact fin_ret (isW_shut h) ⟨rfl, rfl⟩
  | false =>
    ((try simp only [S, TY, reduceCtorEq, nq0, nq1, nq2, nq3, nq4, iq0, iq1, iq2, iq3, iq4, iq5, iq6, iq7, iq8, c]); (try (simp (disch := omega) only [W2, Int.cast_ofNat_Int]; (try simp only [S, TY, reduceCtorEq, nq0, nq1, nq2, nq3, nq4, iq0, iq1, iq2, iq3, iq4, iq5, iq6, iq7, iq8, c]))))
    refine Con.lend_at [] [own 5 1 _ _] h [1] rfl (fun F hF hs => clone_ok (seps_own hs 0 rfl).left hb) fun r B H2 hr h2 => ?_
    subst hr
    ((try simp only [S, TY, reduceCtorEq, nq0, nq1, nq2, nq3, nq4, iq0, iq1, iq2, iq3, iq4, iq5, iq6, iq7, iq8]); (try (simp (disch := omega) only [W2, Int.cast_ofNat_Int]; (try simp only [S, TY, reduceCtorEq, nq0, nq1, nq2, nq3, nq4, iq0, iq1, iq2, iq3, iq4, iq5, iq6, iq7, iq8]))))
    exact fin_ret ((isW_shut (w := ⟨b, false⟩) (h2.fronts [2, 1])).front 1) ⟨_, rfl, rfl⟩
end Go.Proofs.Ytanhmbdcdbcfmaa.Buf
