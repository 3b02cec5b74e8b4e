/- buf.Reader, over the machine. -/
import Derived.Test.YtanhmbdcdbcfmaaBuf
set_option linter.unusedVariables false
set_option linter.unusedSimpArgs false
set_option maxRecDepth 10000
namespace Go.Proofs.Ytanhmbdcdbcfmaa.BufRd
open Nat renaming reduceEqDiff → nq0, reduceAdd → nq1, reduceLeDiff → nq2, reduceBEq → nq3, reduceMul → nq4
open Int renaming reduceBEq → iq0, reduceEq → iq1, reduceLT → iq2, reduceLE → iq3, reduceAdd → iq4, reduceSub → iq5, reduceMul → iq6, reduceToNat → iq7, cast_ofNat_Int → iq8
open Go Go.Sl Go.Proofs Go.Proofs.Ytanhmbdcdbcfmaa.Buf
theorem TY : aggN Try.prog 3 = some none ∧
  aggN Try.prog 4 = some none ∧
  aggN Try.prog 5 = some none ∧
  aggN Try.prog 24 = some none ∧
  aggN Try.prog 232 = some none ∧
  aggN Try.prog 293 = some (some 2) ∧
  apI Try.prog 24 = some (5, 1, 1) ∧
  bIs Try.prog 293 = true ∧
  boIs Try.prog 4 = true ∧
  bySl Try.prog 24 = true ∧
  csz Try.prog 3 = some 1 ∧
  csz Try.prog 4 = some 1 ∧
  csz Try.prog 5 = some 1 ∧
  csz Try.prog 24 = some 1 ∧
  csz Try.prog 232 = some 1 ∧
  csz Try.prog 293 = some 2 ∧
  fIs Try.prog 293 0 = true ∧
  fIs Try.prog 293 1 = true ∧
  fOff Try.prog 293 0 = 0 ∧
  fOff Try.prog 293 1 = 1 ∧
  fTy Try.prog 293 0 = 24 ∧
  fTy Try.prog 293 1 = 4 ∧
  goes Try.prog 178 = true ∧
  goes Try.prog 179 = true ∧
  goes Try.prog 180 = true ∧
  inIs Try.prog 3 = some .i64 ∧
  inIs Try.prog 5 = some .u8 ∧
  plcs Try.prog 293 = [(0, 1), (1, 1)] ∧
  ptIs Try.prog 232 = true ∧
  slEl Try.prog 24 = 5 ∧
  slIs Try.prog 24 = true ∧
  slSz Try.prog 24 = 1 ∧
  zcs Try.prog 293 = [.slice none 0 0, .bool false] ∧
  zro Try.prog 3 = some (.int .i64 0) ∧
  zro Try.prog 4 = some (.bool false) ∧
  zro Try.prog 5 = some (.int .u8 0) ∧
  zro Try.prog 24 = some (.slice none 0 0) ∧
  zro Try.prog 232 = some (.pointer none) ∧
  zro Try.prog 293 = some (.agg #[.slice none 0 0, .bool false]) :=
  ⟨by kernel_rfl, by kernel_rfl, by kernel_rfl, by kernel_rfl, by kernel_rfl, by kernel_rfl, by kernel_rfl, by kernel_rfl, by kernel_rfl, by kernel_rfl, by kernel_rfl, by kernel_rfl, by kernel_rfl, by kernel_rfl, by kernel_rfl, by kernel_rfl, by kernel_rfl, by kernel_rfl, by kernel_rfl, by kernel_rfl, by kernel_rfl, by kernel_rfl, by kernel_rfl, by kernel_rfl, by kernel_rfl, by kernel_rfl, by kernel_rfl, by kernel_rfl, by kernel_rfl, by kernel_rfl, by kernel_rfl, by kernel_rfl, by kernel_rfl, by kernel_rfl, by kernel_rfl, by kernel_rfl, by kernel_rfl, by kernel_rfl, by kernel_rfl⟩
structure R where
  b : List UInt8
  failed : Bool
def isR (p : Nat) (w : R) : Asn := fun H => ∃ s, seps [ob p (.cells #[s, .bool w.failed] 293 (0, 0)), own 5 1 s (bv w.b)] H
theorem isR_open {G H : Hp} {p : Nat} {w : R} {L : List Asn} (h : sg G (isR p w :: L) H) : ∃ sa sn sc, w.b.length = sn ∧ sn ≤ sc ∧
    sg G (ob p (.cells #[.slice sa sn sc, .bool w.failed] 293 (0, 0)) :: own 5 1 (.slice sa sn sc) (bv w.b) :: L) H := by
  obtain ⟨hd, H1, H2, rfl, hd2, ⟨s, h1⟩, h2⟩ := h
  have h3 : sg G (ob p (.cells #[s, .bool w.failed] 293 (0, 0)) :: own 5 1 s (bv w.b) :: L) (H1.un H2) := ⟨hd, seps_append.2 ⟨H1, H2, rfl, hd2, h1, h2⟩⟩
  obtain ⟨sa, sn, sc, rfl, e1, e2⟩ := h3.sl 1 rfl Rd_own
  rw [bv_length] at e1
  exact ⟨sa, sn, sc, by omega, e2, h3⟩
theorem isR_shut {G H : Hp} {p : Nat} {w : R} {s : Value} {L : List Asn} (h : sg G (ob p (.cells #[s, .bool w.failed] 293 (0, 0)) :: own 5 1 s (bv w.b) :: L) H) : sg G (isR p w :: L) H :=
  h.shut (M := [ob p (.cells #[s, .bool w.failed] 293 (0, 0)), own 5 1 s (bv w.b)]) fun H _ h => ⟨s, h⟩
theorem read_ok {G : Hp} {v : Value} {l : List UInt8} (hv : rds G 1 v (bv l)) (hl : l.length ≤ 70368744177664) :
    Con Try.prog G 125 [v] [] (fun r B => ∃ p, r = .pointer (some ⟨p, 0, none⟩) ∧ B = [isR p ⟨l, false⟩]) := by
  refine Con.intro Try.func125 rfl (Nat.le_of_ble_eq_true (by kernel_rfl)) (by kernel_rfl) Try.results125 ?_
  intro H hH
  ((try simp only [S, TY, reduceCtorEq, nq0, nq1, nq2, nq3, nq4, iq0, iq1, iq2, iq3, iq4, iq5, iq6, iq7, iq8]); (try (simp (disch := omega) only [W2, Int.cast_ofNat_Int]; (try simp only [S, TY, reduceCtorEq, nq0, nq1, nq2, nq3, nq4, iq0, iq1, iq2, iq3, iq4, iq5, iq6, iq7, iq8]))))
  refine (clone_ok hv hl).at_ hH [] _ rfl fun r B H2 hr h2 => ?_
  subst hr
  obtain ⟨a, n, c, rfl, _, _⟩ := h2.sl 0 rfl Rd_own
  ((try simp only [S, TY, reduceCtorEq, nq0, nq1, nq2, nq3, nq4, iq0, iq1, iq2, iq3, iq4, iq5, iq6, iq7, iq8]); (try (simp (disch := omega) only [W2, Int.cast_ofNat_Int]; (try simp only [S, TY, reduceCtorEq, nq0, nq1, nq2, nq3, nq4, iq0, iq1, iq2, iq3, iq4, iq5, iq6, iq7, iq8]))))
  intro b hb hg
  ((try simp only [S, TY, reduceCtorEq, nq0, nq1, nq2, nq3, nq4, iq0, iq1, iq2, iq3, iq4, iq5, iq6, iq7, iq8]); (try (simp (disch := omega) only [W2, Int.cast_ofNat_Int]; (try simp only [S, TY, reduceCtorEq, nq0, nq1, nq2, nq3, nq4, iq0, iq1, iq2, iq3, iq4, iq5, iq6, iq7, iq8]))))
  exact fin_take (B := [isR b ⟨l, false⟩]) (isR_shut (w := ⟨l, false⟩) (h2.new hb hg _)) ⟨b, rfl, rfl⟩
theorem fails_nil {G : Hp} (x : Value) : Con Try.prog G 179 [.pointer none, x] [] (fun r B => r = .bool true ∧ B = []) := by
  refine Con.intro Try.func179 rfl (Nat.le_of_ble_eq_true (by kernel_rfl)) (by kernel_rfl) Try.results179 ?_
  intro H hH
  ((try simp only [S, TY, reduceCtorEq, nq0, nq1, nq2, nq3, nq4, iq0, iq1, iq2, iq3, iq4, iq5, iq6, iq7, iq8]); (try (simp (disch := omega) only [W2, Int.cast_ofNat_Int]; (try simp only [S, TY, reduceCtorEq, nq0, nq1, nq2, nq3, nq4, iq0, iq1, iq2, iq3, iq4, iq5, iq6, iq7, iq8]))))
  exact fin_ret hH ⟨rfl, rfl⟩
/-- Told by its cells alone: what its bytes are is not looked at. -/
theorem fails_ok {G : Hp} {p : Nat} {s : Value} {f now : Bool} :
    Con Try.prog G 179 [.pointer (some ⟨p, 0, none⟩), .bool now] [ob p (.cells #[s, .bool f] 293 (0, 0))]
      (fun r B => r = .bool (f || now) ∧ B = [ob p (.cells #[s, .bool (f || now)] 293 (0, 0))]) := by
  refine Con.intro Try.func179 rfl (Nat.le_of_ble_eq_true (by kernel_rfl)) (by kernel_rfl) Try.results179 ?_
  intro H hH
  have c := hH.c0
  cases f with
  | true =>
    ((try simp only [S, TY, reduceCtorEq, nq0, nq1, nq2, nq3, nq4, iq0, iq1, iq2, iq3, iq4, iq5, iq6, iq7, iq8, c]); (try (simp (disch := omega) only [W2, Int.cast_ofNat_Int]; (try simp only [S, TY, reduceCtorEq, nq0, nq1, nq2, nq3, nq4, iq0, iq1, iq2, iq3, iq4, iq5, iq6, iq7, iq8, c]))))
    refine sg.st hH rfl rfl fun H2 h2 => ?_
    simp only [front_eq, fronts_nil, fronts_cons, List.getElem?_cons_zero, List.getElem?_cons_succ, List.eraseIdx_cons_zero, List.eraseIdx_cons_succ, List.cons_append, List.nil_append, putL_cons, putL_nil, List.set_cons_zero, List.set_cons_succ, Nat.reduceAdd] at h2
    have c := h2.c0
    ((try simp only [S, TY, reduceCtorEq, nq0, nq1, nq2, nq3, nq4, iq0, iq1, iq2, iq3, iq4, iq5, iq6, iq7, iq8, c]); (try (simp (disch := omega) only [W2, Int.cast_ofNat_Int]; (try simp only [S, TY, reduceCtorEq, nq0, nq1, nq2, nq3, nq4, iq0, iq1, iq2, iq3, iq4, iq5, iq6, iq7, iq8, c]))))
    exact fin_ret h2 ⟨rfl, rfl⟩
  | false =>
    ((try simp only [S, TY, reduceCtorEq, nq0, nq1, nq2, nq3, nq4, iq0, iq1, iq2, iq3, iq4, iq5, iq6, iq7, iq8, c]); (try (simp (disch := omega) only [W2, Int.cast_ofNat_Int]; (try simp only [S, TY, reduceCtorEq, nq0, nq1, nq2, nq3, nq4, iq0, iq1, iq2, iq3, iq4, iq5, iq6, iq7, iq8, c]))))
    refine sg.st hH rfl rfl fun H2 h2 => ?_
    simp only [front_eq, fronts_nil, fronts_cons, List.getElem?_cons_zero, List.getElem?_cons_succ, List.eraseIdx_cons_zero, List.eraseIdx_cons_succ, List.cons_append, List.nil_append, putL_cons, putL_nil, List.set_cons_zero, List.set_cons_succ, Nat.reduceAdd] at h2
    have c := h2.c0
    ((try simp only [S, TY, reduceCtorEq, nq0, nq1, nq2, nq3, nq4, iq0, iq1, iq2, iq3, iq4, iq5, iq6, iq7, iq8, c]); (try (simp (disch := omega) only [W2, Int.cast_ofNat_Int]; (try simp only [S, TY, reduceCtorEq, nq0, nq1, nq2, nq3, nq4, iq0, iq1, iq2, iq3, iq4, iq5, iq6, iq7, iq8, c]))))
    exact fin_ret h2 ⟨rfl, rfl⟩
theorem take_ok {G : Hp} {p : Nat} {a : Option Addr} {n c m : Nat} {f : Value} (hm : m ≤ n) (hn : n ≤ c) :
    Con Try.prog G 180 [.pointer (some ⟨p, 0, none⟩), .int .i64 m] [ob p (.cells #[.slice a n c, f] 293 (0, 0))]
      (fun r B => r = .slice a m m ∧ B = [ob p (.cells #[.slice (if c = m then a else a.map (·.add (m * 1))) (n - m) (c - m), f] 293 (0, 0))]) := by
  refine Con.intro Try.func180 rfl (Nat.le_of_ble_eq_true (by kernel_rfl)) (by kernel_rfl) Try.results180 ?_
  intro H hH
  have cc := hH.c0
  have d1 : (0 : Int) ≤ m := by omega
  have d2 : (m : Int) ≤ c := by omega
  have d3 : (m : Int) ≤ n := by omega
  ((try simp only [S, TY, reduceCtorEq, nq0, nq1, nq2, nq3, nq4, iq0, iq1, iq2, iq3, iq4, iq5, iq6, iq7, iq8, cc, d1, d2, d3]); (try (simp (disch := omega) only [W2, Int.cast_ofNat_Int]; (try simp only [S, TY, reduceCtorEq, nq0, nq1, nq2, nq3, nq4, iq0, iq1, iq2, iq3, iq4, iq5, iq6, iq7, iq8, cc, d1, d2, d3]))))
  refine ⟨by omega, sg.st hH rfl rfl fun H2 h2 => ?_⟩
  simp only [front_eq, fronts_nil, fronts_cons, List.getElem?_cons_zero, List.getElem?_cons_succ, List.eraseIdx_cons_zero, List.eraseIdx_cons_succ, List.cons_append, List.nil_append, putL_cons, putL_nil, List.set_cons_zero, List.set_cons_succ, Nat.reduceAdd] at h2
  ((try simp only [S, TY, reduceCtorEq, nq0, nq1, nq2, nq3, nq4, iq0, iq1, iq2, iq3, iq4, iq5, iq6, iq7, iq8]); (try (simp (disch := omega) only [W2, Int.cast_ofNat_Int]; (try simp only [S, TY, reduceCtorEq, nq0, nq1, nq2, nq3, nq4, iq0, iq1, iq2, iq3, iq4, iq5, iq6, iq7, iq8]))))
  exact fin_ret h2 ⟨rfl, by simp⟩
def val (l : List UInt8) : Nat := l.foldl (fun x c => 256 * x + c.toNat) 0
theorem val_snoc (l : List UInt8) (c : UInt8) : val (l ++ [c]) = 256 * val l + c.toNat := by simp [val]
theorem val_lt (l : List UInt8) : val l < 256 ^ l.length := by
  have : ∀ (l : List UInt8) (k : Nat), val (l.take k) < 256 ^ (l.take k).length := by
    intro l k
    induction k with
    | zero => simp [val]
    | succ k ih =>
      by_cases hk : k < l.length
      · rw [List.take_succ_eq_append_getElem hk, val_snoc, List.length_append, List.length_singleton, Nat.pow_succ]
        have := (l[k]).toNat_lt
        omega
      · rw [List.take_of_length_le (by omega)] at ih ⊢
        exact ih
  have := this l l.length
  rwa [List.take_length] at this
theorem val_cons (x : UInt8) (l : List UInt8) : val (x :: l) = x.toNat * 256 ^ l.length + val l := by
  have : ∀ (l : List UInt8) (a : Nat), l.foldl (fun x c => 256 * x + c.toNat) a = a * 256 ^ l.length + l.foldl (fun x c => 256 * x + c.toNat) 0 := by
    intro l
    induction l with
    | nil => intro a; simp
    | cons c l ih =>
      intro a
      rw [List.foldl_cons, ih, List.foldl_cons, ih (256 * 0 + c.toNat), List.length_cons, Nat.pow_succ, Nat.mul_zero, Nat.zero_add, Nat.add_mul, Nat.add_assoc]
      congr 1
      rw [Nat.mul_comm 256 a, Nat.mul_assoc, Nat.mul_comm 256]
  unfold val
  rw [List.foldl_cons, this, Nat.mul_zero, Nat.zero_add]
theorem or_byte {y c : Nat} (hc : c < 256) (hy : 256 * y + c < 9223372036854775808) :
    IntKind.i64.wrap ((BitVec.ofInt 64 ((256 * y : Nat) : Int) ||| BitVec.ofInt 64 (c : Int)).toNat : Nat) = ((256 * y + c : Nat) : Int) := by
  have h1 : (BitVec.ofInt 64 ((256 * y : Nat) : Int)).toNat = 256 * y := by
    rw [BitVec.toNat_ofInt]; omega
  have h2 : (BitVec.ofInt 64 (c : Int)).toNat = c := by
    rw [BitVec.toNat_ofInt]; omega
  rw [BitVec.toNat_or, h1, h2]
  have h3 := Nat.two_pow_add_eq_or_of_lt (i := 8) (show c < 2 ^ 8 from hc) y
  have h4 : (2 : Nat) ^ 8 = 256 := rfl
  rw [h4] at h3
  rw [← h3]
  exact wrap_id (by omega) (by omega)
def R.bad (r : R) (n : Int) : Prop := r.failed = true ∨ n < 1 ∨ 8 < n ∨ (r.b.length : Int) < n ∨ (n = 8 ∧ 128 ≤ (r.b.headD 0).toNat)
instance (r : R) (n : Int) : Decidable (r.bad n) := by unfold R.bad; exact inferInstance
def R.get (r : R) (n : Int) : R × Nat := if r.bad n then (⟨r.b, true⟩, 0) else (⟨r.b.drop n.toNat, false⟩, val (r.b.take n.toNat))
theorem get_nil {G : Hp} (x : Value) : Con Try.prog G 126 [.pointer none, x] [] (fun r B => r = .int .i64 0 ∧ B = []) := by
  refine Con.intro Try.func126 rfl (Nat.le_of_ble_eq_true (by kernel_rfl)) (by kernel_rfl) Try.results126 ?_
  intro H hH
  ((try simp only [S, TY, reduceCtorEq, nq0, nq1, nq2, nq3, nq4, iq0, iq1, iq2, iq3, iq4, iq5, iq6, iq7, iq8]); (try (simp (disch := omega) only [W2, Int.cast_ofNat_Int]; (try simp only [S, TY, reduceCtorEq, nq0, nq1, nq2, nq3, nq4, iq0, iq1, iq2, iq3, iq4, iq5, iq6, iq7, iq8]))))
  exact fin_ret hH ⟨rfl, rfl⟩
theorem get_ok {G : Hp} {p : Nat} {r : R} (n : Int) (hl : r.b.length ≤ 70368744177664) :
    Con Try.prog G 126 [.pointer (some ⟨p, 0, none⟩), .int .i64 n] [isR p r] (fun v B => v = .int .i64 (r.get n).2 ∧ B = [isR p (r.get n).1]) := by
  refine Con.intro Try.func126 rfl (Nat.le_of_ble_eq_true (by kernel_rfl)) (by kernel_rfl) Try.results126 ?_
  intro H hH
  obtain ⟨sa, sn, sc, f1, f2, h⟩ := isR_open hH
  have c := h.c0
  obtain ⟨b, failed⟩ := r
  have stop : (R.mk b failed).bad n → ∀ (f : Bool), f = true → ∀ H2, sg G [ob p (.cells #[.slice sa sn sc, .bool f] 293 (0, 0)), own 5 1 (.slice sa sn sc) (bv b)] H2 →
      fin (fun v B => v = .int .i64 ((R.mk b failed).get n).2 ∧ B = [isR p ((R.mk b failed).get n).1]) (.returned (.int .i64 0)) H2 := by
    intro hb f hf H2 h2
    subst hf
    exact fin_ret (isR_shut (w := ⟨b, true⟩) h2) ⟨by unfold R.get; rw [if_pos hb]; rfl, by unfold R.get; rw [if_pos hb]⟩
  by_cases a1 : n < 1
  · ((try simp only [S, TY, reduceCtorEq, nq0, nq1, nq2, nq3, nq4, iq0, iq1, iq2, iq3, iq4, iq5, iq6, iq7, iq8, c, a1]); (try (simp (disch := omega) only [W2, Int.cast_ofNat_Int]; (try simp only [S, TY, reduceCtorEq, nq0, nq1, nq2, nq3, nq4, iq0, iq1, iq2, iq3, iq4, iq5, iq6, iq7, iq8, c, a1]))))
    refine (fails_ok (now := true)).at_ h [0] _ rfl fun v B H2 hv h2 => ?_
    obtain ⟨rfl, rfl⟩ := hv
    ((try simp only [S, TY, reduceCtorEq, nq0, nq1, nq2, nq3, nq4, iq0, iq1, iq2, iq3, iq4, iq5, iq6, iq7, iq8, Bool.or_true]); (try (simp (disch := omega) only [W2, Int.cast_ofNat_Int]; (try simp only [S, TY, reduceCtorEq, nq0, nq1, nq2, nq3, nq4, iq0, iq1, iq2, iq3, iq4, iq5, iq6, iq7, iq8, Bool.or_true]))))
    exact stop (by unfold R.bad; omega) _ (by simp) _ h2
  by_cases a2 : 8 < n
  · ((try simp only [S, TY, reduceCtorEq, nq0, nq1, nq2, nq3, nq4, iq0, iq1, iq2, iq3, iq4, iq5, iq6, iq7, iq8, c, a1, a2]); (try (simp (disch := omega) only [W2, Int.cast_ofNat_Int]; (try simp only [S, TY, reduceCtorEq, nq0, nq1, nq2, nq3, nq4, iq0, iq1, iq2, iq3, iq4, iq5, iq6, iq7, iq8, c, a1, a2]))))
    refine (fails_ok (now := true)).at_ h [0] _ rfl fun v B H2 hv h2 => ?_
    obtain ⟨rfl, rfl⟩ := hv
    ((try simp only [S, TY, reduceCtorEq, nq0, nq1, nq2, nq3, nq4, iq0, iq1, iq2, iq3, iq4, iq5, iq6, iq7, iq8, Bool.or_true]); (try (simp (disch := omega) only [W2, Int.cast_ofNat_Int]; (try simp only [S, TY, reduceCtorEq, nq0, nq1, nq2, nq3, nq4, iq0, iq1, iq2, iq3, iq4, iq5, iq6, iq7, iq8, Bool.or_true]))))
    exact stop (by unfold R.bad; omega) _ (by simp) _ h2
  have f1' : b.length = sn := f1
  by_cases a3 : (sn : Int) < n
  · ((try simp only [S, TY, reduceCtorEq, nq0, nq1, nq2, nq3, nq4, iq0, iq1, iq2, iq3, iq4, iq5, iq6, iq7, iq8, c, a1, a2, a3]); (try (simp (disch := omega) only [W2, Int.cast_ofNat_Int]; (try simp only [S, TY, reduceCtorEq, nq0, nq1, nq2, nq3, nq4, iq0, iq1, iq2, iq3, iq4, iq5, iq6, iq7, iq8, c, a1, a2, a3]))))
    refine (fails_ok (now := true)).at_ h [0] _ rfl fun v B H2 hv h2 => ?_
    obtain ⟨rfl, rfl⟩ := hv
    ((try simp only [S, TY, reduceCtorEq, nq0, nq1, nq2, nq3, nq4, iq0, iq1, iq2, iq3, iq4, iq5, iq6, iq7, iq8, Bool.or_true]); (try (simp (disch := omega) only [W2, Int.cast_ofNat_Int]; (try simp only [S, TY, reduceCtorEq, nq0, nq1, nq2, nq3, nq4, iq0, iq1, iq2, iq3, iq4, iq5, iq6, iq7, iq8, Bool.or_true]))))
    exact stop (by unfold R.bad; simp only; omega) _ (by simp) _ h2
  ((try simp only [S, TY, reduceCtorEq, nq0, nq1, nq2, nq3, nq4, iq0, iq1, iq2, iq3, iq4, iq5, iq6, iq7, iq8, c, a1, a2, a3]); (try (simp (disch := omega) only [W2, Int.cast_ofNat_Int]; (try simp only [S, TY, reduceCtorEq, nq0, nq1, nq2, nq3, nq4, iq0, iq1, iq2, iq3, iq4, iq5, iq6, iq7, iq8, c, a1, a2, a3]))))
  refine (fails_ok (now := false)).at_ h [0] _ rfl fun v B H2 hv h2 => ?_
  obtain ⟨rfl, rfl⟩ := hv
  rw [Bool.or_false] at h2
  cases failed with
  | true =>
    ((try simp only [S, TY, reduceCtorEq, nq0, nq1, nq2, nq3, nq4, iq0, iq1, iq2, iq3, iq4, iq5, iq6, iq7, iq8, Bool.or_false]); (try (simp (disch := omega) only [W2, Int.cast_ofNat_Int]; (try simp only [S, TY, reduceCtorEq, nq0, nq1, nq2, nq3, nq4, iq0, iq1, iq2, iq3, iq4, iq5, iq6, iq7, iq8, Bool.or_false]))))
    exact stop (by unfold R.bad; simp) _ rfl _ h2
  | false =>
    obtain ⟨N, rfl⟩ : ∃ N : Nat, n = N := ⟨n.toNat, by omega⟩
    have c := h2.c0
    obtain ⟨bk, off, rfl, d1⟩ := (h2.rdsi 1 rfl Rd_own).at1 (i := 0) (by omega)
    obtain ⟨x, b', rfl⟩ : ∃ x b', b = x :: b' := by
      cases b with
      | nil => simp at f1'; omega
      | cons x b' => exact ⟨x, b', rfl⟩
    have d2 : (bv (x :: b'))[0]? = some (.int .u8 x.toNat) := rfl
    rw [d2, Nat.add_zero] at d1
    have a0 : (0 : Int) < sn := by omega
    have rest : (¬ (N = 8 ∧ 128 ≤ x.toNat)) → ¬ (R.mk (x :: b') false).bad N := by
      intro h
      unfold R.bad
      simp only [List.headD_cons]
      rintro (g | g | g | g | ⟨g, g'⟩)
      · cases g
      · omega
      · omega
      · omega
      · exact h ⟨by omega, g'⟩
    by_cases a4 : (N : Int) = 8
    · by_cases a5 : (128 : Int) ≤ x.toNat
      · have a4' : ((N : Int) = 8) = True := eq_true a4
        ((try simp only [S, TY, reduceCtorEq, nq0, nq1, nq2, nq3, nq4, iq0, iq1, iq2, iq3, iq4, iq5, iq6, iq7, iq8, c, a4', a0, d1, a5]); (try (simp (disch := omega) only [W2, Int.cast_ofNat_Int]; (try simp only [S, TY, reduceCtorEq, nq0, nq1, nq2, nq3, nq4, iq0, iq1, iq2, iq3, iq4, iq5, iq6, iq7, iq8, c, a4', a0, d1, a5]))))
        refine (fails_ok (now := true)).at_ h2 [0] _ rfl fun v B H3 hv h3 => ?_
        obtain ⟨rfl, rfl⟩ := hv
        ((try simp only [S, TY, reduceCtorEq, nq0, nq1, nq2, nq3, nq4, iq0, iq1, iq2, iq3, iq4, iq5, iq6, iq7, iq8]); (try (simp (disch := omega) only [W2, Int.cast_ofNat_Int]; (try simp only [S, TY, reduceCtorEq, nq0, nq1, nq2, nq3, nq4, iq0, iq1, iq2, iq3, iq4, iq5, iq6, iq7, iq8]))))
        exact stop (by unfold R.bad; simp only [List.headD_cons]; omega) _ rfl _ h3
      · have a4' : ((N : Int) = 8) = True := eq_true a4
        ((try simp only [S, TY, reduceCtorEq, nq0, nq1, nq2, nq3, nq4, iq0, iq1, iq2, iq3, iq4, iq5, iq6, iq7, iq8, c, a4', a0, d1, a5]); (try (simp (disch := omega) only [W2, Int.cast_ofNat_Int]; (try simp only [S, TY, reduceCtorEq, nq0, nq1, nq2, nq3, nq4, iq0, iq1, iq2, iq3, iq4, iq5, iq6, iq7, iq8, c, a4', a0, d1, a5]))))
        refine (fails_ok (now := false)).at_ h2 [0] _ rfl fun v B H3 hv h3 => ?_
        obtain ⟨rfl, rfl⟩ := hv
        ((try simp only [S, TY, reduceCtorEq, nq0, nq1, nq2, nq3, nq4, iq0, iq1, iq2, iq3, iq4, iq5, iq6, iq7, iq8]); (try (simp (disch := omega) only [W2, Int.cast_ofNat_Int]; (try simp only [S, TY, reduceCtorEq, nq0, nq1, nq2, nq3, nq4, iq0, iq1, iq2, iq3, iq4, iq5, iq6, iq7, iq8]))))
        refine (take_ok (m := N) (by omega) f2).at_ h3 [0] _ rfl fun v B H4 hv h4 => ?_
        obtain ⟨rfl, rfl⟩ := hv
        simp only [addr_mk, Option.map_some, Nat.mul_one] at h4
        ((try simp only [S, TY, reduceCtorEq, nq0, nq1, nq2, nq3, nq4, iq0, iq1, iq2, iq3, iq4, iq5, iq6, iq7, iq8]); (try (simp (disch := omega) only [W2, Int.cast_ofNat_Int]; (try simp only [S, TY, reduceCtorEq, nq0, nq1, nq2, nq3, nq4, iq0, iq1, iq2, iq3, iq4, iq5, iq6, iq7, iq8]))))
        refine cl_loop (fun i e H => i ≤ N ∧ e 46 = .slice (some ⟨bk, off, none⟩) N N ∧ e 47 = .int .i64 N ∧ e 48 = .int .i64 i ∧ e 5 = .int .i64 (val ((x :: b').take i)) ∧
          sg G [ob p (.cells #[.slice (if sc = N then some ⟨bk, off, none⟩ else some ⟨bk, off + N, none⟩) (sn - N) (sc - N), .bool false] 293 (0, 0)), own 5 1 (.slice (some ⟨bk, off, none⟩) sn sc) (bv (x :: b'))] H) (fun i => N - i) 0
          ⟨by omega, rfl, rfl, rfl, rfl, h4⟩ ?_
        rintro i e H ⟨q0, q1, q2, q3, q4, hH⟩
        by_cases g1 : (i : Int) < N
        · have g0 : (0 : Int) ≤ i ∧ (i : Int) < N := ⟨by omega, g1⟩
          obtain ⟨bk', off', hbk, c1⟩ := (hH.rdsi 1 rfl Rd_own).at1 (i := i) (by omega)
          cases hbk
          have hil : i < (x :: b').length := by omega
          have c2 : (bv (x :: b'))[i]? = some (.int .u8 ((x :: b')[i]).toNat) := by unfold bv; rw [List.getElem?_map, List.getElem?_eq_getElem hil]; rfl
          rw [c2] at c1
          have hv1 := val_lt ((x :: b').take (i + 1))
          rw [List.length_take, Nat.min_eq_left (by omega)] at hv1
          have hsn : val ((x :: b').take (i + 1)) = 256 * val ((x :: b').take i) + ((x :: b')[i]).toNat := by rw [List.take_succ_eq_append_getElem hil, val_snoc]
          have hb63 : val ((x :: b').take (i + 1)) < 9223372036854775808 := by
            by_cases hi8 : i + 1 ≤ 7
            · have := Nat.pow_le_pow_right (show 0 < 256 by decide) hi8
              have h7 : 256 ^ 7 = 72057594037927936 := by decide
              omega
            · obtain rfl : i = 7 := by omega
              have l7 : ((x :: b').take (7 + 1)) = x :: b'.take 7 := rfl
              rw [l7, val_cons, List.length_take, Nat.min_eq_left (by simp at hil; omega)]
              have h7 : 256 ^ 7 = 72057594037927936 := by decide
              have := val_lt (b'.take 7)
              rw [List.length_take, Nat.min_eq_left (by simp at hil; omega), h7] at this
              rw [h7]
              have : x.toNat ≤ 127 := by omega
              omega
          have e1 : IntKind.i64.wrap ((val ((x :: b').take i) : Int) * 2 ^ 8) = ((256 * val ((x :: b').take i) : Nat) : Int) := by
            rw [show (2 : Int) ^ 8 = 256 from rfl, wrap_id (by omega) (by omega)]; omega
          have e2 : IntKind.i64.wrap (((x :: b')[i]).toNat : Int) = (((x :: b')[i]).toNat : Int) := by
            have := ((x :: b')[i]).toNat_lt
            exact wrap_id (by omega) (by omega)
          have e3 := or_byte (y := val ((x :: b').take i)) ((x :: b')[i]).toNat_lt (by omega)
          ((try simp only [S, TY, reduceCtorEq, nq0, nq1, nq2, nq3, nq4, iq0, iq1, iq2, iq3, iq4, iq5, iq6, iq7, iq8, q1, q2, q3, q4, g1, g0, c1]); (try (simp (disch := omega) only [W2, Int.cast_ofNat_Int]; (try simp only [S, TY, reduceCtorEq, nq0, nq1, nq2, nq3, nq4, iq0, iq1, iq2, iq3, iq4, iq5, iq6, iq7, iq8, q1, q2, q3, q4, g1, g0, c1]))))
          refine .go (i + 1) (by omega) ⟨by omega, q1, q2, rfl, ?_, hH⟩
          show Value.int .i64 (IntKind.i64.wrap ((BitVec.ofInt 64 (IntKind.i64.wrap ((val ((x :: b').take i) : Int) * 2 ^ 8)) ||| BitVec.ofInt 64 (((x :: b')[i]).toNat : Int)).toNat : Nat)) = _
          rw [e1, e3, hsn]
        · ((try simp only [S, TY, reduceCtorEq, nq0, nq1, nq2, nq3, nq4, iq0, iq1, iq2, iq3, iq4, iq5, iq6, iq7, iq8, q1, q2, q3, q4, g1]); (try (simp (disch := omega) only [W2, Int.cast_ofNat_Int]; (try simp only [S, TY, reduceCtorEq, nq0, nq1, nq2, nq3, nq4, iq0, iq1, iq2, iq3, iq4, iq5, iq6, iq7, iq8, q1, q2, q3, q4, g1]))))
          obtain rfl : i = N := by omega
          have h5 := own_drop (hH.front 1) i (by omega)
          rw [Nat.mul_one, ← bv_drop] at h5
          simp only [addr_mk, Option.map_some, Nat.mul_one] at h5
          have nb : ¬ (R.mk (x :: b') false).bad i := rest (by omega)
          exact fin_ret (isR_shut (w := ⟨(x :: b').drop i, false⟩) (h5.front 1)) ⟨by unfold R.get; rw [if_neg nb]; rfl, by unfold R.get; rw [if_neg nb]; rfl⟩
    · ((try simp only [S, TY, reduceCtorEq, nq0, nq1, nq2, nq3, nq4, iq0, iq1, iq2, iq3, iq4, iq5, iq6, iq7, iq8, c, a4, a0, d1]); (try (simp (disch := omega) only [W2, Int.cast_ofNat_Int]; (try simp only [S, TY, reduceCtorEq, nq0, nq1, nq2, nq3, nq4, iq0, iq1, iq2, iq3, iq4, iq5, iq6, iq7, iq8, c, a4, a0, d1]))))
      refine (fails_ok (now := false)).at_ h2 [0] _ rfl fun v B H3 hv h3 => ?_
      obtain ⟨rfl, rfl⟩ := hv
      ((try simp only [S, TY, reduceCtorEq, nq0, nq1, nq2, nq3, nq4, iq0, iq1, iq2, iq3, iq4, iq5, iq6, iq7, iq8]); (try (simp (disch := omega) only [W2, Int.cast_ofNat_Int]; (try simp only [S, TY, reduceCtorEq, nq0, nq1, nq2, nq3, nq4, iq0, iq1, iq2, iq3, iq4, iq5, iq6, iq7, iq8]))))
      · refine (take_ok (m := N) (by omega) f2).at_ h3 [0] _ rfl fun v B H4 hv h4 => ?_
        obtain ⟨rfl, rfl⟩ := hv
        simp only [addr_mk, Option.map_some, Nat.mul_one] at h4
        ((try simp only [S, TY, reduceCtorEq, nq0, nq1, nq2, nq3, nq4, iq0, iq1, iq2, iq3, iq4, iq5, iq6, iq7, iq8]); (try (simp (disch := omega) only [W2, Int.cast_ofNat_Int]; (try simp only [S, TY, reduceCtorEq, nq0, nq1, nq2, nq3, nq4, iq0, iq1, iq2, iq3, iq4, iq5, iq6, iq7, iq8]))))
        refine cl_loop (fun i e H => i ≤ N ∧ e 46 = .slice (some ⟨bk, off, none⟩) N N ∧ e 47 = .int .i64 N ∧ e 48 = .int .i64 i ∧ e 5 = .int .i64 (val ((x :: b').take i)) ∧
          sg G [ob p (.cells #[.slice (if sc = N then some ⟨bk, off, none⟩ else some ⟨bk, off + N, none⟩) (sn - N) (sc - N), .bool false] 293 (0, 0)), own 5 1 (.slice (some ⟨bk, off, none⟩) sn sc) (bv (x :: b'))] H) (fun i => N - i) 0
          ⟨by omega, rfl, rfl, rfl, rfl, h4⟩ ?_
        rintro i e H ⟨q0, q1, q2, q3, q4, hH⟩
        by_cases g1 : (i : Int) < N
        · have g0 : (0 : Int) ≤ i ∧ (i : Int) < N := ⟨by omega, g1⟩
          obtain ⟨bk', off', hbk, c1⟩ := (hH.rdsi 1 rfl Rd_own).at1 (i := i) (by omega)
          cases hbk
          have hil : i < (x :: b').length := by omega
          have c2 : (bv (x :: b'))[i]? = some (.int .u8 ((x :: b')[i]).toNat) := by unfold bv; rw [List.getElem?_map, List.getElem?_eq_getElem hil]; rfl
          rw [c2] at c1
          have hv1 := val_lt ((x :: b').take (i + 1))
          rw [List.length_take, Nat.min_eq_left (by omega)] at hv1
          have hsn : val ((x :: b').take (i + 1)) = 256 * val ((x :: b').take i) + ((x :: b')[i]).toNat := by rw [List.take_succ_eq_append_getElem hil, val_snoc]
          have hb63 : val ((x :: b').take (i + 1)) < 9223372036854775808 := by
            have := Nat.pow_le_pow_right (show 0 < 256 by decide) (show i + 1 ≤ 7 by omega)
            have h7 : 256 ^ 7 = 72057594037927936 := by decide
            omega
          have e1 : IntKind.i64.wrap ((val ((x :: b').take i) : Int) * 2 ^ 8) = ((256 * val ((x :: b').take i) : Nat) : Int) := by
            rw [show (2 : Int) ^ 8 = 256 from rfl, wrap_id (by omega) (by omega)]; omega
          have e2 : IntKind.i64.wrap (((x :: b')[i]).toNat : Int) = (((x :: b')[i]).toNat : Int) := by
            have := ((x :: b')[i]).toNat_lt
            exact wrap_id (by omega) (by omega)
          have e3 := or_byte (y := val ((x :: b').take i)) ((x :: b')[i]).toNat_lt (by omega)
          ((try simp only [S, TY, reduceCtorEq, nq0, nq1, nq2, nq3, nq4, iq0, iq1, iq2, iq3, iq4, iq5, iq6, iq7, iq8, q1, q2, q3, q4, g1, g0, c1]); (try (simp (disch := omega) only [W2, Int.cast_ofNat_Int]; (try simp only [S, TY, reduceCtorEq, nq0, nq1, nq2, nq3, nq4, iq0, iq1, iq2, iq3, iq4, iq5, iq6, iq7, iq8, q1, q2, q3, q4, g1, g0, c1]))))
          refine .go (i + 1) (by omega) ⟨by omega, q1, q2, rfl, ?_, hH⟩
          show Value.int .i64 (IntKind.i64.wrap ((BitVec.ofInt 64 (IntKind.i64.wrap ((val ((x :: b').take i) : Int) * 2 ^ 8)) ||| BitVec.ofInt 64 (((x :: b')[i]).toNat : Int)).toNat : Nat)) = _
          rw [e1, e3, hsn]
        · ((try simp only [S, TY, reduceCtorEq, nq0, nq1, nq2, nq3, nq4, iq0, iq1, iq2, iq3, iq4, iq5, iq6, iq7, iq8, q1, q2, q3, q4, g1]); (try (simp (disch := omega) only [W2, Int.cast_ofNat_Int]; (try simp only [S, TY, reduceCtorEq, nq0, nq1, nq2, nq3, nq4, iq0, iq1, iq2, iq3, iq4, iq5, iq6, iq7, iq8, q1, q2, q3, q4, g1]))))
          obtain rfl : i = N := by omega
          have h5 := own_drop (hH.front 1) i (by omega)
          rw [Nat.mul_one, ← bv_drop] at h5
          simp only [addr_mk, Option.map_some, Nat.mul_one] at h5
          have nb : ¬ (R.mk (x :: b') false).bad i := rest (by omega)
          exact fin_ret (isR_shut (w := ⟨(x :: b').drop i, false⟩) (h5.front 1)) ⟨by unfold R.get; rw [if_neg nb]; rfl, by unfold R.get; rw [if_neg nb]; rfl⟩
end Go.Proofs.Ytanhmbdcdbcfmaa.BufRd
