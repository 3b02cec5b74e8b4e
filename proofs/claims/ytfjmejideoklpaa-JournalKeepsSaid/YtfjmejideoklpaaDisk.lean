/- The file that may be torn, over the machine: each of its calls, by what it does to bytes that are safe and loose. -/
import Derived.Test.YtfjmejideoklpaaSlices
import Derived.KernelRfl
set_option linter.unusedVariables false
set_option linter.unusedSimpArgs false
set_option maxRecDepth 10000
namespace Go.Proofs.Ytfjmejideoklpaa.Disk
open Nat renaming reduceEqDiff → nq0, reduceAdd → nq1, reduceLeDiff → nq2, reduceBEq → nq3, reduceMul → nq4
open Int renaming reduceBEq → iq0, reduceEq → iq1, reduceLT → iq2, reduceLE → iq3, reduceAdd → iq4, reduceSub → iq5, reduceMul → iq6, reduceToNat → iq7, cast_ofNat_Int → iq8
open Go Go.Sl Go.Proofs
theorem TY : aggN Try.prog 3 = some none ∧
  aggN Try.prog 5 = some none ∧
  aggN Try.prog 33 = some none ∧
  aggN Try.prog 86 = some none ∧
  aggN Try.prog 90 = some none ∧
  aggN Try.prog 194 = some (some 3) ∧
  apI Try.prog 33 = some (5, 1, 1) ∧
  apI Try.prog 90 = some (33, 1, 24) ∧
  bIs Try.prog 194 = true ∧
  bySl Try.prog 33 = true ∧
  csz Try.prog 3 = some 1 ∧
  csz Try.prog 5 = some 1 ∧
  csz Try.prog 33 = some 1 ∧
  csz Try.prog 86 = some 1 ∧
  csz Try.prog 90 = some 1 ∧
  csz Try.prog 194 = some 3 ∧
  fIs Try.prog 194 0 = true ∧
  fIs Try.prog 194 1 = true ∧
  fIs Try.prog 194 2 = true ∧
  fOff Try.prog 194 0 = 0 ∧
  fOff Try.prog 194 1 = 1 ∧
  fOff Try.prog 194 2 = 2 ∧
  fTy Try.prog 194 0 = 33 ∧
  fTy Try.prog 194 1 = 33 ∧
  fTy Try.prog 194 2 = 3 ∧
  goes Try.prog 59 = true ∧
  goes Try.prog 123 = true ∧
  goes Try.prog 126 = true ∧
  inIs Try.prog 3 = some .i64 ∧
  inIs Try.prog 5 = some .u8 ∧
  plcs Try.prog 194 = [(0, 1), (1, 1), (2, 1)] ∧
  ptIs Try.prog 86 = true ∧
  slEl Try.prog 33 = 5 ∧
  slEl Try.prog 90 = 33 ∧
  slIs Try.prog 33 = true ∧
  slIs Try.prog 90 = true ∧
  slSz Try.prog 33 = 1 ∧
  slSz Try.prog 90 = 1 ∧
  zcs Try.prog 194 = [.slice none 0 0, .slice none 0 0, .int .i64 0] ∧
  zro Try.prog 3 = some (.int .i64 0) ∧
  zro Try.prog 5 = some (.int .u8 0) ∧
  zro Try.prog 33 = some (.slice none 0 0) ∧
  zro Try.prog 86 = some (.pointer none) ∧
  zro Try.prog 90 = some (.slice none 0 0) ∧
  zro Try.prog 194 = some (.agg #[.slice none 0 0, .slice none 0 0, .int .i64 0]) :=
  ⟨by kernel_rfl, by kernel_rfl, by kernel_rfl, by kernel_rfl, by kernel_rfl, by kernel_rfl, by kernel_rfl, by kernel_rfl, by kernel_rfl, by kernel_rfl, by kernel_rfl, by kernel_rfl, by kernel_rfl, by kernel_rfl, by kernel_rfl, by kernel_rfl, by kernel_rfl, by kernel_rfl, by kernel_rfl, by kernel_rfl, by kernel_rfl, by kernel_rfl, by kernel_rfl, by kernel_rfl, by kernel_rfl, by kernel_rfl, by kernel_rfl, by kernel_rfl, by kernel_rfl, by kernel_rfl, by kernel_rfl, by kernel_rfl, by kernel_rfl, by kernel_rfl, by kernel_rfl, by kernel_rfl, by kernel_rfl, by kernel_rfl, by kernel_rfl, by kernel_rfl, by kernel_rfl, by kernel_rfl, by kernel_rfl, by kernel_rfl, by kernel_rfl⟩
def D59_3 : List Note := Go.Sl.nn [0, 0, 0, 1, 0, 0, 0, 1, 2, 3, 0]
def D121_1 : List Note := Go.Sl.nn [0, 0, 0, 0, 0, 0, 0, 0, 0, 0, 0, 1, 0, 0, 0, 0, 1, 0, 0, 0, 0]
def D123_3 : List Note := Go.Sl.nn [0, 0, 0, 0, 0, 1, 0, 0, 0, 1, 3, 0, 0, 3, 0, 0, 3]
def D124_3 : List Note := Go.Sl.nn [0, 0, 0, 1, 0, 0, 0, 0, 1, 0, 0, 0, 0, 0, 0, 0, 0, 1, 0, 0]
structure F where
  safe : List UInt8
  loose : List UInt8
  room : Int
def F.ok (f : F) : Prop := f.room ≤ 16777216 ∧ (f.safe.length : Int) + f.loose.length ≤ f.room
def isF (p : Nat) (f : F) : Asn := fun H => ∃ s l, seps [ob p (.cells #[s, l, .int .i64 f.room] 194 (0, 0)), own 5 1 s (bv f.safe), own 5 1 l (bv f.loose)] H
theorem isF_open {G H : Hp} {p : Nat} {f : F} {L : List Asn} (h : sg G (isF p f :: L) H) : ∃ sa sn sc la ln lc, f.safe.length = sn ∧ f.loose.length = ln ∧ sn ≤ sc ∧ ln ≤ lc ∧
    sg G (ob p (.cells #[.slice sa sn sc, .slice la ln lc, .int .i64 f.room] 194 (0, 0)) :: own 5 1 (.slice sa sn sc) (bv f.safe) :: own 5 1 (.slice la ln lc) (bv f.loose) :: L) H := by
  obtain ⟨hd, H1, H2, rfl, hd2, ⟨s, l, h1⟩, h2⟩ := h
  have h3 : sg G (ob p (.cells #[s, l, .int .i64 f.room] 194 (0, 0)) :: own 5 1 s (bv f.safe) :: own 5 1 l (bv f.loose) :: L) (H1.un H2) := ⟨hd, seps_append.2 ⟨H1, H2, rfl, hd2, h1, h2⟩⟩
  obtain ⟨sa, sn, sc, rfl, e1, e2⟩ := h3.sl 1 rfl Rd_own
  obtain ⟨la, ln, lc, rfl, e3, e4⟩ := h3.sl 2 rfl Rd_own
  rw [bv_length] at e1 e3
  exact ⟨sa, sn, sc, la, ln, lc, by omega, by omega, e2, e4, h3⟩
theorem isF_shut {G H : Hp} {p : Nat} {f : F} {s l : Value} {L : List Asn} (h : sg G (ob p (.cells #[s, l, .int .i64 f.room] 194 (0, 0)) :: own 5 1 s (bv f.safe) :: own 5 1 l (bv f.loose) :: L) H) : sg G (isF p f :: L) H :=
  h.shut (M := [ob p (.cells #[s, l, .int .i64 f.room] 194 (0, 0)), own 5 1 s (bv f.safe), own 5 1 l (bv f.loose)]) fun H _ h => ⟨s, l, h⟩

theorem new_ok {G : Hp} (room : Int) (h0 : 0 ≤ room) (h1 : room ≤ 16777216) :
    Con Try.prog G 48 [.int .i64 room] [] (fun v B => ∃ p, v = .tuple #[.pointer (some ⟨p, 0, none⟩), .int .i64 0] ∧ B = [isF p ⟨[], [], room⟩]) := by
  refine Con.intro Try.func48 rfl (Nat.le_of_ble_eq_true (by kernel_rfl)) (by kernel_rfl) Try.results48 ?_
  intro H hH
  have a : ¬ room < 0 := by omega
  have b : ¬ 16777216 < room := by omega
  ((try simp only [S, TY, reduceCtorEq, nq0, nq1, nq2, nq3, nq4, iq0, iq1, iq2, iq3, iq4, iq5, iq6, iq7, iq8, a, b]); (try (simp (disch := omega) only [W2, Int.cast_ofNat_Int]; (try simp only [S, TY, reduceCtorEq, nq0, nq1, nq2, nq3, nq4, iq0, iq1, iq2, iq3, iq4, iq5, iq6, iq7, iq8, a, b]))))
  intro p hp hg
  ((try simp only [S, TY, reduceCtorEq, nq0, nq1, nq2, nq3, nq4, iq0, iq1, iq2, iq3, iq4, iq5, iq6, iq7, iq8]); (try (simp (disch := omega) only [W2, Int.cast_ofNat_Int]; (try simp only [S, TY, reduceCtorEq, nq0, nq1, nq2, nq3, nq4, iq0, iq1, iq2, iq3, iq4, iq5, iq6, iq7, iq8]))))
  exact fin_ret (isF_shut ((((hH.nil_ 5 1).nil_ 5 1)).new hp hg _)) ⟨p, rfl, rfl⟩
theorem new_no {G : Hp} (room : Int) (h : room < 0 ∨ 16777216 < room) :
    Con Try.prog G 48 [.int .i64 room] [] (fun v B => v = .tuple #[.pointer none, .int .i64 1] ∧ B = []) := by
  refine Con.intro Try.func48 rfl (Nat.le_of_ble_eq_true (by kernel_rfl)) (by kernel_rfl) Try.results48 ?_
  intro H hH
  by_cases a : room < 0
  · ((try simp only [S, TY, reduceCtorEq, nq0, nq1, nq2, nq3, nq4, iq0, iq1, iq2, iq3, iq4, iq5, iq6, iq7, iq8, a]); (try (simp (disch := omega) only [W2, Int.cast_ofNat_Int]; (try simp only [S, TY, reduceCtorEq, nq0, nq1, nq2, nq3, nq4, iq0, iq1, iq2, iq3, iq4, iq5, iq6, iq7, iq8, a]))))
    exact fin_ret hH ⟨rfl, rfl⟩
  · have b : 16777216 < room := by omega
    ((try simp only [S, TY, reduceCtorEq, nq0, nq1, nq2, nq3, nq4, iq0, iq1, iq2, iq3, iq4, iq5, iq6, iq7, iq8, a, b]); (try (simp (disch := omega) only [W2, Int.cast_ofNat_Int]; (try simp only [S, TY, reduceCtorEq, nq0, nq1, nq2, nq3, nq4, iq0, iq1, iq2, iq3, iq4, iq5, iq6, iq7, iq8, a, b]))))
    exact fin_ret hH ⟨rfl, rfl⟩
def F.add (f : F) (b : List UInt8) : F × Int := if (f.safe.length : Int) + f.loose.length + b.length ≤ f.room then ({ f with loose := f.loose ++ b }, 0) else (f, 3)
theorem add_nil {G : Hp} (b : Value) : Con Try.prog G 124 [.pointer none, b] [] (fun v B => v = .int .i64 1 ∧ B = []) := by
  refine Con.intro Try.func124 rfl (Nat.le_of_ble_eq_true (by kernel_rfl)) (by kernel_rfl) Try.results124 ?_
  intro H hH
  ((try simp only [S, TY, reduceCtorEq, nq0, nq1, nq2, nq3, nq4, iq0, iq1, iq2, iq3, iq4, iq5, iq6, iq7, iq8]); (try (simp (disch := omega) only [W2, Int.cast_ofNat_Int]; (try simp only [S, TY, reduceCtorEq, nq0, nq1, nq2, nq3, nq4, iq0, iq1, iq2, iq3, iq4, iq5, iq6, iq7, iq8]))); repeat ((first | (refine cl_drawi 3 D124_3 (List.range 20) (by decide) (by kernel_rfl) ?_; unfold D124_3)); simp only [S, TY, reduceCtorEq, nq0, nq1, nq2, nq3, nq4, iq0, iq1, iq2, iq3, iq4, iq5, iq6, iq7, iq8]; (try (simp (disch := omega) only [W2, Int.cast_ofNat_Int]; (try simp only [S, TY, reduceCtorEq, nq0, nq1, nq2, nq3, nq4, iq0, iq1, iq2, iq3, iq4, iq5, iq6, iq7, iq8])))))
  exact fin_ret hH ⟨rfl, rfl⟩
theorem add_ok {G : Hp} {p : Nat} {f : F} (hf : f.ok) {b : Value} {bs : List UInt8} (hb : rds G 1 b (bv bs)) (hbl : bs.length ≤ 70368744177664) :
    Con Try.prog G 124 [.pointer (some ⟨p, 0, none⟩), b] [isF p f] (fun v B => v = .int .i64 (f.add bs).2 ∧ B = [isF p (f.add bs).1]) := by
  refine Con.intro Try.func124 rfl (Nat.le_of_ble_eq_true (by kernel_rfl)) (by kernel_rfl) Try.results124 ?_
  intro H hH
  obtain ⟨sa, sn, sc, la, ln, lc, e1, e2, e3, e4, h⟩ := isF_open hH
  obtain ⟨ba, bn, bc, rfl, e5, e6⟩ := hb.slice
  rw [bv_length] at e5
  have c := h.c0
  obtain ⟨f1, f2⟩ := hf
  ((try simp only [S, TY, reduceCtorEq, nq0, nq1, nq2, nq3, nq4, iq0, iq1, iq2, iq3, iq4, iq5, iq6, iq7, iq8, c]); (try (simp (disch := omega) only [W2, Int.cast_ofNat_Int]; (try simp only [S, TY, reduceCtorEq, nq0, nq1, nq2, nq3, nq4, iq0, iq1, iq2, iq3, iq4, iq5, iq6, iq7, iq8, c]))); repeat ((first | (refine cl_drawi 3 D124_3 (List.range 20) (by decide) (by kernel_rfl) ?_; unfold D124_3)); simp only [S, TY, reduceCtorEq, nq0, nq1, nq2, nq3, nq4, iq0, iq1, iq2, iq3, iq4, iq5, iq6, iq7, iq8, c]; (try (simp (disch := omega) only [W2, Int.cast_ofNat_Int]; (try simp only [S, TY, reduceCtorEq, nq0, nq1, nq2, nq3, nq4, iq0, iq1, iq2, iq3, iq4, iq5, iq6, iq7, iq8, c])))))
  unfold F.add
  refine Gate.intro (fun g => ?_) (fun g => ?_)
  · rw [if_neg (by omega)]
    ((try simp only [S, TY, reduceCtorEq, nq0, nq1, nq2, nq3, nq4, iq0, iq1, iq2, iq3, iq4, iq5, iq6, iq7, iq8, c]); (try (simp (disch := omega) only [W2, Int.cast_ofNat_Int]; (try simp only [S, TY, reduceCtorEq, nq0, nq1, nq2, nq3, nq4, iq0, iq1, iq2, iq3, iq4, iq5, iq6, iq7, iq8, c]))); repeat ((first | (refine cl_drawi 3 D124_3 (List.range 20) (by decide) (by kernel_rfl) ?_; unfold D124_3)); simp only [S, TY, reduceCtorEq, nq0, nq1, nq2, nq3, nq4, iq0, iq1, iq2, iq3, iq4, iq5, iq6, iq7, iq8, c]; (try (simp (disch := omega) only [W2, Int.cast_ofNat_Int]; (try simp only [S, TY, reduceCtorEq, nq0, nq1, nq2, nq3, nq4, iq0, iq1, iq2, iq3, iq4, iq5, iq6, iq7, iq8, c])))))
    exact fin_ret (isF_shut h) ⟨rfl, rfl⟩
  · rw [if_pos (by omega)]
    ((try simp only [S, TY, reduceCtorEq, nq0, nq1, nq2, nq3, nq4, iq0, iq1, iq2, iq3, iq4, iq5, iq6, iq7, iq8, c]); (try (simp (disch := omega) only [W2, Int.cast_ofNat_Int]; (try simp only [S, TY, reduceCtorEq, nq0, nq1, nq2, nq3, nq4, iq0, iq1, iq2, iq3, iq4, iq5, iq6, iq7, iq8, c]))); repeat ((first | (refine cl_drawi 3 D124_3 (List.range 20) (by decide) (by kernel_rfl) ?_; unfold D124_3)); simp only [S, TY, reduceCtorEq, nq0, nq1, nq2, nq3, nq4, iq0, iq1, iq2, iq3, iq4, iq5, iq6, iq7, iq8, c]; (try (simp (disch := omega) only [W2, Int.cast_ofNat_Int]; (try simp only [S, TY, reduceCtorEq, nq0, nq1, nq2, nq3, nq4, iq0, iq1, iq2, iq3, iq4, iq5, iq6, iq7, iq8, c])))))
    refine append_sl (show apI Try.prog 33 = some (5, 1, 1) from by kernel_rfl) (show slIs Try.prog 33 = true from by kernel_rfl) (h.front 2) (h.ro hb) (bv_one _) (by simp only [bv_length]; omega) fun v H1 h1 => ?_
    obtain ⟨va, vn, vc, rfl, e7, e8⟩ := h1.sl 0 rfl Rd_own
    ((try simp only [S, TY, reduceCtorEq, nq0, nq1, nq2, nq3, nq4, iq0, iq1, iq2, iq3, iq4, iq5, iq6, iq7, iq8]); (try (simp (disch := omega) only [W2, Int.cast_ofNat_Int]; (try simp only [S, TY, reduceCtorEq, nq0, nq1, nq2, nq3, nq4, iq0, iq1, iq2, iq3, iq4, iq5, iq6, iq7, iq8]))); repeat ((first | (refine cl_drawi 3 D124_3 (List.range 20) (by decide) (by kernel_rfl) ?_; unfold D124_3)); simp only [S, TY, reduceCtorEq, nq0, nq1, nq2, nq3, nq4, iq0, iq1, iq2, iq3, iq4, iq5, iq6, iq7, iq8]; (try (simp (disch := omega) only [W2, Int.cast_ofNat_Int]; (try simp only [S, TY, reduceCtorEq, nq0, nq1, nq2, nq3, nq4, iq0, iq1, iq2, iq3, iq4, iq5, iq6, iq7, iq8])))))
    refine sg.st (h1.front 1) rfl rfl fun H2 h2 => ?_
    ((try simp only [S, TY, reduceCtorEq, nq0, nq1, nq2, nq3, nq4, iq0, iq1, iq2, iq3, iq4, iq5, iq6, iq7, iq8]); (try (simp (disch := omega) only [W2, Int.cast_ofNat_Int]; (try simp only [S, TY, reduceCtorEq, nq0, nq1, nq2, nq3, nq4, iq0, iq1, iq2, iq3, iq4, iq5, iq6, iq7, iq8]))); repeat ((first | (refine cl_drawi 3 D124_3 (List.range 20) (by decide) (by kernel_rfl) ?_; unfold D124_3)); simp only [S, TY, reduceCtorEq, nq0, nq1, nq2, nq3, nq4, iq0, iq1, iq2, iq3, iq4, iq5, iq6, iq7, iq8]; (try (simp (disch := omega) only [W2, Int.cast_ofNat_Int]; (try simp only [S, TY, reduceCtorEq, nq0, nq1, nq2, nq3, nq4, iq0, iq1, iq2, iq3, iq4, iq5, iq6, iq7, iq8])))))
    rw [← bv_append] at h2
    exact fin_ret (isF_shut (h2.fronts [0, 1, 0])) ⟨rfl, rfl⟩
def F.sync (f : F) : F := { f with safe := f.safe ++ f.loose, loose := [] }
theorem sync_nil {G : Hp} : Con Try.prog G 123 [.pointer none] [] (fun v B => v = .int .i64 0 ∧ B = []) := by
  refine Con.intro Try.func123 rfl (Nat.le_of_ble_eq_true (by kernel_rfl)) (by kernel_rfl) Try.results123 ?_
  intro H hH
  ((try simp only [S, TY, reduceCtorEq, nq0, nq1, nq2, nq3, nq4, iq0, iq1, iq2, iq3, iq4, iq5, iq6, iq7, iq8]); (try (simp (disch := omega) only [W2, Int.cast_ofNat_Int]; (try simp only [S, TY, reduceCtorEq, nq0, nq1, nq2, nq3, nq4, iq0, iq1, iq2, iq3, iq4, iq5, iq6, iq7, iq8]))); repeat ((first | (refine cl_drawi 3 D123_3 ([0, 13, 1, 2, 3, 4, 5, 6, 7, 8, 9, 10, 11, 12, 14, 15, 16]) (by decide) (by kernel_rfl) ?_; unfold D123_3)); simp only [S, TY, reduceCtorEq, nq0, nq1, nq2, nq3, nq4, iq0, iq1, iq2, iq3, iq4, iq5, iq6, iq7, iq8]; (try (simp (disch := omega) only [W2, Int.cast_ofNat_Int]; (try simp only [S, TY, reduceCtorEq, nq0, nq1, nq2, nq3, nq4, iq0, iq1, iq2, iq3, iq4, iq5, iq6, iq7, iq8])))))
  exact fin_ret hH ⟨rfl, rfl⟩
theorem sync_ok {G : Hp} {p : Nat} {f : F} (hf : f.ok) :
    Con Try.prog G 123 [.pointer (some ⟨p, 0, none⟩)] [isF p f] (fun v B => v = .int .i64 f.sync.safe.length ∧ B = [isF p f.sync]) := by
  refine Con.intro Try.func123 rfl (Nat.le_of_ble_eq_true (by kernel_rfl)) (by kernel_rfl) Try.results123 ?_
  intro H hH
  obtain ⟨sa, sn, sc, la, ln, lc, e1, e2, e3, e4, h⟩ := isF_open hH
  have c := h.c0
  obtain ⟨f1, f2⟩ := hf
  ((try simp only [S, TY, reduceCtorEq, nq0, nq1, nq2, nq3, nq4, iq0, iq1, iq2, iq3, iq4, iq5, iq6, iq7, iq8, c]); (try (simp (disch := omega) only [W2, Int.cast_ofNat_Int]; (try simp only [S, TY, reduceCtorEq, nq0, nq1, nq2, nq3, nq4, iq0, iq1, iq2, iq3, iq4, iq5, iq6, iq7, iq8, c]))); repeat ((first | (refine cl_drawi 3 D123_3 ([0, 13, 1, 2, 3, 4, 5, 6, 7, 8, 9, 10, 11, 12, 14, 15, 16]) (by decide) (by kernel_rfl) ?_; unfold D123_3)); simp only [S, TY, reduceCtorEq, nq0, nq1, nq2, nq3, nq4, iq0, iq1, iq2, iq3, iq4, iq5, iq6, iq7, iq8, c]; (try (simp (disch := omega) only [W2, Int.cast_ofNat_Int]; (try simp only [S, TY, reduceCtorEq, nq0, nq1, nq2, nq3, nq4, iq0, iq1, iq2, iq3, iq4, iq5, iq6, iq7, iq8, c])))))
  refine append_sl (show apI Try.prog 33 = some (5, 1, 1) from by kernel_rfl) (show slIs Try.prog 33 = true from by kernel_rfl) (h.front 1) (h.rdsi 2 rfl Rd_own) (bv_one _) (by simp only [bv_length]; omega) fun v H1 h1 => ?_
  obtain ⟨va, vn, vc, rfl, e7, e8⟩ := h1.sl 0 rfl Rd_own
  ((try simp only [S, TY, reduceCtorEq, nq0, nq1, nq2, nq3, nq4, iq0, iq1, iq2, iq3, iq4, iq5, iq6, iq7, iq8]); (try (simp (disch := omega) only [W2, Int.cast_ofNat_Int]; (try simp only [S, TY, reduceCtorEq, nq0, nq1, nq2, nq3, nq4, iq0, iq1, iq2, iq3, iq4, iq5, iq6, iq7, iq8]))); repeat ((first | (refine cl_drawi 3 D123_3 ([0, 13, 1, 2, 3, 4, 5, 6, 7, 8, 9, 10, 11, 12, 14, 15, 16]) (by decide) (by kernel_rfl) ?_; unfold D123_3)); simp only [S, TY, reduceCtorEq, nq0, nq1, nq2, nq3, nq4, iq0, iq1, iq2, iq3, iq4, iq5, iq6, iq7, iq8]; (try (simp (disch := omega) only [W2, Int.cast_ofNat_Int]; (try simp only [S, TY, reduceCtorEq, nq0, nq1, nq2, nq3, nq4, iq0, iq1, iq2, iq3, iq4, iq5, iq6, iq7, iq8])))))
  refine sg.st (h1.front 1) rfl rfl fun H2 h2 => ?_
  ((try simp only [S, TY, reduceCtorEq, nq0, nq1, nq2, nq3, nq4, iq0, iq1, iq2, iq3, iq4, iq5, iq6, iq7, iq8]); (try (simp (disch := omega) only [W2, Int.cast_ofNat_Int]; (try simp only [S, TY, reduceCtorEq, nq0, nq1, nq2, nq3, nq4, iq0, iq1, iq2, iq3, iq4, iq5, iq6, iq7, iq8]))); repeat ((first | (refine cl_drawi 3 D123_3 ([0, 13, 1, 2, 3, 4, 5, 6, 7, 8, 9, 10, 11, 12, 14, 15, 16]) (by decide) (by kernel_rfl) ?_; unfold D123_3)); simp only [S, TY, reduceCtorEq, nq0, nq1, nq2, nq3, nq4, iq0, iq1, iq2, iq3, iq4, iq5, iq6, iq7, iq8]; (try (simp (disch := omega) only [W2, Int.cast_ofNat_Int]; (try simp only [S, TY, reduceCtorEq, nq0, nq1, nq2, nq3, nq4, iq0, iq1, iq2, iq3, iq4, iq5, iq6, iq7, iq8])))))
  refine sg.st h2 rfl rfl fun H3 h3 => ?_
  simp only [front_eq, fronts_nil, fronts_cons, List.getElem?_cons_zero, List.getElem?_cons_succ, List.eraseIdx_cons_zero, List.eraseIdx_cons_succ, List.cons_append, List.nil_append, putL_cons, putL_nil, List.set_cons_zero, List.set_cons_succ, Nat.reduceAdd] at h3
  have c3 := h3.c0
  rw [← bv_append] at h3 e7
  rw [bv_length] at e7
  ((try simp only [S, TY, reduceCtorEq, nq0, nq1, nq2, nq3, nq4, iq0, iq1, iq2, iq3, iq4, iq5, iq6, iq7, iq8, c3]); (try (simp (disch := omega) only [W2, Int.cast_ofNat_Int]; (try simp only [S, TY, reduceCtorEq, nq0, nq1, nq2, nq3, nq4, iq0, iq1, iq2, iq3, iq4, iq5, iq6, iq7, iq8, c3]))); repeat ((first | (refine cl_drawi 3 D123_3 ([0, 13, 1, 2, 3, 4, 5, 6, 7, 8, 9, 10, 11, 12, 14, 15, 16]) (by decide) (by kernel_rfl) ?_; unfold D123_3)); simp only [S, TY, reduceCtorEq, nq0, nq1, nq2, nq3, nq4, iq0, iq1, iq2, iq3, iq4, iq5, iq6, iq7, iq8, c3]; (try (simp (disch := omega) only [W2, Int.cast_ofNat_Int]; (try simp only [S, TY, reduceCtorEq, nq0, nq1, nq2, nq3, nq4, iq0, iq1, iq2, iq3, iq4, iq5, iq6, iq7, iq8, c3])))))
  exact fin_take (isF_shut (((h3.front 1).nil_ 5 1).fronts [2, 1, 0])) ⟨by rw [show f.sync.safe.length = vn from by rw [← Nat.mul_one vn]; exact e7], rfl⟩
theorem bytes_nil {G : Hp} : Con Try.prog G 59 [.pointer none] [] (fun v B => v = .slice none 0 0 ∧ B = []) := by
  refine Con.intro Try.func59 rfl (Nat.le_of_ble_eq_true (by kernel_rfl)) (by kernel_rfl) Try.results59 ?_
  intro H hH
  ((try simp only [S, TY, reduceCtorEq, nq0, nq1, nq2, nq3, nq4, iq0, iq1, iq2, iq3, iq4, iq5, iq6, iq7, iq8]); (try (simp (disch := omega) only [W2, Int.cast_ofNat_Int]; (try simp only [S, TY, reduceCtorEq, nq0, nq1, nq2, nq3, nq4, iq0, iq1, iq2, iq3, iq4, iq5, iq6, iq7, iq8]))); repeat ((first | (refine cl_drawi 3 D59_3 (List.range 11) (by decide) (by kernel_rfl) ?_; unfold D59_3)); simp only [S, TY, reduceCtorEq, nq0, nq1, nq2, nq3, nq4, iq0, iq1, iq2, iq3, iq4, iq5, iq6, iq7, iq8]; (try (simp (disch := omega) only [W2, Int.cast_ofNat_Int]; (try simp only [S, TY, reduceCtorEq, nq0, nq1, nq2, nq3, nq4, iq0, iq1, iq2, iq3, iq4, iq5, iq6, iq7, iq8])))))
  exact fin_ret hH ⟨rfl, rfl⟩
theorem bytes_ok {G : Hp} {p : Nat} {f : F} (hf : f.ok) :
    Con Try.prog G 59 [.pointer (some ⟨p, 0, none⟩)] [isF p f] (fun v B => B = [own 5 1 v (bv (f.safe ++ f.loose)), isF p f]) := by
  refine Con.intro Try.func59 rfl (Nat.le_of_ble_eq_true (by kernel_rfl)) (by kernel_rfl) Try.results59 ?_
  intro H hH
  obtain ⟨sa, sn, sc, la, ln, lc, e1, e2, e3, e4, h⟩ := isF_open hH
  have c := h.c0
  obtain ⟨f1, f2⟩ := hf
  ((try simp only [S, TY, reduceCtorEq, nq0, nq1, nq2, nq3, nq4, iq0, iq1, iq2, iq3, iq4, iq5, iq6, iq7, iq8, c]); (try (simp (disch := omega) only [W2, Int.cast_ofNat_Int]; (try simp only [S, TY, reduceCtorEq, nq0, nq1, nq2, nq3, nq4, iq0, iq1, iq2, iq3, iq4, iq5, iq6, iq7, iq8, c]))); repeat ((first | (refine cl_drawi 3 D59_3 (List.range 11) (by decide) (by kernel_rfl) ?_; unfold D59_3)); simp only [S, TY, reduceCtorEq, nq0, nq1, nq2, nq3, nq4, iq0, iq1, iq2, iq3, iq4, iq5, iq6, iq7, iq8, c]; (try (simp (disch := omega) only [W2, Int.cast_ofNat_Int]; (try simp only [S, TY, reduceCtorEq, nq0, nq1, nq2, nq3, nq4, iq0, iq1, iq2, iq3, iq4, iq5, iq6, iq7, iq8, c])))))
  intro b hb hg
  have h1 := h.newsl (e := 33) (sz := 1) (n := 2) (xs := [.slice sa sn sc, .slice la ln lc]) hb hg rfl
  ((try simp only [S, TY, reduceCtorEq, nq0, nq1, nq2, nq3, nq4, iq0, iq1, iq2, iq3, iq4, iq5, iq6, iq7, iq8]); (try (simp (disch := omega) only [W2, Int.cast_ofNat_Int]; (try simp only [S, TY, reduceCtorEq, nq0, nq1, nq2, nq3, nq4, iq0, iq1, iq2, iq3, iq4, iq5, iq6, iq7, iq8]))); repeat ((first | (refine cl_drawi 3 D59_3 (List.range 11) (by decide) (by kernel_rfl) ?_; unfold D59_3)); simp only [S, TY, reduceCtorEq, nq0, nq1, nq2, nq3, nq4, iq0, iq1, iq2, iq3, iq4, iq5, iq6, iq7, iq8]; (try (simp (disch := omega) only [W2, Int.cast_ofNat_Int]; (try simp only [S, TY, reduceCtorEq, nq0, nq1, nq2, nq3, nq4, iq0, iq1, iq2, iq3, iq4, iq5, iq6, iq7, iq8])))))
  refine Con.lend_at [] [own 33 1 _ _, own 5 1 _ _, own 5 1 _ _] h1 [0, 1, 1] rfl
    (fun F hF hs => Slices.concat2 (seps_own hs 0 rfl).left (seps_own hs 1 rfl).left (seps_own hs 2 rfl).left (by omega)) fun v B H2 hv h2 => ?_
  subst hv
  ((try simp only [S, TY, reduceCtorEq, nq0, nq1, nq2, nq3, nq4, iq0, iq1, iq2, iq3, iq4, iq5, iq6, iq7, iq8]); (try (simp (disch := omega) only [W2, Int.cast_ofNat_Int]; (try simp only [S, TY, reduceCtorEq, nq0, nq1, nq2, nq3, nq4, iq0, iq1, iq2, iq3, iq4, iq5, iq6, iq7, iq8]))); repeat ((first | (refine cl_drawi 3 D59_3 (List.range 11) (by decide) (by kernel_rfl) ?_; unfold D59_3)); simp only [S, TY, reduceCtorEq, nq0, nq1, nq2, nq3, nq4, iq0, iq1, iq2, iq3, iq4, iq5, iq6, iq7, iq8]; (try (simp (disch := omega) only [W2, Int.cast_ofNat_Int]; (try simp only [S, TY, reduceCtorEq, nq0, nq1, nq2, nq3, nq4, iq0, iq1, iq2, iq3, iq4, iq5, iq6, iq7, iq8])))))
  exact fin_take ((isF_shut (h2.fronts [4, 2, 2])).front 1) rfl
theorem safe_nil {G : Hp} : Con Try.prog G 60 [.pointer none] [] (fun v B => v = .int .i64 0 ∧ B = []) := by
  refine Con.intro Try.func60 rfl (Nat.le_of_ble_eq_true (by kernel_rfl)) (by kernel_rfl) Try.results60 ?_
  intro H hH
  ((try simp only [S, TY, reduceCtorEq, nq0, nq1, nq2, nq3, nq4, iq0, iq1, iq2, iq3, iq4, iq5, iq6, iq7, iq8]); (try (simp (disch := omega) only [W2, Int.cast_ofNat_Int]; (try simp only [S, TY, reduceCtorEq, nq0, nq1, nq2, nq3, nq4, iq0, iq1, iq2, iq3, iq4, iq5, iq6, iq7, iq8]))))
  exact fin_ret hH ⟨rfl, rfl⟩
theorem safe_ok {G : Hp} {p : Nat} {f : F} :
    Con Try.prog G 60 [.pointer (some ⟨p, 0, none⟩)] [isF p f] (fun v B => v = .int .i64 f.safe.length ∧ B = [isF p f]) := by
  refine Con.intro Try.func60 rfl (Nat.le_of_ble_eq_true (by kernel_rfl)) (by kernel_rfl) Try.results60 ?_
  intro H hH
  obtain ⟨sa, sn, sc, la, ln, lc, e1, e2, e3, e4, h⟩ := isF_open hH
  have c := h.c0
  ((try simp only [S, TY, reduceCtorEq, nq0, nq1, nq2, nq3, nq4, iq0, iq1, iq2, iq3, iq4, iq5, iq6, iq7, iq8, c]); (try (simp (disch := omega) only [W2, Int.cast_ofNat_Int]; (try simp only [S, TY, reduceCtorEq, nq0, nq1, nq2, nq3, nq4, iq0, iq1, iq2, iq3, iq4, iq5, iq6, iq7, iq8, c]))))
  exact fin_ret (isF_shut h) ⟨by rw [e1], rfl⟩
theorem cut_nil {G : Hp} (n : Value) : Con Try.prog G 121 [.pointer none, n] [] (fun v B => v = .int .i64 1 ∧ B = []) := by
  refine Con.intro Try.func121 rfl (Nat.le_of_ble_eq_true (by kernel_rfl)) (by kernel_rfl) Try.results121 ?_
  intro H hH
  ((try simp only [S, TY, reduceCtorEq, nq0, nq1, nq2, nq3, nq4, iq0, iq1, iq2, iq3, iq4, iq5, iq6, iq7, iq8]); (try (simp (disch := omega) only [W2, Int.cast_ofNat_Int]; (try simp only [S, TY, reduceCtorEq, nq0, nq1, nq2, nq3, nq4, iq0, iq1, iq2, iq3, iq4, iq5, iq6, iq7, iq8]))); repeat ((first | (refine cl_drawi 1 D121_1 (List.range 21) (by decide) (by kernel_rfl) ?_; unfold D121_1)); simp only [S, TY, reduceCtorEq, nq0, nq1, nq2, nq3, nq4, iq0, iq1, iq2, iq3, iq4, iq5, iq6, iq7, iq8]; (try (simp (disch := omega) only [W2, Int.cast_ofNat_Int]; (try simp only [S, TY, reduceCtorEq, nq0, nq1, nq2, nq3, nq4, iq0, iq1, iq2, iq3, iq4, iq5, iq6, iq7, iq8])))))
  exact fin_ret hH ⟨rfl, rfl⟩
def F.cut (f : F) (n : Int) : F × Int := if n < 0 ∨ (f.safe.length : Int) + f.loose.length < n then (f, 1) else ({ f with safe := (f.safe ++ f.loose).take n.toNat, loose := [] }, 0)
theorem cut_ok {G : Hp} {p : Nat} {f : F} (hf : f.ok) (n : Int) :
    Con Try.prog G 121 [.pointer (some ⟨p, 0, none⟩), .int .i64 n] [isF p f] (fun v B => v = .int .i64 (f.cut n).2 ∧ B = [isF p (f.cut n).1]) := by
  refine Con.intro Try.func121 rfl (Nat.le_of_ble_eq_true (by kernel_rfl)) (by kernel_rfl) Try.results121 ?_
  intro H hH
  obtain ⟨sa, sn, sc, la, ln, lc, e1, e2, e3, e4, h⟩ := isF_open hH
  have c := h.c0
  obtain ⟨f1, f2⟩ := id hf
  by_cases a : n < 0
  · ((try simp only [S, TY, reduceCtorEq, nq0, nq1, nq2, nq3, nq4, iq0, iq1, iq2, iq3, iq4, iq5, iq6, iq7, iq8, c, a]); (try (simp (disch := omega) only [W2, Int.cast_ofNat_Int]; (try simp only [S, TY, reduceCtorEq, nq0, nq1, nq2, nq3, nq4, iq0, iq1, iq2, iq3, iq4, iq5, iq6, iq7, iq8, c, a]))); repeat ((first | (refine cl_drawi 1 D121_1 (List.range 21) (by decide) (by kernel_rfl) ?_; unfold D121_1)); simp only [S, TY, reduceCtorEq, nq0, nq1, nq2, nq3, nq4, iq0, iq1, iq2, iq3, iq4, iq5, iq6, iq7, iq8, c, a]; (try (simp (disch := omega) only [W2, Int.cast_ofNat_Int]; (try simp only [S, TY, reduceCtorEq, nq0, nq1, nq2, nq3, nq4, iq0, iq1, iq2, iq3, iq4, iq5, iq6, iq7, iq8, c, a])))))
    exact fin_ret (isF_shut h) ⟨by unfold F.cut; rw [if_pos (by omega)], by unfold F.cut; rw [if_pos (by omega)]⟩
  · ((try simp only [S, TY, reduceCtorEq, nq0, nq1, nq2, nq3, nq4, iq0, iq1, iq2, iq3, iq4, iq5, iq6, iq7, iq8, c, a]); (try (simp (disch := omega) only [W2, Int.cast_ofNat_Int]; (try simp only [S, TY, reduceCtorEq, nq0, nq1, nq2, nq3, nq4, iq0, iq1, iq2, iq3, iq4, iq5, iq6, iq7, iq8, c, a]))); repeat ((first | (refine cl_drawi 1 D121_1 (List.range 21) (by decide) (by kernel_rfl) ?_; unfold D121_1)); simp only [S, TY, reduceCtorEq, nq0, nq1, nq2, nq3, nq4, iq0, iq1, iq2, iq3, iq4, iq5, iq6, iq7, iq8, c, a]; (try (simp (disch := omega) only [W2, Int.cast_ofNat_Int]; (try simp only [S, TY, reduceCtorEq, nq0, nq1, nq2, nq3, nq4, iq0, iq1, iq2, iq3, iq4, iq5, iq6, iq7, iq8, c, a])))))
    refine Gate.intro (fun g => ?_) (fun g => ?_)
    · ((try simp only [S, TY, reduceCtorEq, nq0, nq1, nq2, nq3, nq4, iq0, iq1, iq2, iq3, iq4, iq5, iq6, iq7, iq8, c, a]); (try (simp (disch := omega) only [W2, Int.cast_ofNat_Int]; (try simp only [S, TY, reduceCtorEq, nq0, nq1, nq2, nq3, nq4, iq0, iq1, iq2, iq3, iq4, iq5, iq6, iq7, iq8, c, a]))); repeat ((first | (refine cl_drawi 1 D121_1 (List.range 21) (by decide) (by kernel_rfl) ?_; unfold D121_1)); simp only [S, TY, reduceCtorEq, nq0, nq1, nq2, nq3, nq4, iq0, iq1, iq2, iq3, iq4, iq5, iq6, iq7, iq8, c, a]; (try (simp (disch := omega) only [W2, Int.cast_ofNat_Int]; (try simp only [S, TY, reduceCtorEq, nq0, nq1, nq2, nq3, nq4, iq0, iq1, iq2, iq3, iq4, iq5, iq6, iq7, iq8, c, a])))))
      exact fin_ret (isF_shut h) ⟨by unfold F.cut; rw [if_pos (by omega)], by unfold F.cut; rw [if_pos (by omega)]⟩
    · ((try simp only [S, TY, reduceCtorEq, nq0, nq1, nq2, nq3, nq4, iq0, iq1, iq2, iq3, iq4, iq5, iq6, iq7, iq8, c, a]); (try (simp (disch := omega) only [W2, Int.cast_ofNat_Int]; (try simp only [S, TY, reduceCtorEq, nq0, nq1, nq2, nq3, nq4, iq0, iq1, iq2, iq3, iq4, iq5, iq6, iq7, iq8, c, a]))); repeat ((first | (refine cl_drawi 1 D121_1 (List.range 21) (by decide) (by kernel_rfl) ?_; unfold D121_1)); simp only [S, TY, reduceCtorEq, nq0, nq1, nq2, nq3, nq4, iq0, iq1, iq2, iq3, iq4, iq5, iq6, iq7, iq8, c, a]; (try (simp (disch := omega) only [W2, Int.cast_ofNat_Int]; (try simp only [S, TY, reduceCtorEq, nq0, nq1, nq2, nq3, nq4, iq0, iq1, iq2, iq3, iq4, iq5, iq6, iq7, iq8, c, a])))))
      refine (bytes_ok hf).at_ (isF_shut h) [0] [] rfl fun v B H1 hv h1 => ?_
      subst hv
      obtain ⟨va, vn, vc, rfl, e5, e6⟩ := h1.sl 0 rfl Rd_own
      rw [bv_length, List.length_append] at e5
      have q : 0 ≤ n ∧ n ≤ vc := by omega
      ((try simp only [S, TY, reduceCtorEq, nq0, nq1, nq2, nq3, nq4, iq0, iq1, iq2, iq3, iq4, iq5, iq6, iq7, iq8, c, q]); (try (simp (disch := omega) only [W2, Int.cast_ofNat_Int]; (try simp only [S, TY, reduceCtorEq, nq0, nq1, nq2, nq3, nq4, iq0, iq1, iq2, iq3, iq4, iq5, iq6, iq7, iq8, c, q]))); repeat ((first | (refine cl_drawi 1 D121_1 (List.range 21) (by decide) (by kernel_rfl) ?_; unfold D121_1)); simp only [S, TY, reduceCtorEq, nq0, nq1, nq2, nq3, nq4, iq0, iq1, iq2, iq3, iq4, iq5, iq6, iq7, iq8, c, q]; (try (simp (disch := omega) only [W2, Int.cast_ofNat_Int]; (try simp only [S, TY, reduceCtorEq, nq0, nq1, nq2, nq3, nq4, iq0, iq1, iq2, iq3, iq4, iq5, iq6, iq7, iq8, c, q])))))
      have h2 := own_take h1 n.toNat (by omega)
      rw [Nat.mul_one, ← bv_take] at h2
      obtain ⟨sa', sn', sc', la', ln', lc', e1', e2', e3', e4', h3⟩ := isF_open (h2.front 1)
      refine sg.st h3 rfl rfl fun H2 h2 => ?_
      ((try simp only [S, TY, reduceCtorEq, nq0, nq1, nq2, nq3, nq4, iq0, iq1, iq2, iq3, iq4, iq5, iq6, iq7, iq8]); (try (simp (disch := omega) only [W2, Int.cast_ofNat_Int]; (try simp only [S, TY, reduceCtorEq, nq0, nq1, nq2, nq3, nq4, iq0, iq1, iq2, iq3, iq4, iq5, iq6, iq7, iq8]))); repeat ((first | (refine cl_drawi 1 D121_1 (List.range 21) (by decide) (by kernel_rfl) ?_; unfold D121_1)); simp only [S, TY, reduceCtorEq, nq0, nq1, nq2, nq3, nq4, iq0, iq1, iq2, iq3, iq4, iq5, iq6, iq7, iq8]; (try (simp (disch := omega) only [W2, Int.cast_ofNat_Int]; (try simp only [S, TY, reduceCtorEq, nq0, nq1, nq2, nq3, nq4, iq0, iq1, iq2, iq3, iq4, iq5, iq6, iq7, iq8])))))
      refine sg.st h2 rfl rfl fun H3 h3 => ?_
      ((try simp only [S, TY, reduceCtorEq, nq0, nq1, nq2, nq3, nq4, iq0, iq1, iq2, iq3, iq4, iq5, iq6, iq7, iq8]); (try (simp (disch := omega) only [W2, Int.cast_ofNat_Int]; (try simp only [S, TY, reduceCtorEq, nq0, nq1, nq2, nq3, nq4, iq0, iq1, iq2, iq3, iq4, iq5, iq6, iq7, iq8]))); repeat ((first | (refine cl_drawi 1 D121_1 (List.range 21) (by decide) (by kernel_rfl) ?_; unfold D121_1)); simp only [S, TY, reduceCtorEq, nq0, nq1, nq2, nq3, nq4, iq0, iq1, iq2, iq3, iq4, iq5, iq6, iq7, iq8]; (try (simp (disch := omega) only [W2, Int.cast_ofNat_Int]; (try simp only [S, TY, reduceCtorEq, nq0, nq1, nq2, nq3, nq4, iq0, iq1, iq2, iq3, iq4, iq5, iq6, iq7, iq8])))))
      simp only [front_eq, fronts_nil, fronts_cons, List.getElem?_cons_zero, List.getElem?_cons_succ, List.eraseIdx_cons_zero, List.eraseIdx_cons_succ, List.cons_append, List.nil_append, putL_cons, putL_nil, List.set_cons_zero, List.set_cons_succ, Nat.reduceAdd] at h3
      refine fin_take (isF_shut (((h3.front 3).nil_ 5 1).fronts [2, 1, 0])) ⟨by unfold F.cut; rw [if_neg (by omega)], by unfold F.cut; rw [if_neg (by omega)]⟩
theorem crash_nil {G : Hp} (n : Value) : Con Try.prog G 53 [.pointer none, n] [] (fun v B => v = .int .i64 0 ∧ B = []) := by
  refine Con.intro Try.func53 rfl (Nat.le_of_ble_eq_true (by kernel_rfl)) (by kernel_rfl) Try.results53 ?_
  intro H hH
  ((try simp only [S, TY, reduceCtorEq, nq0, nq1, nq2, nq3, nq4, iq0, iq1, iq2, iq3, iq4, iq5, iq6, iq7, iq8]); (try (simp (disch := omega) only [W2, Int.cast_ofNat_Int]; (try simp only [S, TY, reduceCtorEq, nq0, nq1, nq2, nq3, nq4, iq0, iq1, iq2, iq3, iq4, iq5, iq6, iq7, iq8]))))
  exact fin_ret hH ⟨rfl, rfl⟩
def F.crash (f : F) (k : Int) : F × Int := let stay := (min (max k 0) f.loose.length).toNat; ({ f with safe := f.safe ++ f.loose.take stay, loose := [] }, f.loose.length - stay)
theorem crash_ok {G : Hp} {p : Nat} {f : F} (hf : f.ok) (n : Int) :
    Con Try.prog G 53 [.pointer (some ⟨p, 0, none⟩), .int .i64 n] [isF p f] (fun v B => v = .int .i64 (f.crash n).2 ∧ B = [isF p (f.crash n).1]) := by
  refine Con.intro Try.func53 rfl (Nat.le_of_ble_eq_true (by kernel_rfl)) (by kernel_rfl) Try.results53 ?_
  intro H hH
  obtain ⟨sa, sn, sc, la, ln, lc, e1, e2, e3, e4, h⟩ := isF_open hH
  have c := h.c0
  obtain ⟨f1, f2⟩ := id hf
  ((try simp only [S, TY, reduceCtorEq, nq0, nq1, nq2, nq3, nq4, iq0, iq1, iq2, iq3, iq4, iq5, iq6, iq7, iq8, c]); (try (simp (disch := omega) only [W2, Int.cast_ofNat_Int]; (try simp only [S, TY, reduceCtorEq, nq0, nq1, nq2, nq3, nq4, iq0, iq1, iq2, iq3, iq4, iq5, iq6, iq7, iq8, c]))))
  have hm : (if (ln : Int) < if 0 > n then 0 else n then (ln : Int) else if 0 > n then 0 else n) = ((min (max n 0) (ln : Int)).toNat : Nat) := by
    split <;> split at * <;> omega
  rw [hm]
  generalize hst : (min (max n 0) (ln : Int)).toNat = stay
  have hsl : stay ≤ ln := by omega
  ((try simp only [S, TY, reduceCtorEq, nq0, nq1, nq2, nq3, nq4, iq0, iq1, iq2, iq3, iq4, iq5, iq6, iq7, iq8]); (try (simp (disch := omega) only [W2, Int.cast_ofNat_Int]; (try simp only [S, TY, reduceCtorEq, nq0, nq1, nq2, nq3, nq4, iq0, iq1, iq2, iq3, iq4, iq5, iq6, iq7, iq8]))))
  refine ⟨⟨by omega, by omega⟩, ?_⟩
  have h1 := own_take (h.front 2) stay hsl
  refine sg.st (h1.front 1) rfl rfl fun H2 h2 => ?_
  simp only [front_eq, fronts_nil, fronts_cons, List.getElem?_cons_zero, List.getElem?_cons_succ, List.eraseIdx_cons_zero, List.eraseIdx_cons_succ, List.cons_append, List.nil_append, putL_cons, putL_nil, List.set_cons_zero, List.set_cons_succ, Nat.reduceAdd] at h2
  rw [Nat.mul_one, ← bv_take] at h2
  ((try simp only [S, TY, reduceCtorEq, nq0, nq1, nq2, nq3, nq4, iq0, iq1, iq2, iq3, iq4, iq5, iq6, iq7, iq8]); (try (simp (disch := omega) only [W2, Int.cast_ofNat_Int]; (try simp only [S, TY, reduceCtorEq, nq0, nq1, nq2, nq3, nq4, iq0, iq1, iq2, iq3, iq4, iq5, iq6, iq7, iq8]))))
  refine (sync_ok (f := { f with loose := f.loose.take stay }) ⟨f1, by simp only [List.length_take]; omega⟩).at_ (isF_shut (h2.fronts [0, 1, 0])) [0] [] rfl fun v B H3 hv h3 => ?_
  obtain ⟨rfl, rfl⟩ := hv
  ((try simp only [S, TY, reduceCtorEq, nq0, nq1, nq2, nq3, nq4, iq0, iq1, iq2, iq3, iq4, iq5, iq6, iq7, iq8]); (try (simp (disch := omega) only [W2, Int.cast_ofNat_Int]; (try simp only [S, TY, reduceCtorEq, nq0, nq1, nq2, nq3, nq4, iq0, iq1, iq2, iq3, iq4, iq5, iq6, iq7, iq8]))))
  exact fin_ret h3 ⟨by unfold F.crash; rw [e2, hst], by unfold F.crash F.sync; rw [e2, hst]; rfl⟩
end Go.Proofs.Ytfjmejideoklpaa.Disk
