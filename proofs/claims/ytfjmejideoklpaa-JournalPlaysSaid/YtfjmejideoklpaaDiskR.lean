/- The document's file, over the machine. -/
import Derived.Test.YtfjmejideoklpaaDisk
set_option linter.unusedVariables false
set_option linter.unusedSimpArgs false
set_option maxRecDepth 10000
namespace Go.Proofs.Ytfjmejideoklpaa.DiskR
open Nat renaming reduceEqDiff → nq0, reduceAdd → nq1, reduceLeDiff → nq2, reduceBEq → nq3, reduceMul → nq4
open Int renaming reduceBEq → iq0, reduceEq → iq1, reduceLT → iq2, reduceLE → iq3, reduceAdd → iq4, reduceSub → iq5, reduceMul → iq6, reduceToNat → iq7, cast_ofNat_Int → iq8
open Go Go.Sl Go.Proofs
theorem TY : aggN Try.prog 3 = some none ∧
  aggN Try.prog 5 = some none ∧
  aggN Try.prog 33 = some none ∧
  aggN Try.prog 93 = some none ∧
  aggN Try.prog 95 = some (some 3) ∧
  apI Try.prog 33 = some (5, 1, 1) ∧
  bIs Try.prog 95 = true ∧
  bySl Try.prog 33 = true ∧
  csz Try.prog 3 = some 1 ∧
  csz Try.prog 5 = some 1 ∧
  csz Try.prog 33 = some 1 ∧
  csz Try.prog 93 = some 1 ∧
  csz Try.prog 95 = some 3 ∧
  fIs Try.prog 95 0 = true ∧
  fIs Try.prog 95 1 = true ∧
  fIs Try.prog 95 2 = true ∧
  fOff Try.prog 95 0 = 0 ∧
  fOff Try.prog 95 1 = 1 ∧
  fOff Try.prog 95 2 = 2 ∧
  fTy Try.prog 95 0 = 33 ∧
  fTy Try.prog 95 1 = 3 ∧
  fTy Try.prog 95 2 = 3 ∧
  goes Try.prog 122 = true ∧
  inIs Try.prog 3 = some .i64 ∧
  inIs Try.prog 5 = some .u8 ∧
  plcs Try.prog 95 = [(0, 1), (1, 1), (2, 1)] ∧
  ptIs Try.prog 93 = true ∧
  slEl Try.prog 33 = 5 ∧
  slIs Try.prog 33 = true ∧
  slSz Try.prog 33 = 1 ∧
  zcs Try.prog 95 = [.slice none 0 0, .int .i64 0, .int .i64 0] ∧
  zro Try.prog 3 = some (.int .i64 0) ∧
  zro Try.prog 5 = some (.int .u8 0) ∧
  zro Try.prog 33 = some (.slice none 0 0) ∧
  zro Try.prog 93 = some (.pointer none) ∧
  zro Try.prog 95 = some (.agg #[.slice none 0 0, .int .i64 0, .int .i64 0]) :=
  ⟨by kernel_rfl, by kernel_rfl, by kernel_rfl, by kernel_rfl, by kernel_rfl, by kernel_rfl, by kernel_rfl, by kernel_rfl, by kernel_rfl, by kernel_rfl, by kernel_rfl, by kernel_rfl, by kernel_rfl, by kernel_rfl, by kernel_rfl, by kernel_rfl, by kernel_rfl, by kernel_rfl, by kernel_rfl, by kernel_rfl, by kernel_rfl, by kernel_rfl, by kernel_rfl, by kernel_rfl, by kernel_rfl, by kernel_rfl, by kernel_rfl, by kernel_rfl, by kernel_rfl, by kernel_rfl, by kernel_rfl, by kernel_rfl, by kernel_rfl, by kernel_rfl, by kernel_rfl, by kernel_rfl⟩
def D125_1 : List Note := Go.Sl.nn [0, 0, 0, 1, 0, 0, 0, 0, 0, 0, 0, 1, 0]
structure D where
  b : List UInt8
  safe : Nat
  room : Int
def isD (p : Nat) (m : D) : Asn := fun H => ∃ s, seps [ob p (.cells #[s, .int .i64 m.safe, .int .i64 m.room] 95 (0, 0)), own 5 1 s (bv m.b)] H
theorem isD_open {G H : Hp} {p : Nat} {m : D} {L : List Asn} (h : sg G (isD p m :: L) H) : ∃ sa sn sc, m.b.length = sn ∧ sn ≤ sc ∧
    sg G (ob p (.cells #[.slice sa sn sc, .int .i64 m.safe, .int .i64 m.room] 95 (0, 0)) :: own 5 1 (.slice sa sn sc) (bv m.b) :: L) H := by
  obtain ⟨hd, H1, H2, rfl, hd2, ⟨s, h1⟩, h2⟩ := h
  have h3 : sg G (ob p (.cells #[s, .int .i64 m.safe, .int .i64 m.room] 95 (0, 0)) :: own 5 1 s (bv m.b) :: L) (H1.un H2) := ⟨hd, seps_append.2 ⟨H1, H2, rfl, hd2, h1, h2⟩⟩
  obtain ⟨sa, sn, sc, rfl, e1, e2⟩ := h3.sl 1 rfl Rd_own
  rw [bv_length] at e1
  exact ⟨sa, sn, sc, by omega, e2, h3⟩
theorem isD_shut {G H : Hp} {p : Nat} {m : D} {s : Value} {L : List Asn} (h : sg G (ob p (.cells #[s, .int .i64 m.safe, .int .i64 m.room] 95 (0, 0)) :: own 5 1 s (bv m.b) :: L) H) : sg G (isD p m :: L) H :=
  h.shut (M := [ob p (.cells #[s, .int .i64 m.safe, .int .i64 m.room] 95 (0, 0)), own 5 1 s (bv m.b)]) fun H _ h => ⟨s, h⟩
def D.add (m : D) (b : List UInt8) : D × Int := if m.room < (m.b.length : Int) + b.length then (m, 3) else ({ m with b := m.b ++ b }, 0)
theorem radd {G : Hp} {p : Nat} {m : D} (hm : m.b.length ≤ 16777216) {b : Value} {bs : List UInt8} (hb : rds G 1 b (bv bs)) (hbl : bs.length ≤ 70368744177664) :
    Con Try.prog G 125 [.pointer (some ⟨p, 0, none⟩), b] [isD p m] (fun v B => v = .int .i64 (m.add bs).2 ∧ B = [isD p (m.add bs).1]) := by
  refine Con.intro Try.func125 rfl (Nat.le_of_ble_eq_true (by kernel_rfl)) (by kernel_rfl) Try.results125 ?_
  intro H hH
  obtain ⟨sa, sn, sc, e1, e2, h⟩ := isD_open hH
  obtain ⟨ba, bn, bc, rfl, e5, e6⟩ := hb.slice
  rw [bv_length] at e5
  have c := h.c0
  ((try simp only [S, TY, reduceCtorEq, nq0, nq1, nq2, nq3, nq4, iq0, iq1, iq2, iq3, iq4, iq5, iq6, iq7, iq8, c]); (try (simp (disch := omega) only [W2, Int.cast_ofNat_Int]; (try simp only [S, TY, reduceCtorEq, nq0, nq1, nq2, nq3, nq4, iq0, iq1, iq2, iq3, iq4, iq5, iq6, iq7, iq8, c]))); repeat ((first | (refine cl_drawi 1 D125_1 (List.range 13) (by decide) (by kernel_rfl) ?_; unfold D125_1)); simp only [S, TY, reduceCtorEq, nq0, nq1, nq2, nq3, nq4, iq0, iq1, iq2, iq3, iq4, iq5, iq6, iq7, iq8, c]; (try (simp (disch := omega) only [W2, Int.cast_ofNat_Int]; (try simp only [S, TY, reduceCtorEq, nq0, nq1, nq2, nq3, nq4, iq0, iq1, iq2, iq3, iq4, iq5, iq6, iq7, iq8, c])))))
  refine Gate.intro (fun g => ?_) (fun g => ?_)
  · ((try simp only [S, TY, reduceCtorEq, nq0, nq1, nq2, nq3, nq4, iq0, iq1, iq2, iq3, iq4, iq5, iq6, iq7, iq8, c]); (try (simp (disch := omega) only [W2, Int.cast_ofNat_Int]; (try simp only [S, TY, reduceCtorEq, nq0, nq1, nq2, nq3, nq4, iq0, iq1, iq2, iq3, iq4, iq5, iq6, iq7, iq8, c]))); repeat ((first | (refine cl_drawi 1 D125_1 (List.range 13) (by decide) (by kernel_rfl) ?_; unfold D125_1)); simp only [S, TY, reduceCtorEq, nq0, nq1, nq2, nq3, nq4, iq0, iq1, iq2, iq3, iq4, iq5, iq6, iq7, iq8, c]; (try (simp (disch := omega) only [W2, Int.cast_ofNat_Int]; (try simp only [S, TY, reduceCtorEq, nq0, nq1, nq2, nq3, nq4, iq0, iq1, iq2, iq3, iq4, iq5, iq6, iq7, iq8, c])))))
    exact fin_ret (isD_shut h) ⟨by unfold D.add; rw [if_pos (by omega)], by unfold D.add; rw [if_pos (by omega)]⟩
  · ((try simp only [S, TY, reduceCtorEq, nq0, nq1, nq2, nq3, nq4, iq0, iq1, iq2, iq3, iq4, iq5, iq6, iq7, iq8, c]); (try (simp (disch := omega) only [W2, Int.cast_ofNat_Int]; (try simp only [S, TY, reduceCtorEq, nq0, nq1, nq2, nq3, nq4, iq0, iq1, iq2, iq3, iq4, iq5, iq6, iq7, iq8, c]))); repeat ((first | (refine cl_drawi 1 D125_1 (List.range 13) (by decide) (by kernel_rfl) ?_; unfold D125_1)); simp only [S, TY, reduceCtorEq, nq0, nq1, nq2, nq3, nq4, iq0, iq1, iq2, iq3, iq4, iq5, iq6, iq7, iq8, c]; (try (simp (disch := omega) only [W2, Int.cast_ofNat_Int]; (try simp only [S, TY, reduceCtorEq, nq0, nq1, nq2, nq3, nq4, iq0, iq1, iq2, iq3, iq4, iq5, iq6, iq7, iq8, c])))))
    intro b hb' hg
    have h1 := h.newsl (e := 5) (sz := 1) (n := 0) (xs := []) hb' hg rfl
    have c1 := ucell_of (G := G) (h1.at_ 1 rfl)
    ((try simp only [S, TY, reduceCtorEq, nq0, nq1, nq2, nq3, nq4, iq0, iq1, iq2, iq3, iq4, iq5, iq6, iq7, iq8, c1]); (try (simp (disch := omega) only [W2, Int.cast_ofNat_Int]; (try simp only [S, TY, reduceCtorEq, nq0, nq1, nq2, nq3, nq4, iq0, iq1, iq2, iq3, iq4, iq5, iq6, iq7, iq8, c1]))); repeat ((first | (refine cl_drawi 1 D125_1 (List.range 13) (by decide) (by kernel_rfl) ?_; unfold D125_1)); simp only [S, TY, reduceCtorEq, nq0, nq1, nq2, nq3, nq4, iq0, iq1, iq2, iq3, iq4, iq5, iq6, iq7, iq8, c1]; (try (simp (disch := omega) only [W2, Int.cast_ofNat_Int]; (try simp only [S, TY, reduceCtorEq, nq0, nq1, nq2, nq3, nq4, iq0, iq1, iq2, iq3, iq4, iq5, iq6, iq7, iq8, c1])))))
    refine append_sl (show apI Try.prog 33 = some (5, 1, 1) from by kernel_rfl) (show slIs Try.prog 33 = true from by kernel_rfl) h1 (h1.rdsi 2 rfl Rd_own) (bv_one _) (by simp only [bv_length, List.length_nil]; omega) fun v H2 h2 => ?_
    ((try simp only [S, TY, reduceCtorEq, nq0, nq1, nq2, nq3, nq4, iq0, iq1, iq2, iq3, iq4, iq5, iq6, iq7, iq8]); (try (simp (disch := omega) only [W2, Int.cast_ofNat_Int]; (try simp only [S, TY, reduceCtorEq, nq0, nq1, nq2, nq3, nq4, iq0, iq1, iq2, iq3, iq4, iq5, iq6, iq7, iq8]))); repeat ((first | (refine cl_drawi 1 D125_1 (List.range 13) (by decide) (by kernel_rfl) ?_; unfold D125_1)); simp only [S, TY, reduceCtorEq, nq0, nq1, nq2, nq3, nq4, iq0, iq1, iq2, iq3, iq4, iq5, iq6, iq7, iq8]; (try (simp (disch := omega) only [W2, Int.cast_ofNat_Int]; (try simp only [S, TY, reduceCtorEq, nq0, nq1, nq2, nq3, nq4, iq0, iq1, iq2, iq3, iq4, iq5, iq6, iq7, iq8])))))
    rw [List.nil_append] at h2
    refine append_sl (show apI Try.prog 33 = some (5, 1, 1) from by kernel_rfl) (show slIs Try.prog 33 = true from by kernel_rfl) h2 (h2.ro hb) (bv_one _) (by simp only [bv_length]; omega) fun v H3 h3 => ?_
    obtain ⟨va, vn, vc, rfl, e7, e8⟩ := h3.sl 0 rfl Rd_own
    ((try simp only [S, TY, reduceCtorEq, nq0, nq1, nq2, nq3, nq4, iq0, iq1, iq2, iq3, iq4, iq5, iq6, iq7, iq8]); (try (simp (disch := omega) only [W2, Int.cast_ofNat_Int]; (try simp only [S, TY, reduceCtorEq, nq0, nq1, nq2, nq3, nq4, iq0, iq1, iq2, iq3, iq4, iq5, iq6, iq7, iq8]))); repeat ((first | (refine cl_drawi 1 D125_1 (List.range 13) (by decide) (by kernel_rfl) ?_; unfold D125_1)); simp only [S, TY, reduceCtorEq, nq0, nq1, nq2, nq3, nq4, iq0, iq1, iq2, iq3, iq4, iq5, iq6, iq7, iq8]; (try (simp (disch := omega) only [W2, Int.cast_ofNat_Int]; (try simp only [S, TY, reduceCtorEq, nq0, nq1, nq2, nq3, nq4, iq0, iq1, iq2, iq3, iq4, iq5, iq6, iq7, iq8])))))
    refine sg.st (h3.front 1) rfl rfl fun H4 h4 => ?_
    ((try simp only [S, TY, reduceCtorEq, nq0, nq1, nq2, nq3, nq4, iq0, iq1, iq2, iq3, iq4, iq5, iq6, iq7, iq8]); (try (simp (disch := omega) only [W2, Int.cast_ofNat_Int]; (try simp only [S, TY, reduceCtorEq, nq0, nq1, nq2, nq3, nq4, iq0, iq1, iq2, iq3, iq4, iq5, iq6, iq7, iq8]))); repeat ((first | (refine cl_drawi 1 D125_1 (List.range 13) (by decide) (by kernel_rfl) ?_; unfold D125_1)); simp only [S, TY, reduceCtorEq, nq0, nq1, nq2, nq3, nq4, iq0, iq1, iq2, iq3, iq4, iq5, iq6, iq7, iq8]; (try (simp (disch := omega) only [W2, Int.cast_ofNat_Int]; (try simp only [S, TY, reduceCtorEq, nq0, nq1, nq2, nq3, nq4, iq0, iq1, iq2, iq3, iq4, iq5, iq6, iq7, iq8])))))
    simp only [front_eq, fronts_nil, fronts_cons, List.getElem?_cons_zero, List.getElem?_cons_succ, List.eraseIdx_cons_zero, List.eraseIdx_cons_succ, List.cons_append, List.nil_append, putL_cons, putL_nil, List.set_cons_zero, List.set_cons_succ, Nat.reduceAdd] at h4
    rw [← bv_append] at h4
    exact fin_take (isD_shut h4) ⟨by unfold D.add; rw [if_neg (by omega)], by unfold D.add; rw [if_neg (by omega)]⟩
def D.cut (m : D) (n : Int) : D × Int := if n < 0 ∨ (m.b.length : Int) < n then (m, 1) else (⟨m.b.take n.toNat, n.toNat, m.room⟩, 0)
theorem rcut {G : Hp} {p : Nat} {m : D} (n : Int) :
    Con Try.prog G 122 [.pointer (some ⟨p, 0, none⟩), .int .i64 n] [isD p m] (fun v B => v = .int .i64 (m.cut n).2 ∧ B = [isD p (m.cut n).1]) := by
  refine Con.intro Try.func122 rfl (Nat.le_of_ble_eq_true (by kernel_rfl)) (by kernel_rfl) Try.results122 ?_
  intro H hH
  obtain ⟨sa, sn, sc, e1, e2, h⟩ := isD_open hH
  have c := h.c0
  by_cases a : n < 0
  · ((try simp only [S, TY, reduceCtorEq, nq0, nq1, nq2, nq3, nq4, iq0, iq1, iq2, iq3, iq4, iq5, iq6, iq7, iq8, c, a]); (try (simp (disch := omega) only [W2, Int.cast_ofNat_Int]; (try simp only [S, TY, reduceCtorEq, nq0, nq1, nq2, nq3, nq4, iq0, iq1, iq2, iq3, iq4, iq5, iq6, iq7, iq8, c, a]))))
    exact fin_ret (isD_shut h) ⟨by unfold D.cut; rw [if_pos (by omega)], by unfold D.cut; rw [if_pos (by omega)]⟩
  · ((try simp only [S, TY, reduceCtorEq, nq0, nq1, nq2, nq3, nq4, iq0, iq1, iq2, iq3, iq4, iq5, iq6, iq7, iq8, c, a]); (try (simp (disch := omega) only [W2, Int.cast_ofNat_Int]; (try simp only [S, TY, reduceCtorEq, nq0, nq1, nq2, nq3, nq4, iq0, iq1, iq2, iq3, iq4, iq5, iq6, iq7, iq8, c, a]))))
    refine Gate.intro (fun g => ?_) (fun g => ?_)
    · ((try simp only [S, TY, reduceCtorEq, nq0, nq1, nq2, nq3, nq4, iq0, iq1, iq2, iq3, iq4, iq5, iq6, iq7, iq8, c, a]); (try (simp (disch := omega) only [W2, Int.cast_ofNat_Int]; (try simp only [S, TY, reduceCtorEq, nq0, nq1, nq2, nq3, nq4, iq0, iq1, iq2, iq3, iq4, iq5, iq6, iq7, iq8, c, a]))))
      exact fin_ret (isD_shut h) ⟨by unfold D.cut; rw [if_pos (by omega)], by unfold D.cut; rw [if_pos (by omega)]⟩
    · have q : 0 ≤ n ∧ n ≤ sc := by omega
      ((try simp only [S, TY, reduceCtorEq, nq0, nq1, nq2, nq3, nq4, iq0, iq1, iq2, iq3, iq4, iq5, iq6, iq7, iq8, c, q]); (try (simp (disch := omega) only [W2, Int.cast_ofNat_Int]; (try simp only [S, TY, reduceCtorEq, nq0, nq1, nq2, nq3, nq4, iq0, iq1, iq2, iq3, iq4, iq5, iq6, iq7, iq8, c, q]))))
      have h2 := own_take (h.front 1) n.toNat (by omega)
      rw [Nat.mul_one, ← bv_take] at h2
      refine sg.st (h2.front 1) rfl rfl fun H2 h2 => ?_
      ((try simp only [S, TY, reduceCtorEq, nq0, nq1, nq2, nq3, nq4, iq0, iq1, iq2, iq3, iq4, iq5, iq6, iq7, iq8]); (try (simp (disch := omega) only [W2, Int.cast_ofNat_Int]; (try simp only [S, TY, reduceCtorEq, nq0, nq1, nq2, nq3, nq4, iq0, iq1, iq2, iq3, iq4, iq5, iq6, iq7, iq8]))))
      refine sg.st h2 rfl rfl fun H3 h3 => ?_
      ((try simp only [S, TY, reduceCtorEq, nq0, nq1, nq2, nq3, nq4, iq0, iq1, iq2, iq3, iq4, iq5, iq6, iq7, iq8]); (try (simp (disch := omega) only [W2, Int.cast_ofNat_Int]; (try simp only [S, TY, reduceCtorEq, nq0, nq1, nq2, nq3, nq4, iq0, iq1, iq2, iq3, iq4, iq5, iq6, iq7, iq8]))))
      simp only [front_eq, fronts_nil, fronts_cons, List.getElem?_cons_zero, List.getElem?_cons_succ, List.eraseIdx_cons_zero, List.eraseIdx_cons_succ, List.cons_append, List.nil_append, putL_cons, putL_nil, List.set_cons_zero, List.set_cons_succ, Nat.reduceAdd] at h3
      rw [show (Value.int .i64 n) = .int .i64 (n.toNat : Nat) from by congr 1; omega] at h3
      exact fin_ret (isD_shut (m := ⟨m.b.take n.toNat, n.toNat, m.room⟩) h3) ⟨by unfold D.cut; rw [if_neg (by omega)], by unfold D.cut; rw [if_neg (by omega)]⟩
theorem rsync {G : Hp} {p : Nat} {m : D} :
    Con Try.prog G 52 [.pointer (some ⟨p, 0, none⟩)] [isD p m] (fun v B => v = .int .i64 m.b.length ∧ B = [isD p { m with safe := m.b.length }]) := by
  refine Con.intro Try.func52 rfl (Nat.le_of_ble_eq_true (by kernel_rfl)) (by kernel_rfl) Try.results52 ?_
  intro H hH
  obtain ⟨sa, sn, sc, e1, e2, h⟩ := isD_open hH
  have c := h.c0
  ((try simp only [S, TY, reduceCtorEq, nq0, nq1, nq2, nq3, nq4, iq0, iq1, iq2, iq3, iq4, iq5, iq6, iq7, iq8, c]); (try (simp (disch := omega) only [W2, Int.cast_ofNat_Int]; (try simp only [S, TY, reduceCtorEq, nq0, nq1, nq2, nq3, nq4, iq0, iq1, iq2, iq3, iq4, iq5, iq6, iq7, iq8, c]))))
  refine sg.st h rfl rfl fun H2 h2 => ?_
  simp only [front_eq, fronts_nil, fronts_cons, List.getElem?_cons_zero, List.getElem?_cons_succ, List.eraseIdx_cons_zero, List.eraseIdx_cons_succ, List.cons_append, List.nil_append, putL_cons, putL_nil, List.set_cons_zero, List.set_cons_succ, Nat.reduceAdd] at h2
  have c2 := h2.c0
  ((try simp only [S, TY, reduceCtorEq, nq0, nq1, nq2, nq3, nq4, iq0, iq1, iq2, iq3, iq4, iq5, iq6, iq7, iq8, c2]); (try (simp (disch := omega) only [W2, Int.cast_ofNat_Int]; (try simp only [S, TY, reduceCtorEq, nq0, nq1, nq2, nq3, nq4, iq0, iq1, iq2, iq3, iq4, iq5, iq6, iq7, iq8, c2]))))
  rw [← e1] at h2
  exact fin_ret (isD_shut (m := { m with safe := m.b.length }) h2) ⟨by rw [e1], rfl⟩
theorem rcrash {G : Hp} {p : Nat} {m : D} (n : Int) (h1 : m.safe ≤ m.b.length) (h2 : m.b.length ≤ 16777216) :
    Con Try.prog G 54 [.pointer (some ⟨p, 0, none⟩), .int .i64 n] [isD p m] (fun v B => ∃ s : Nat, s = (min (m.safe + max n 0) m.b.length).toNat ∧ v = .int .i64 (m.b.length - s) ∧ B = [isD p ⟨m.b.take s, s, m.room⟩]) := by
  refine Con.intro Try.func54 rfl (Nat.le_of_ble_eq_true (by kernel_rfl)) (by kernel_rfl) Try.results54 ?_
  intro H hH
  obtain ⟨sa, sn, sc, e1, e2, h⟩ := isD_open hH
  have c := h.c0
  ((try simp only [S, TY, reduceCtorEq, nq0, nq1, nq2, nq3, nq4, iq0, iq1, iq2, iq3, iq4, iq5, iq6, iq7, iq8, c]); (try (simp (disch := omega) only [W2, Int.cast_ofNat_Int]; (try simp only [S, TY, reduceCtorEq, nq0, nq1, nq2, nq3, nq4, iq0, iq1, iq2, iq3, iq4, iq5, iq6, iq7, iq8, c]))))
  refine cl_loop (fun i e H => m.safe + i ≤ sn ∧ (i = 0 ∨ (i : Int) ≤ n) ∧ e 0 = .pointer (some ⟨p, 0, none⟩) ∧ e 1 = .int .i64 n ∧ e 5 = .int .i64 sn ∧ e 6 = .int .i64 (m.safe + i : Nat) ∧ e 7 = .int .i64 i ∧ sg G [isD p m] H) (fun i => sn - i) 0
    ⟨by omega, .inl rfl, rfl, rfl, rfl, rfl, rfl, isD_shut h⟩ ?_
  rintro i e H ⟨q1, q2, q3, q4, q5, q6, q7, hH⟩
  by_cases a : (i : Int) < n
  · ((try simp only [S, TY, reduceCtorEq, nq0, nq1, nq2, nq3, nq4, iq0, iq1, iq2, iq3, iq4, iq5, iq6, iq7, iq8, q3, q4, q5, q6, q7, a]); (try (simp (disch := omega) only [W2, Int.cast_ofNat_Int]; (try simp only [S, TY, reduceCtorEq, nq0, nq1, nq2, nq3, nq4, iq0, iq1, iq2, iq3, iq4, iq5, iq6, iq7, iq8, q3, q4, q5, q6, q7, a]))))
    refine Gate.intro (fun g => ?_) (fun g => ?_)
    · ((try simp only [S, TY, reduceCtorEq, nq0, nq1, nq2, nq3, nq4, iq0, iq1, iq2, iq3, iq4, iq5, iq6, iq7, iq8, q3, q4, q5, q6, q7]); (try (simp (disch := omega) only [W2, Int.cast_ofNat_Int]; (try simp only [S, TY, reduceCtorEq, nq0, nq1, nq2, nq3, nq4, iq0, iq1, iq2, iq3, iq4, iq5, iq6, iq7, iq8, q3, q4, q5, q6, q7]))))
      exact .go (i + 1) (by omega) ⟨by omega, .inr (by omega), q3, q4, q5, by simp [Env.put]; omega, rfl, hH⟩
    · ((try simp only [S, TY, reduceCtorEq, nq0, nq1, nq2, nq3, nq4, iq0, iq1, iq2, iq3, iq4, iq5, iq6, iq7, iq8, q3, q4, q5, q6, q7]); (try (simp (disch := omega) only [W2, Int.cast_ofNat_Int]; (try simp only [S, TY, reduceCtorEq, nq0, nq1, nq2, nq3, nq4, iq0, iq1, iq2, iq3, iq4, iq5, iq6, iq7, iq8, q3, q4, q5, q6, q7]))))
      refine (rcut (G := G) (p := p) (m := m) (m.safe + i : Nat)).at_ hH [0] [] rfl fun v B H1 hv h1 => ?_
      unfold D.cut at hv; rw [if_neg (by omega)] at hv
      obtain ⟨rfl, rfl⟩ := hv
      ((try simp only [S, TY, reduceCtorEq, nq0, nq1, nq2, nq3, nq4, iq0, iq1, iq2, iq3, iq4, iq5, iq6, iq7, iq8, q3, q4, q5, q6, q7]); (try (simp (disch := omega) only [W2, Int.cast_ofNat_Int]; (try simp only [S, TY, reduceCtorEq, nq0, nq1, nq2, nq3, nq4, iq0, iq1, iq2, iq3, iq4, iq5, iq6, iq7, iq8, q3, q4, q5, q6, q7]))))
      exact fin_ret h1 ⟨m.safe + i, by omega, by rw [e1], rfl⟩
  · ((try simp only [S, TY, reduceCtorEq, nq0, nq1, nq2, nq3, nq4, iq0, iq1, iq2, iq3, iq4, iq5, iq6, iq7, iq8, q3, q4, q5, q6, q7, a]); (try (simp (disch := omega) only [W2, Int.cast_ofNat_Int]; (try simp only [S, TY, reduceCtorEq, nq0, nq1, nq2, nq3, nq4, iq0, iq1, iq2, iq3, iq4, iq5, iq6, iq7, iq8, q3, q4, q5, q6, q7, a]))))
    refine (rcut (G := G) (p := p) (m := m) (m.safe + i : Nat)).at_ hH [0] [] rfl fun v B H1 hv h1 => ?_
    unfold D.cut at hv; rw [if_neg (by omega)] at hv
    obtain ⟨rfl, rfl⟩ := hv
    ((try simp only [S, TY, reduceCtorEq, nq0, nq1, nq2, nq3, nq4, iq0, iq1, iq2, iq3, iq4, iq5, iq6, iq7, iq8, q3, q4, q5, q6, q7]); (try (simp (disch := omega) only [W2, Int.cast_ofNat_Int]; (try simp only [S, TY, reduceCtorEq, nq0, nq1, nq2, nq3, nq4, iq0, iq1, iq2, iq3, iq4, iq5, iq6, iq7, iq8, q3, q4, q5, q6, q7]))))
    exact fin_ret h1 ⟨m.safe + i, by omega, by rw [e1], rfl⟩
end Go.Proofs.Ytfjmejideoklpaa.DiskR
