/- Two sessions, in order: the law, over the machine. -/
import Derived.Test.YtanhmbdcdbcfmaaSeA
set_option linter.unusedVariables false
set_option linter.unusedSimpArgs false
set_option maxRecDepth 10000
set_option maxHeartbeats 4000000
namespace Go.Proofs.Ytanhmbdcdbcfmaa.SeY
open Nat renaming reduceEqDiff → nq0, reduceAdd → nq1, reduceLeDiff → nq2, reduceBEq → nq3, reduceMul → nq4
open Int renaming reduceBEq → iq0, reduceEq → iq1, reduceLT → iq2, reduceLE → iq3, reduceAdd → iq4, reduceSub → iq5, reduceMul → iq6, reduceToNat → iq7, cast_ofNat_Int → iq8
open Go Go.Sl Go.Proofs Go.Proofs.Ytanhmbdcdbcfmaa.Buf Go.Proofs.Ytanhmbdcdbcfmaa.BufRd Go.Proofs.Ytanhmbdcdbcfmaa.BufRe Go.Proofs.Ytanhmbdcdbcfmaa.BufP Go.Proofs.Ytanhmbdcdbcfmaa.SeP Go.Proofs.Ytanhmbdcdbcfmaa.Se Go.Proofs.Ytanhmbdcdbcfmaa.SeS Go.Proofs.Ytanhmbdcdbcfmaa.SeT Go.Proofs.Ytanhmbdcdbcfmaa.SeW Go.Proofs.Ytanhmbdcdbcfmaa.SeA
theorem TY : aggN Try.prog 3 = some none ∧
  aggN Try.prog 4 = some none ∧
  aggN Try.prog 5 = some none ∧
  aggN Try.prog 9 = some none ∧
  aggN Try.prog 24 = some none ∧
  aggN Try.prog 30 = some none ∧
  aggN Try.prog 62 = some (some 5) ∧
  aggN Try.prog 78 = some none ∧
  aggN Try.prog 91 = some (some 3) ∧
  aggN Try.prog 102 = some (some 6) ∧
  apI Try.prog 24 = some (5, 1, 1) ∧
  bIs Try.prog 62 = true ∧
  bIs Try.prog 91 = true ∧
  bIs Try.prog 102 = true ∧
  boIs Try.prog 4 = true ∧
  bySl Try.prog 24 = true ∧
  csz Try.prog 3 = some 1 ∧
  csz Try.prog 4 = some 1 ∧
  csz Try.prog 5 = some 1 ∧
  csz Try.prog 9 = some 1 ∧
  csz Try.prog 24 = some 1 ∧
  csz Try.prog 30 = some 1 ∧
  csz Try.prog 62 = some 5 ∧
  csz Try.prog 78 = some 1 ∧
  csz Try.prog 91 = some 3 ∧
  csz Try.prog 102 = some 6 ∧
  fIs Try.prog 62 0 = true ∧
  fIs Try.prog 91 0 = true ∧
  fIs Try.prog 91 1 = true ∧
  fIs Try.prog 91 2 = true ∧
  fIs Try.prog 102 0 = true ∧
  fIs Try.prog 102 1 = true ∧
  fIs Try.prog 102 2 = true ∧
  fIs Try.prog 102 3 = true ∧
  fIs Try.prog 102 4 = true ∧
  fOff Try.prog 62 0 = 0 ∧
  fOff Try.prog 91 0 = 0 ∧
  fOff Try.prog 91 1 = 1 ∧
  fOff Try.prog 91 2 = 2 ∧
  fOff Try.prog 102 0 = 0 ∧
  fOff Try.prog 102 1 = 1 ∧
  fOff Try.prog 102 2 = 2 ∧
  fOff Try.prog 102 3 = 3 ∧
  fOff Try.prog 102 4 = 4 ∧
  fTy Try.prog 62 0 = 3 ∧
  fTy Try.prog 91 0 = 24 ∧
  fTy Try.prog 91 1 = 4 ∧
  fTy Try.prog 91 2 = 4 ∧
  fTy Try.prog 102 0 = 78 ∧
  fTy Try.prog 102 1 = 3 ∧
  fTy Try.prog 102 2 = 24 ∧
  fTy Try.prog 102 3 = 24 ∧
  fTy Try.prog 102 4 = 3 ∧
  goes Try.prog 38 = true ∧
  goes Try.prog 43 = true ∧
  inIs Try.prog 3 = some .i64 ∧
  inIs Try.prog 5 = some .u8 ∧
  inIs Try.prog 30 = some .i64 ∧
  plcs Try.prog 62 = [(0, 1), (1, 1), (2, 1), (3, 1), (4, 1)] ∧
  plcs Try.prog 91 = [(0, 1), (1, 1), (2, 1)] ∧
  plcs Try.prog 102 = [(0, 1), (1, 1), (2, 1), (3, 1), (4, 1), (5, 1)] ∧
  ptIs Try.prog 78 = true ∧
  slEl Try.prog 24 = 5 ∧
  slIs Try.prog 24 = true ∧
  slSz Try.prog 24 = 1 ∧
  stIs Try.prog 9 = true ∧
  zcs Try.prog 62 = [.int .i64 0, .int .i64 0, .int .i64 0, .int .i64 0, .slice none 0 0] ∧
  zcs Try.prog 91 = [.slice none 0 0, .bool false, .bool false] ∧
  zcs Try.prog 102 = [.pointer none, .int .i64 0, .slice none 0 0, .slice none 0 0, .int .i64 0, .slice none 0 0] ∧
  zro Try.prog 3 = some (.int .i64 0) ∧
  zro Try.prog 4 = some (.bool false) ∧
  zro Try.prog 5 = some (.int .u8 0) ∧
  zro Try.prog 9 = some (.string ByteArray.empty) ∧
  zro Try.prog 24 = some (.slice none 0 0) ∧
  zro Try.prog 30 = some (.int .i64 0) ∧
  zro Try.prog 62 = some (.agg #[.int .i64 0, .int .i64 0, .int .i64 0, .int .i64 0, .slice none 0 0]) ∧
  zro Try.prog 78 = some (.pointer none) ∧
  zro Try.prog 91 = some (.agg #[.slice none 0 0, .bool false, .bool false]) ∧
  zro Try.prog 102 = some (.agg #[.pointer none, .int .i64 0, .slice none 0 0, .slice none 0 0, .int .i64 0, .slice none 0 0]) :=
  ⟨by kernel_rfl, by kernel_rfl, by kernel_rfl, by kernel_rfl, by kernel_rfl, by kernel_rfl, by kernel_rfl, by kernel_rfl, by kernel_rfl, by kernel_rfl, by kernel_rfl, by kernel_rfl, by kernel_rfl, by kernel_rfl, by kernel_rfl, by kernel_rfl, by kernel_rfl, by kernel_rfl, by kernel_rfl, by kernel_rfl, by kernel_rfl, by kernel_rfl, by kernel_rfl, by kernel_rfl, by kernel_rfl, by kernel_rfl, by kernel_rfl, by kernel_rfl, by kernel_rfl, by kernel_rfl, by kernel_rfl, by kernel_rfl, by kernel_rfl, by kernel_rfl, by kernel_rfl, by kernel_rfl, by kernel_rfl, by kernel_rfl, by kernel_rfl, by kernel_rfl, by kernel_rfl, by kernel_rfl, by kernel_rfl, by kernel_rfl, by kernel_rfl, by kernel_rfl, by kernel_rfl, by kernel_rfl, by kernel_rfl, by kernel_rfl, by kernel_rfl, by kernel_rfl, by kernel_rfl, by kernel_rfl, by kernel_rfl, by kernel_rfl, by kernel_rfl, by kernel_rfl, by kernel_rfl, by kernel_rfl, by kernel_rfl, by kernel_rfl, by kernel_rfl, by kernel_rfl, by kernel_rfl, by kernel_rfl, by kernel_rfl, by kernel_rfl, by kernel_rfl, by kernel_rfl, by kernel_rfl, by kernel_rfl, by kernel_rfl, by kernel_rfl, by kernel_rfl, by kernel_rfl, by kernel_rfl, by kernel_rfl, by kernel_rfl⟩
def D48_1 : List Note := Go.Sl.nn [0, 0, 0, 1, 0, 0, 0, 1, 0]
def D48_3 : List Note := Go.Sl.nn [0, 0, 0, 1, 0, 0, 0, 1, 0]
def D48_5 : List Note := Go.Sl.nn [0, 0, 0, 1, 0, 0, 0, 0, 1, 0, 0, 0, 0, 0, 0, 1, 1, 0, 0, 0, 1, 0, 0, 0, 1, 0, 0, 1, 0, 0, 0]
def D137_1 : List Note := Go.Sl.nn [0, 0, 0, 1, 1, 3, 0, 0, 0, 2, 3, 0]
def D137_11 : List Note := Go.Sl.nn [0, 0, 0, 0, 1, 0, 1, 0, 1, 2, 3, 0, 0, 3]
abbrev ecl (sp : Nat) (bt : Int) (iv ov : Value) (kn : Int) (lv : Value) : List Value := [.pointer (some ⟨sp, 0, none⟩), .int .i64 bt, iv, ov, .int .i64 kn, lv]
abbrev eC (p sp : Nat) (bt : Int) (iv ov : Value) (kn : Int) (lv : Value) : Asn := ob p (.cells (ecl sp bt iv ov kn lv).toArray 102 (0, 0))
def eE (p : Nat) (x : En) : Asn := fun H => ∃ (sp : Nat) (iv ov lv : Value) (zl : List (Lt × Value)), zl.map (·.1) = x.l ∧
  seps [eC p sp x.bt iv ov x.kn lv, sS sp x.s, own 5 1 iv (bv x.i), own 5 1 ov (bv x.o), own 62 5 lv (zl.flatMap lc), blobs (zl.map (·.2)) (zl.map (·.1.b))] H
theorem eE_open {G H : Hp} {p : Nat} {x : En} {L : List Asn} (h : sg G (eE p x :: L) H) : ∃ (sp : Nat) (ia oa la : Option Addr) (ic oc lcc : Nat) (zl : List (Lt × Value)), zl.map (·.1) = x.l ∧ x.i.length ≤ ic ∧ x.o.length ≤ oc ∧ zl.length ≤ lcc ∧
    sg G (eC p sp x.bt (.slice ia x.i.length ic) (.slice oa x.o.length oc) x.kn (.slice la zl.length lcc) :: sS sp x.s :: own 5 1 (.slice ia x.i.length ic) (bv x.i) :: own 5 1 (.slice oa x.o.length oc) (bv x.o) :: own 62 5 (.slice la zl.length lcc) (zl.flatMap lc) :: blobs (zl.map (·.2)) (zl.map (·.1.b)) :: L) H := by
  obtain ⟨hd, H1, H2, rfl, hd2, ⟨sp, iv, ov, lv, zl, hz, h1⟩, h2⟩ := h
  have h3 : sg G (eC p sp x.bt iv ov x.kn lv :: sS sp x.s :: own 5 1 iv (bv x.i) :: own 5 1 ov (bv x.o) :: own 62 5 lv (zl.flatMap lc) :: blobs (zl.map (·.2)) (zl.map (·.1.b)) :: L) (H1.un H2) :=
    ⟨hd, seps_append (l := [_, _, _, _, _, _]).2 ⟨H1, H2, rfl, hd2, h1, h2⟩⟩
  obtain ⟨ia, n1, ic, rfl, e1, f1⟩ := h3.sl 2 rfl Rd_own
  obtain ⟨oa, n2, oc, rfl, e2, f2⟩ := h3.sl 3 rfl Rd_own
  obtain ⟨la, n3, lcc, rfl, e3, f3⟩ := h3.sl 4 rfl Rd_own
  rw [bv_length] at e1 e2
  rw [flat_len lc_len] at e3
  obtain rfl : n1 = x.i.length := by omega
  obtain rfl : n2 = x.o.length := by omega
  obtain rfl : n3 = zl.length := by omega
  exact ⟨sp, ia, oa, la, ic, oc, lcc, zl, hz, f1, f2, f3, h3⟩
theorem eE_shut {G H : Hp} {p : Nat} (x : En) {sp : Nat} {iv ov lv : Value} {zl : List (Lt × Value)} {L : List Asn} (hz : zl.map (·.1) = x.l)
    (h : sg G (eC p sp x.bt iv ov x.kn lv :: sS sp x.s :: own 5 1 iv (bv x.i) :: own 5 1 ov (bv x.o) :: own 62 5 lv (zl.flatMap lc) :: blobs (zl.map (·.2)) (zl.map (·.1.b)) :: L) H) : sg G (eE p x :: L) H :=
  h.shut [_, _, _, _, _, _] fun H _ h => ⟨sp, iv, ov, lv, zl, hz, h⟩
theorem start_ok {G : Hp} (bt : Int) (hb : 1 ≤ bt ∧ bt ≤ 4294967296) : Con Try.prog G 46 [.int .i64 bt] [] (fun r B => ∃ p, r = .pointer (some ⟨p, 0, none⟩) ∧ B = [eE p (En.new bt)]) := by
  refine Con.intro Try.func46 rfl (Nat.le_of_ble_eq_true (by kernel_rfl)) (by kernel_rfl) Try.results46 ?_
  intro H h
  ((try simp only [S, TY, reduceCtorEq, nq0, nq1, nq2, nq3, nq4, iq0, iq1, iq2, iq3, iq4, iq5, iq6, iq7, iq8]); (try (simp (disch := omega) only [W2, Int.cast_ofNat_Int]; (try simp only [S, TY, reduceCtorEq, nq0, nq1, nq2, nq3, nq4, iq0, iq1, iq2, iq3, iq4, iq5, iq6, iq7, iq8]))))
  refine (New_ok bt hb).at_ h [] _ rfl fun r B H1 hr h1 => ?_
  obtain ⟨a, rfl, rfl⟩ := hr
  ((try simp only [S, TY, reduceCtorEq, nq0, nq1, nq2, nq3, nq4, iq0, iq1, iq2, iq3, iq4, iq5, iq6, iq7, iq8]); (try (simp (disch := omega) only [W2, Int.cast_ofNat_Int]; (try simp only [S, TY, reduceCtorEq, nq0, nq1, nq2, nq3, nq4, iq0, iq1, iq2, iq3, iq4, iq5, iq6, iq7, iq8]))))
  intro p hp hg
  have h2 := (((((h1.blob_nil).nil_ 62 5).nil_ 5 1).nil_ 5 1).new hp hg (.cells (ecl a bt (.slice none 0 0) (.slice none 0 0) 0 (.slice none 0 0)).toArray 102 (0, 0)))
  ((try simp only [S, TY, reduceCtorEq, nq0, nq1, nq2, nq3, nq4, iq0, iq1, iq2, iq3, iq4, iq5, iq6, iq7, iq8]); (try (simp (disch := omega) only [W2, Int.cast_ofNat_Int]; (try simp only [S, TY, reduceCtorEq, nq0, nq1, nq2, nq3, nq4, iq0, iq1, iq2, iq3, iq4, iq5, iq6, iq7, iq8]))))
  exact fin_take (B := [_]) (eE_shut (En.new bt) (zl := []) rfl (h2.fronts [0, 4, 0, 0, 0, 0])) ⟨p, rfl, rfl⟩
theorem pre_iff (o i : List UInt8) : o <+: i ↔ o.length ≤ i.length ∧ o = i.take o.length := by
  constructor
  · rintro ⟨t, rfl⟩
    exact ⟨by simp, by simp⟩
  · rintro ⟨_, h⟩
    rw [h]
    exact List.take_prefix _ _
theorem begins_ok {G : Hp} {p q : Nat} {x y : En} : Con Try.prog G 48 [.pointer (some ⟨p, 0, none⟩), .pointer (some ⟨q, 0, none⟩)] [eE p x, eE q y] (fun r B => r = .bool (beg x y) ∧ B = [eE p x, eE q y]) := by
  refine Con.intro Try.func48 rfl (Nat.le_of_ble_eq_true (by kernel_rfl)) (by kernel_rfl) Try.results48 ?_
  intro H h
  obtain ⟨sp, ia, oa, la, ic, oc, lcc, zl, hz, f1, f2, f3, h1⟩ := eE_open h
  obtain ⟨sq, ja, pa, ma, jc, pc, mcc, yl, hy, k1, k2, k3, h2⟩ := eE_open (h1.front 6)
  simp only [front_eq, fronts_nil, fronts_cons, List.getElem?_cons_zero, List.getElem?_cons_succ, List.eraseIdx_cons_zero, List.eraseIdx_cons_succ, List.cons_append, List.nil_append, putL_cons, putL_nil, List.set_cons_zero, List.set_cons_succ, Nat.reduceAdd] at h2
  have c2 := h2.c0
  have d2 := h2.ci 6 rfl
  have fine : ∀ b : Bool, b = beg x y → fin (fun r B => r = .bool (beg x y) ∧ B = [eE p x, eE q y]) (.returned (.bool b)) H := by
    rintro b rfl
    have h3 := eE_shut y hy h2
    exact fin_take (B := [_, _]) (eE_shut x hz (h3.fronts [1, 1, 1, 1, 1, 1, 0])) ⟨rfl, rfl⟩
  by_cases g1 : x.kn = y.bt
  · by_cases g2 : y.kn = x.bt
    · have hbeg : beg x y = decide (x.o.length ≤ y.i.length ∧ x.o = y.i.take x.o.length) := by
        unfold beg; rw [if_pos g1, if_pos g2]; exact decide_eq_decide.2 (pre_iff _ _)
      by_cases g3 : (x.o.length : Int) ≤ y.i.length
      · have s1 := rStr_of (P := Try.prog) (h2.rdsi 9 rfl Rd_own)
        have s2 := (h2.rdsi 2 rfl Rd_own).cut (m := x.o.length) (c' := jc) (by omega) (by omega)
        rw [Nat.mul_one, ← bv_take] at s2
        replace s2 := rStr_of (P := Try.prog) s2
        ((try simp only [S, TY, reduceCtorEq, nq0, nq1, nq2, nq3, nq4, iq0, iq1, iq2, iq3, iq4, iq5, iq6, iq7, iq8, c2, d2, g1, g2, g3, s1, s2]); (try (simp (disch := omega) only [W2, Int.cast_ofNat_Int]; (try simp only [S, TY, reduceCtorEq, nq0, nq1, nq2, nq3, nq4, iq0, iq1, iq2, iq3, iq4, iq5, iq6, iq7, iq8, c2, d2, g1, g2, g3, s1, s2]))); repeat ((first | (refine cl_drawi 1 D48_1 (List.range 9) (by decide) (by kernel_rfl) ?_; unfold D48_1) | (refine cl_drawi 3 D48_3 (List.range 9) (by decide) (by kernel_rfl) ?_; unfold D48_3) | (refine cl_drawi 5 D48_5 (List.range 31) (by decide) (by kernel_rfl) ?_; unfold D48_5)); simp only [S, TY, reduceCtorEq, nq0, nq1, nq2, nq3, nq4, iq0, iq1, iq2, iq3, iq4, iq5, iq6, iq7, iq8, c2, d2, g1, g2, g3, s1, s2]; (try (simp (disch := omega) only [W2, Int.cast_ofNat_Int]; (try simp only [S, TY, reduceCtorEq, nq0, nq1, nq2, nq3, nq4, iq0, iq1, iq2, iq3, iq4, iq5, iq6, iq7, iq8, c2, d2, g1, g2, g3, s1, s2])))))
        refine ⟨⟨by omega, by omega⟩, fine _ ?_⟩
        rw [hbeg, Bool.eq_iff_iff, beq_iff_eq, decide_eq_true_eq]
        exact ⟨fun e => ⟨by omega, e⟩, fun e => e.2⟩
      · ((try simp only [S, TY, reduceCtorEq, nq0, nq1, nq2, nq3, nq4, iq0, iq1, iq2, iq3, iq4, iq5, iq6, iq7, iq8, c2, d2, g1, g2, g3]); (try (simp (disch := omega) only [W2, Int.cast_ofNat_Int]; (try simp only [S, TY, reduceCtorEq, nq0, nq1, nq2, nq3, nq4, iq0, iq1, iq2, iq3, iq4, iq5, iq6, iq7, iq8, c2, d2, g1, g2, g3]))); repeat ((first | (refine cl_drawi 1 D48_1 (List.range 9) (by decide) (by kernel_rfl) ?_; unfold D48_1) | (refine cl_drawi 3 D48_3 (List.range 9) (by decide) (by kernel_rfl) ?_; unfold D48_3) | (refine cl_drawi 5 D48_5 (List.range 31) (by decide) (by kernel_rfl) ?_; unfold D48_5)); simp only [S, TY, reduceCtorEq, nq0, nq1, nq2, nq3, nq4, iq0, iq1, iq2, iq3, iq4, iq5, iq6, iq7, iq8, c2, d2, g1, g2, g3]; (try (simp (disch := omega) only [W2, Int.cast_ofNat_Int]; (try simp only [S, TY, reduceCtorEq, nq0, nq1, nq2, nq3, nq4, iq0, iq1, iq2, iq3, iq4, iq5, iq6, iq7, iq8, c2, d2, g1, g2, g3])))))
        refine fine _ ?_
        rw [hbeg]
        exact (decide_eq_false fun e => g3 (by omega)).symm
    · ((try simp only [S, TY, reduceCtorEq, nq0, nq1, nq2, nq3, nq4, iq0, iq1, iq2, iq3, iq4, iq5, iq6, iq7, iq8, c2, d2, g1, g2]); (try (simp (disch := omega) only [W2, Int.cast_ofNat_Int]; (try simp only [S, TY, reduceCtorEq, nq0, nq1, nq2, nq3, nq4, iq0, iq1, iq2, iq3, iq4, iq5, iq6, iq7, iq8, c2, d2, g1, g2]))); repeat ((first | (refine cl_drawi 1 D48_1 (List.range 9) (by decide) (by kernel_rfl) ?_; unfold D48_1) | (refine cl_drawi 3 D48_3 (List.range 9) (by decide) (by kernel_rfl) ?_; unfold D48_3) | (refine cl_drawi 5 D48_5 (List.range 31) (by decide) (by kernel_rfl) ?_; unfold D48_5)); simp only [S, TY, reduceCtorEq, nq0, nq1, nq2, nq3, nq4, iq0, iq1, iq2, iq3, iq4, iq5, iq6, iq7, iq8, c2, d2, g1, g2]; (try (simp (disch := omega) only [W2, Int.cast_ofNat_Int]; (try simp only [S, TY, reduceCtorEq, nq0, nq1, nq2, nq3, nq4, iq0, iq1, iq2, iq3, iq4, iq5, iq6, iq7, iq8, c2, d2, g1, g2])))))
      refine fine _ ?_
      unfold beg; rw [if_pos g1, if_neg g2, Bool.eq_iff_iff, beq_iff_eq, decide_eq_true_eq]
      exact ⟨fun e => List.length_eq_zero_iff.1 (by omega), fun e => by rw [e]; rfl⟩
  · ((try simp only [S, TY, reduceCtorEq, nq0, nq1, nq2, nq3, nq4, iq0, iq1, iq2, iq3, iq4, iq5, iq6, iq7, iq8, c2, d2, g1]); (try (simp (disch := omega) only [W2, Int.cast_ofNat_Int]; (try simp only [S, TY, reduceCtorEq, nq0, nq1, nq2, nq3, nq4, iq0, iq1, iq2, iq3, iq4, iq5, iq6, iq7, iq8, c2, d2, g1]))); repeat ((first | (refine cl_drawi 1 D48_1 (List.range 9) (by decide) (by kernel_rfl) ?_; unfold D48_1) | (refine cl_drawi 3 D48_3 (List.range 9) (by decide) (by kernel_rfl) ?_; unfold D48_3) | (refine cl_drawi 5 D48_5 (List.range 31) (by decide) (by kernel_rfl) ?_; unfold D48_5)); simp only [S, TY, reduceCtorEq, nq0, nq1, nq2, nq3, nq4, iq0, iq1, iq2, iq3, iq4, iq5, iq6, iq7, iq8, c2, d2, g1]; (try (simp (disch := omega) only [W2, Int.cast_ofNat_Int]; (try simp only [S, TY, reduceCtorEq, nq0, nq1, nq2, nq3, nq4, iq0, iq1, iq2, iq3, iq4, iq5, iq6, iq7, iq8, c2, d2, g1])))))
    refine fine _ ?_
    unfold beg; rw [if_neg g1]
theorem blobs_app : ∀ {vs ws : List Value} {bs cs : List (List UInt8)} {H : Hp}, blobs vs bs H → blobs ws cs H → blobs (vs ++ ws) (bs ++ cs) H
  | [], _, [], _, _, _, k => k
  | _ :: _, _, _ :: _, _, _, h, k => ⟨h.1, blobs_app h.2 k⟩
  | [], _, _ :: _, _, _, h, _ => h.elim
  | _ :: _, _, [], _, _, h, _ => h.elim
theorem sg.blob_join {G H : Hp} {L : List Asn} {vs ws : List Value} {bs cs : List (List UInt8)} (h : sg G (blobs vs bs :: blobs ws cs :: L) H) : sg G (blobs (vs ++ ws) (bs ++ cs) :: L) H := by
  obtain ⟨h0, H1, H2, rfl, hd, h1, H3, H4, rfl, hd2, h3, h4⟩ := h
  obtain ⟨d1, d2⟩ := Hp.disj_un.1 hd
  refine ⟨h0, H1.un H3, H4, (Hp.un_assoc _ _ _).symm, Hp.un_disj.2 ⟨d2, hd2⟩, ?_, h4⟩
  have k1 : blobs vs bs (H1.un H3) := h1.mono un_le_l
  have k2 : blobs ws cs (H1.un H3) := h3.mono (un_le_r d1)
  exact blobs_app k1 k2
theorem take_ok {G : Hp} {p sp : Nat} {x : En} {iv ov lv u : Value} (l : Lt) (hu : rds G 1 u (bv l.b)) (hw : x.s.wf) (ho : x.o.length ≤ 2000000000000) :
    Con Try.prog G 137 [.pointer (some ⟨p, 0, none⟩), Lt.v l u] [eC p sp x.bt iv ov x.kn lv, sS sp x.s, own 5 1 iv (bv x.i), own 5 1 ov (bv x.o)]
      (fun r B => ∃ iv' ov', r = .bool (x.take l).2 ∧ B = [eC p sp x.bt iv' ov' (x.take l).1.kn lv, sS sp (x.take l).1.s, own 5 1 iv' (bv (x.take l).1.i), own 5 1 ov' (bv (x.take l).1.o)]) := by
  have hu0 := hu
  obtain ⟨ua, un, uc, rfl, _, _⟩ := hu.slice
  have hwt := Ses.wf_take hw l
  have hog := hw.g
  obtain ⟨r, hr⟩ : ∃ r, x.take l = r := ⟨_, rfl⟩
  rw [hr]
  unfold En.take at hr
  obtain ⟨xs, xbt, xi, xo, xkn, xl⟩ := x
  obtain ⟨lm, lp, lk, ls, lb⟩ := l
  simp only [Lt.v] at *
  refine Con.intro Try.func137 rfl (Nat.le_of_ble_eq_true (by kernel_rfl)) (by kernel_rfl) Try.results137 ?_
  intro H h
  obtain ⟨ia, i_n, ic, rfl, _, _⟩ := h.sl 2 rfl Rd_own
  obtain ⟨oa, on, oc, rfl, _, _⟩ := h.sl 3 rfl Rd_own
  ((try simp only [S, TY, reduceCtorEq, nq0, nq1, nq2, nq3, nq4, iq0, iq1, iq2, iq3, iq4, iq5, iq6, iq7, iq8]); (try (simp (disch := omega) only [W2, Int.cast_ofNat_Int]; (try simp only [S, TY, reduceCtorEq, nq0, nq1, nq2, nq3, nq4, iq0, iq1, iq2, iq3, iq4, iq5, iq6, iq7, iq8]))); repeat ((first | (refine cl_drawi 1 D137_1 ([0, 1, 2, 3, 4, 5, 6, 7, 10, 8, 9, 11]) (by decide) (by kernel_rfl) ?_; unfold D137_1) | (refine cl_drawi 11 D137_11 (List.range 14) (by decide) (by kernel_rfl) ?_; unfold D137_11)); simp only [S, TY, reduceCtorEq, nq0, nq1, nq2, nq3, nq4, iq0, iq1, iq2, iq3, iq4, iq5, iq6, iq7, iq8]; (try (simp (disch := omega) only [W2, Int.cast_ofNat_Int]; (try simp only [S, TY, reduceCtorEq, nq0, nq1, nq2, nq3, nq4, iq0, iq1, iq2, iq3, iq4, iq5, iq6, iq7, iq8])))))
  intro b3 hb3 hg3
  have h1 := h.new hb3 hg3 (.cells (ltl lm lp lk ls (.slice ua un uc)).toArray 62 (0, 0))
  have c1 := h1.ci 1 rfl
  have w1 := h1.li 0 rfl
  ((try simp only [S, TY, reduceCtorEq, nq0, nq1, nq2, nq3, nq4, iq0, iq1, iq2, iq3, iq4, iq5, iq6, iq7, iq8, c1, w1]); (try (simp (disch := omega) only [W2, Int.cast_ofNat_Int]; (try simp only [S, TY, reduceCtorEq, nq0, nq1, nq2, nq3, nq4, iq0, iq1, iq2, iq3, iq4, iq5, iq6, iq7, iq8, c1, w1]))); repeat ((first | (refine cl_drawi 1 D137_1 ([0, 1, 2, 3, 4, 5, 6, 7, 10, 8, 9, 11]) (by decide) (by kernel_rfl) ?_; unfold D137_1) | (refine cl_drawi 11 D137_11 (List.range 14) (by decide) (by kernel_rfl) ?_; unfold D137_11)); simp only [S, TY, reduceCtorEq, nq0, nq1, nq2, nq3, nq4, iq0, iq1, iq2, iq3, iq4, iq5, iq6, iq7, iq8, c1, w1]; (try (simp (disch := omega) only [W2, Int.cast_ofNat_Int]; (try simp only [S, TY, reduceCtorEq, nq0, nq1, nq2, nq3, nq4, iq0, iq1, iq2, iq3, iq4, iq5, iq6, iq7, iq8, c1, w1])))))
  refine (Take_ok ⟨lm, lp, lk, ls, lb⟩ hu0 hw).at_ h1 [2] _ rfl fun r1 B H2 hr1 h2 => ?_
  obtain ⟨t, rfl, rfl⟩ := hr1
  obtain ⟨res, hres⟩ : ∃ r, xs.take ⟨lm, lp, lk, ls, lb⟩ = r := ⟨_, rfl⟩
  rw [hres] at h2 hr ⊢
  obtain ⟨s', ⟨tb, tg, tr⟩, te⟩ := res
  simp only at h2 hr ⊢
  obtain ⟨ta, tn, tc, rfl, e1, _⟩ := h2.sl 0 rfl Rd_own
  rw [bv_length, Nat.mul_one] at e1
  simp only [front_eq, fronts_nil, fronts_cons, List.getElem?_cons_zero, List.getElem?_cons_succ, List.eraseIdx_cons_zero, List.eraseIdx_cons_succ, List.cons_append, List.nil_append, putL_cons, putL_nil, List.set_cons_zero, List.set_cons_succ, Nat.reduceAdd] at h2
  ((try simp only [S, TY, reduceCtorEq, nq0, nq1, nq2, nq3, nq4, iq0, iq1, iq2, iq3, iq4, iq5, iq6, iq7, iq8]); (try (simp (disch := omega) only [W2, Int.cast_ofNat_Int]; (try simp only [S, TY, reduceCtorEq, nq0, nq1, nq2, nq3, nq4, iq0, iq1, iq2, iq3, iq4, iq5, iq6, iq7, iq8]))); repeat ((first | (refine cl_drawi 1 D137_1 ([0, 1, 2, 3, 4, 5, 6, 7, 10, 8, 9, 11]) (by decide) (by kernel_rfl) ?_; unfold D137_1) | (refine cl_drawi 11 D137_11 (List.range 14) (by decide) (by kernel_rfl) ?_; unfold D137_11)); simp only [S, TY, reduceCtorEq, nq0, nq1, nq2, nq3, nq4, iq0, iq1, iq2, iq3, iq4, iq5, iq6, iq7, iq8]; (try (simp (disch := omega) only [W2, Int.cast_ofNat_Int]; (try simp only [S, TY, reduceCtorEq, nq0, nq1, nq2, nq3, nq4, iq0, iq1, iq2, iq3, iq4, iq5, iq6, iq7, iq8])))))
  intro b5 hb5 hg5
  have h3 := h2.new hb5 hg5 (.cells (tkl (.slice none 0 0) false false).toArray 91 (0, 0))
  ((try simp only [S, TY, reduceCtorEq, nq0, nq1, nq2, nq3, nq4, iq0, iq1, iq2, iq3, iq4, iq5, iq6, iq7, iq8]); (try (simp (disch := omega) only [W2, Int.cast_ofNat_Int]; (try simp only [S, TY, reduceCtorEq, nq0, nq1, nq2, nq3, nq4, iq0, iq1, iq2, iq3, iq4, iq5, iq6, iq7, iq8]))); repeat ((first | (refine cl_drawi 1 D137_1 ([0, 1, 2, 3, 4, 5, 6, 7, 10, 8, 9, 11]) (by decide) (by kernel_rfl) ?_; unfold D137_1) | (refine cl_drawi 11 D137_11 (List.range 14) (by decide) (by kernel_rfl) ?_; unfold D137_11)); simp only [S, TY, reduceCtorEq, nq0, nq1, nq2, nq3, nq4, iq0, iq1, iq2, iq3, iq4, iq5, iq6, iq7, iq8]; (try (simp (disch := omega) only [W2, Int.cast_ofNat_Int]; (try simp only [S, TY, reduceCtorEq, nq0, nq1, nq2, nq3, nq4, iq0, iq1, iq2, iq3, iq4, iq5, iq6, iq7, iq8])))))
  refine sg.st h3 rfl rfl fun H4 h4 => ?_
  simp only [front_eq, fronts_nil, fronts_cons, List.getElem?_cons_zero, List.getElem?_cons_succ, List.eraseIdx_cons_zero, List.eraseIdx_cons_succ, List.cons_append, List.nil_append, putL_cons, putL_nil, List.set_cons_zero, List.set_cons_succ, Nat.reduceAdd] at h4
  have c4 := h4.c0
  have d4 := h4.ci 3 rfl
  by_cases e0 : te = 0
  · subst e0
    rw [if_pos rfl] at hr
    cases tr with
    | true =>
      ((try simp only [S, TY, reduceCtorEq, nq0, nq1, nq2, nq3, nq4, iq0, iq1, iq2, iq3, iq4, iq5, iq6, iq7, iq8, c4, d4]); (try (simp (disch := omega) only [W2, Int.cast_ofNat_Int]; (try simp only [S, TY, reduceCtorEq, nq0, nq1, nq2, nq3, nq4, iq0, iq1, iq2, iq3, iq4, iq5, iq6, iq7, iq8, c4, d4]))); repeat ((first | (refine cl_drawi 1 D137_1 ([0, 1, 2, 3, 4, 5, 6, 7, 10, 8, 9, 11]) (by decide) (by kernel_rfl) ?_; unfold D137_1) | (refine cl_drawi 11 D137_11 (List.range 14) (by decide) (by kernel_rfl) ?_; unfold D137_11)); simp only [S, TY, reduceCtorEq, nq0, nq1, nq2, nq3, nq4, iq0, iq1, iq2, iq3, iq4, iq5, iq6, iq7, iq8, c4, d4]; (try (simp (disch := omega) only [W2, Int.cast_ofNat_Int]; (try simp only [S, TY, reduceCtorEq, nq0, nq1, nq2, nq3, nq4, iq0, iq1, iq2, iq3, iq4, iq5, iq6, iq7, iq8, c4, d4])))))
      refine sg.st (h4.front 4) rfl rfl fun H5 h5 => ?_
      simp only [front_eq, fronts_nil, fronts_cons, List.getElem?_cons_zero, List.getElem?_cons_succ, List.eraseIdx_cons_zero, List.eraseIdx_cons_succ, List.cons_append, List.nil_append, putL_cons, putL_nil, List.set_cons_zero, List.set_cons_succ, Nat.reduceAdd] at h5
      ((try simp only [S, TY, reduceCtorEq, nq0, nq1, nq2, nq3, nq4, iq0, iq1, iq2, iq3, iq4, iq5, iq6, iq7, iq8]); (try (simp (disch := omega) only [W2, Int.cast_ofNat_Int]; (try simp only [S, TY, reduceCtorEq, nq0, nq1, nq2, nq3, nq4, iq0, iq1, iq2, iq3, iq4, iq5, iq6, iq7, iq8]))); repeat ((first | (refine cl_drawi 1 D137_1 ([0, 1, 2, 3, 4, 5, 6, 7, 10, 8, 9, 11]) (by decide) (by kernel_rfl) ?_; unfold D137_1) | (refine cl_drawi 11 D137_11 (List.range 14) (by decide) (by kernel_rfl) ?_; unfold D137_11)); simp only [S, TY, reduceCtorEq, nq0, nq1, nq2, nq3, nq4, iq0, iq1, iq2, iq3, iq4, iq5, iq6, iq7, iq8]; (try (simp (disch := omega) only [W2, Int.cast_ofNat_Int]; (try simp only [S, TY, reduceCtorEq, nq0, nq1, nq2, nq3, nq4, iq0, iq1, iq2, iq3, iq4, iq5, iq6, iq7, iq8])))))
      refine sg.st h5 rfl rfl fun H6 h6 => ?_
      simp only [front_eq, fronts_nil, fronts_cons, List.getElem?_cons_zero, List.getElem?_cons_succ, List.eraseIdx_cons_zero, List.eraseIdx_cons_succ, List.cons_append, List.nil_append, putL_cons, putL_nil, List.set_cons_zero, List.set_cons_succ, Nat.reduceAdd] at h6
      have d6 := h6.ci 4 rfl
      ((try simp only [S, TY, reduceCtorEq, nq0, nq1, nq2, nq3, nq4, iq0, iq1, iq2, iq3, iq4, iq5, iq6, iq7, iq8, d6]); (try (simp (disch := omega) only [W2, Int.cast_ofNat_Int]; (try simp only [S, TY, reduceCtorEq, nq0, nq1, nq2, nq3, nq4, iq0, iq1, iq2, iq3, iq4, iq5, iq6, iq7, iq8, d6]))); repeat ((first | (refine cl_drawi 1 D137_1 ([0, 1, 2, 3, 4, 5, 6, 7, 10, 8, 9, 11]) (by decide) (by kernel_rfl) ?_; unfold D137_1) | (refine cl_drawi 11 D137_11 (List.range 14) (by decide) (by kernel_rfl) ?_; unfold D137_11)); simp only [S, TY, reduceCtorEq, nq0, nq1, nq2, nq3, nq4, iq0, iq1, iq2, iq3, iq4, iq5, iq6, iq7, iq8, d6]; (try (simp (disch := omega) only [W2, Int.cast_ofNat_Int]; (try simp only [S, TY, reduceCtorEq, nq0, nq1, nq2, nq3, nq4, iq0, iq1, iq2, iq3, iq4, iq5, iq6, iq7, iq8, d6])))))
      refine sg.st h6 rfl rfl fun H7 h7 => ?_
      simp only [front_eq, fronts_nil, fronts_cons, List.getElem?_cons_zero, List.getElem?_cons_succ, List.eraseIdx_cons_zero, List.eraseIdx_cons_succ, List.cons_append, List.nil_append, putL_cons, putL_nil, List.set_cons_zero, List.set_cons_succ, Nat.reduceAdd] at h7
      have h8 := (h7.front 5).tail
      replace h8 := (h8.front 5).tail
      replace h8 := ((h8.nil_ 5 1).nil_ 5 1).fronts [2, 2, 2, 2, 2, 1, 0]
      simp only [front_eq, fronts_nil, fronts_cons, List.getElem?_cons_zero, List.getElem?_cons_succ, List.eraseIdx_cons_zero, List.eraseIdx_cons_succ, List.cons_append, List.nil_append, putL_cons, putL_nil, List.set_cons_zero, List.set_cons_succ, Nat.reduceAdd] at h8
      have c8 := h8.c0
      have d8 := h8.ci 1 rfl
      ((try simp only [S, TY, reduceCtorEq, nq0, nq1, nq2, nq3, nq4, iq0, iq1, iq2, iq3, iq4, iq5, iq6, iq7, iq8, c8, d8]); (try (simp (disch := omega) only [W2, Int.cast_ofNat_Int]; (try simp only [S, TY, reduceCtorEq, nq0, nq1, nq2, nq3, nq4, iq0, iq1, iq2, iq3, iq4, iq5, iq6, iq7, iq8, c8, d8]))); repeat ((first | (refine cl_drawi 1 D137_1 ([0, 1, 2, 3, 4, 5, 6, 7, 10, 8, 9, 11]) (by decide) (by kernel_rfl) ?_; unfold D137_1) | (refine cl_drawi 11 D137_11 (List.range 14) (by decide) (by kernel_rfl) ?_; unfold D137_11)); simp only [S, TY, reduceCtorEq, nq0, nq1, nq2, nq3, nq4, iq0, iq1, iq2, iq3, iq4, iq5, iq6, iq7, iq8, c8, d8]; (try (simp (disch := omega) only [W2, Int.cast_ofNat_Int]; (try simp only [S, TY, reduceCtorEq, nq0, nq1, nq2, nq3, nq4, iq0, iq1, iq2, iq3, iq4, iq5, iq6, iq7, iq8, c8, d8])))))
      have c8 := h8.c0
      have d8 := h8.ci 1 rfl
      cases tg with
      | false =>
        simp only [Bool.false_eq_true, if_false, if_true] at hr
        subst hr
        ((try simp only [S, TY, reduceCtorEq, nq0, nq1, nq2, nq3, nq4, iq0, iq1, iq2, iq3, iq4, iq5, iq6, iq7, iq8, c8, d8]); (try (simp (disch := omega) only [W2, Int.cast_ofNat_Int]; (try simp only [S, TY, reduceCtorEq, nq0, nq1, nq2, nq3, nq4, iq0, iq1, iq2, iq3, iq4, iq5, iq6, iq7, iq8, c8, d8]))); repeat ((first | (refine cl_drawi 1 D137_1 ([0, 1, 2, 3, 4, 5, 6, 7, 10, 8, 9, 11]) (by decide) (by kernel_rfl) ?_; unfold D137_1) | (refine cl_drawi 11 D137_11 (List.range 14) (by decide) (by kernel_rfl) ?_; unfold D137_11)); simp only [S, TY, reduceCtorEq, nq0, nq1, nq2, nq3, nq4, iq0, iq1, iq2, iq3, iq4, iq5, iq6, iq7, iq8, c8, d8]; (try (simp (disch := omega) only [W2, Int.cast_ofNat_Int]; (try simp only [S, TY, reduceCtorEq, nq0, nq1, nq2, nq3, nq4, iq0, iq1, iq2, iq3, iq4, iq5, iq6, iq7, iq8, c8, d8])))))
        exact fin_take (B := [_, _, _, _]) (h8.fronts [0, 2, 3, 3]) ⟨_, _, rfl, rfl⟩
      | true =>
        by_cases g1 : tb.length = 1
        · obtain ⟨c, rfl⟩ := List.length_eq_one_iff.1 g1
          simp only [Bool.false_eq_true, if_false, if_true, List.length_cons, List.length_nil, Nat.zero_add] at hr
          subst hr
          obtain rfl : tn = 1 := by simp at e1; omega
          obtain ⟨k, off, rfl, e3⟩ := (h8.rdsi 2 rfl Rd_own).at1 (i := 0) (by omega)
          simp only [bv, List.map_cons, List.getElem?_cons_zero, Nat.add_zero] at e3
          ((try simp only [S, TY, reduceCtorEq, nq0, nq1, nq2, nq3, nq4, iq0, iq1, iq2, iq3, iq4, iq5, iq6, iq7, iq8, c8, d8, e3]); (try (simp (disch := omega) only [W2, Int.cast_ofNat_Int]; (try simp only [S, TY, reduceCtorEq, nq0, nq1, nq2, nq3, nq4, iq0, iq1, iq2, iq3, iq4, iq5, iq6, iq7, iq8, c8, d8, e3]))); repeat ((first | (refine cl_drawi 1 D137_1 ([0, 1, 2, 3, 4, 5, 6, 7, 10, 8, 9, 11]) (by decide) (by kernel_rfl) ?_; unfold D137_1) | (refine cl_drawi 11 D137_11 (List.range 14) (by decide) (by kernel_rfl) ?_; unfold D137_11)); simp only [S, TY, reduceCtorEq, nq0, nq1, nq2, nq3, nq4, iq0, iq1, iq2, iq3, iq4, iq5, iq6, iq7, iq8, c8, d8, e3]; (try (simp (disch := omega) only [W2, Int.cast_ofNat_Int]; (try simp only [S, TY, reduceCtorEq, nq0, nq1, nq2, nq3, nq4, iq0, iq1, iq2, iq3, iq4, iq5, iq6, iq7, iq8, c8, d8, e3])))))
          intro k9 hk9 hg9
          have h9 := h8.newsl (e := 5) (sz := 1) (n := 1) (xs := bv [c]) hk9 hg9 rfl
          have c9 := h9.ci 1 rfl
          have d9 := h9.ci 2 rfl
          obtain ⟨k', off', hk, e9⟩ := (h9.rdsi 3 rfl Rd_own).at1 (i := 0) (by omega)
          cases hk
          simp only [bv, List.map_cons, List.getElem?_cons_zero, Nat.add_zero] at e9
          ((try simp only [S, TY, reduceCtorEq, nq0, nq1, nq2, nq3, nq4, iq0, iq1, iq2, iq3, iq4, iq5, iq6, iq7, iq8, c8, d8, e3, c9, d9, e9]); (try (simp (disch := omega) only [W2, Int.cast_ofNat_Int]; (try simp only [S, TY, reduceCtorEq, nq0, nq1, nq2, nq3, nq4, iq0, iq1, iq2, iq3, iq4, iq5, iq6, iq7, iq8, c8, d8, e3, c9, d9, e9]))); repeat ((first | (refine cl_drawi 1 D137_1 ([0, 1, 2, 3, 4, 5, 6, 7, 10, 8, 9, 11]) (by decide) (by kernel_rfl) ?_; unfold D137_1) | (refine cl_drawi 11 D137_11 (List.range 14) (by decide) (by kernel_rfl) ?_; unfold D137_11)); simp only [S, TY, reduceCtorEq, nq0, nq1, nq2, nq3, nq4, iq0, iq1, iq2, iq3, iq4, iq5, iq6, iq7, iq8, c8, d8, e3, c9, d9, e9]; (try (simp (disch := omega) only [W2, Int.cast_ofNat_Int]; (try simp only [S, TY, reduceCtorEq, nq0, nq1, nq2, nq3, nq4, iq0, iq1, iq2, iq3, iq4, iq5, iq6, iq7, iq8, c8, d8, e3, c9, d9, e9])))))
          refine append_sl (show apI Try.prog 24 = some (5, 1, 1) from by kernel_rfl) (show slIs Try.prog 24 = true from by kernel_rfl) (h9.front 7) (h9.rdsi 0 rfl Rd_own) (bv_one _) (by simp [bv_length] <;> omega) fun w H10 h10 => ?_
          rw [show ([] : List Value) ++ bv [c] = bv ([] ++ [c]) from rfl] at h10
          simp only [front_eq, fronts_nil, fronts_cons, List.getElem?_cons_zero, List.getElem?_cons_succ, List.eraseIdx_cons_zero, List.eraseIdx_cons_succ, List.cons_append, List.nil_append, putL_cons, putL_nil, List.set_cons_zero, List.set_cons_succ, Nat.reduceAdd] at h10
          obtain ⟨wa, wn, wc, rfl, _, _⟩ := h10.sl 0 rfl Rd_own
          ((try simp only [S, TY, reduceCtorEq, nq0, nq1, nq2, nq3, nq4, iq0, iq1, iq2, iq3, iq4, iq5, iq6, iq7, iq8]); (try (simp (disch := omega) only [W2, Int.cast_ofNat_Int]; (try simp only [S, TY, reduceCtorEq, nq0, nq1, nq2, nq3, nq4, iq0, iq1, iq2, iq3, iq4, iq5, iq6, iq7, iq8]))); repeat ((first | (refine cl_drawi 1 D137_1 ([0, 1, 2, 3, 4, 5, 6, 7, 10, 8, 9, 11]) (by decide) (by kernel_rfl) ?_; unfold D137_1) | (refine cl_drawi 11 D137_11 (List.range 14) (by decide) (by kernel_rfl) ?_; unfold D137_11)); simp only [S, TY, reduceCtorEq, nq0, nq1, nq2, nq3, nq4, iq0, iq1, iq2, iq3, iq4, iq5, iq6, iq7, iq8]; (try (simp (disch := omega) only [W2, Int.cast_ofNat_Int]; (try simp only [S, TY, reduceCtorEq, nq0, nq1, nq2, nq3, nq4, iq0, iq1, iq2, iq3, iq4, iq5, iq6, iq7, iq8])))))
          refine sg.st (h10.front 2) rfl rfl fun H11 h11 => ?_
          simp only [front_eq, fronts_nil, fronts_cons, List.getElem?_cons_zero, List.getElem?_cons_succ, List.eraseIdx_cons_zero, List.eraseIdx_cons_succ, List.cons_append, List.nil_append, putL_cons, putL_nil, List.set_cons_zero, List.set_cons_succ, Nat.reduceAdd] at h11
          ((try simp only [S, TY, reduceCtorEq, nq0, nq1, nq2, nq3, nq4, iq0, iq1, iq2, iq3, iq4, iq5, iq6, iq7, iq8]); (try (simp (disch := omega) only [W2, Int.cast_ofNat_Int]; (try simp only [S, TY, reduceCtorEq, nq0, nq1, nq2, nq3, nq4, iq0, iq1, iq2, iq3, iq4, iq5, iq6, iq7, iq8]))); repeat ((first | (refine cl_drawi 1 D137_1 ([0, 1, 2, 3, 4, 5, 6, 7, 10, 8, 9, 11]) (by decide) (by kernel_rfl) ?_; unfold D137_1) | (refine cl_drawi 11 D137_11 (List.range 14) (by decide) (by kernel_rfl) ?_; unfold D137_11)); simp only [S, TY, reduceCtorEq, nq0, nq1, nq2, nq3, nq4, iq0, iq1, iq2, iq3, iq4, iq5, iq6, iq7, iq8]; (try (simp (disch := omega) only [W2, Int.cast_ofNat_Int]; (try simp only [S, TY, reduceCtorEq, nq0, nq1, nq2, nq3, nq4, iq0, iq1, iq2, iq3, iq4, iq5, iq6, iq7, iq8])))))
          exact fin_take (B := [_, _, _, _]) (h11.fronts [0, 4, 5, 0]) ⟨_, _, rfl, rfl⟩
        · simp only [Bool.false_eq_true, if_false, if_true, if_neg g1] at hr
          subst hr
          have g1' : ¬ (tn : Int) = 1 := by omega
          ((try simp only [S, TY, reduceCtorEq, nq0, nq1, nq2, nq3, nq4, iq0, iq1, iq2, iq3, iq4, iq5, iq6, iq7, iq8, c8, d8, g1']); (try (simp (disch := omega) only [W2, Int.cast_ofNat_Int]; (try simp only [S, TY, reduceCtorEq, nq0, nq1, nq2, nq3, nq4, iq0, iq1, iq2, iq3, iq4, iq5, iq6, iq7, iq8, c8, d8, g1']))); repeat ((first | (refine cl_drawi 1 D137_1 ([0, 1, 2, 3, 4, 5, 6, 7, 10, 8, 9, 11]) (by decide) (by kernel_rfl) ?_; unfold D137_1) | (refine cl_drawi 11 D137_11 (List.range 14) (by decide) (by kernel_rfl) ?_; unfold D137_11)); simp only [S, TY, reduceCtorEq, nq0, nq1, nq2, nq3, nq4, iq0, iq1, iq2, iq3, iq4, iq5, iq6, iq7, iq8, c8, d8, g1']; (try (simp (disch := omega) only [W2, Int.cast_ofNat_Int]; (try simp only [S, TY, reduceCtorEq, nq0, nq1, nq2, nq3, nq4, iq0, iq1, iq2, iq3, iq4, iq5, iq6, iq7, iq8, c8, d8, g1'])))))
          exact fin_take (B := [_, _, _, _]) (h8.fronts [0, 2, 3, 3]) ⟨_, _, rfl, rfl⟩
    | false =>
      have h8 := h4.front 4
      simp only [front_eq, fronts_nil, fronts_cons, List.getElem?_cons_zero, List.getElem?_cons_succ, List.eraseIdx_cons_zero, List.eraseIdx_cons_succ, List.cons_append, List.nil_append, putL_cons, putL_nil, List.set_cons_zero, List.set_cons_succ, Nat.reduceAdd] at h8
      have c8 := h8.c0
      have d8 := h8.ci 1 rfl
      have c8 := h8.c0
      have d8 := h8.ci 1 rfl
      cases tg with
      | false =>
        simp only [Bool.false_eq_true, if_false, if_true] at hr
        subst hr
        ((try simp only [S, TY, reduceCtorEq, nq0, nq1, nq2, nq3, nq4, iq0, iq1, iq2, iq3, iq4, iq5, iq6, iq7, iq8, c8, d8]); (try (simp (disch := omega) only [W2, Int.cast_ofNat_Int]; (try simp only [S, TY, reduceCtorEq, nq0, nq1, nq2, nq3, nq4, iq0, iq1, iq2, iq3, iq4, iq5, iq6, iq7, iq8, c8, d8]))); repeat ((first | (refine cl_drawi 1 D137_1 ([0, 1, 2, 3, 4, 5, 6, 7, 10, 8, 9, 11]) (by decide) (by kernel_rfl) ?_; unfold D137_1) | (refine cl_drawi 11 D137_11 (List.range 14) (by decide) (by kernel_rfl) ?_; unfold D137_11)); simp only [S, TY, reduceCtorEq, nq0, nq1, nq2, nq3, nq4, iq0, iq1, iq2, iq3, iq4, iq5, iq6, iq7, iq8, c8, d8]; (try (simp (disch := omega) only [W2, Int.cast_ofNat_Int]; (try simp only [S, TY, reduceCtorEq, nq0, nq1, nq2, nq3, nq4, iq0, iq1, iq2, iq3, iq4, iq5, iq6, iq7, iq8, c8, d8])))))
        exact fin_take (B := [_, _, _, _]) (h8.fronts [0, 2, 3, 3]) ⟨_, _, rfl, rfl⟩
      | true =>
        by_cases g1 : tb.length = 1
        · obtain ⟨c, rfl⟩ := List.length_eq_one_iff.1 g1
          simp only [Bool.false_eq_true, if_false, if_true, List.length_cons, List.length_nil, Nat.zero_add] at hr
          subst hr
          obtain rfl : tn = 1 := by simp at e1; omega
          obtain ⟨k, off, rfl, e3⟩ := (h8.rdsi 2 rfl Rd_own).at1 (i := 0) (by omega)
          simp only [bv, List.map_cons, List.getElem?_cons_zero, Nat.add_zero] at e3
          ((try simp only [S, TY, reduceCtorEq, nq0, nq1, nq2, nq3, nq4, iq0, iq1, iq2, iq3, iq4, iq5, iq6, iq7, iq8, c8, d8, e3]); (try (simp (disch := omega) only [W2, Int.cast_ofNat_Int]; (try simp only [S, TY, reduceCtorEq, nq0, nq1, nq2, nq3, nq4, iq0, iq1, iq2, iq3, iq4, iq5, iq6, iq7, iq8, c8, d8, e3]))); repeat ((first | (refine cl_drawi 1 D137_1 ([0, 1, 2, 3, 4, 5, 6, 7, 10, 8, 9, 11]) (by decide) (by kernel_rfl) ?_; unfold D137_1) | (refine cl_drawi 11 D137_11 (List.range 14) (by decide) (by kernel_rfl) ?_; unfold D137_11)); simp only [S, TY, reduceCtorEq, nq0, nq1, nq2, nq3, nq4, iq0, iq1, iq2, iq3, iq4, iq5, iq6, iq7, iq8, c8, d8, e3]; (try (simp (disch := omega) only [W2, Int.cast_ofNat_Int]; (try simp only [S, TY, reduceCtorEq, nq0, nq1, nq2, nq3, nq4, iq0, iq1, iq2, iq3, iq4, iq5, iq6, iq7, iq8, c8, d8, e3])))))
          intro k9 hk9 hg9
          have h9 := h8.newsl (e := 5) (sz := 1) (n := 1) (xs := bv [c]) hk9 hg9 rfl
          have c9 := h9.ci 1 rfl
          have d9 := h9.ci 2 rfl
          obtain ⟨k', off', hk, e9⟩ := (h9.rdsi 3 rfl Rd_own).at1 (i := 0) (by omega)
          cases hk
          simp only [bv, List.map_cons, List.getElem?_cons_zero, Nat.add_zero] at e9
          ((try simp only [S, TY, reduceCtorEq, nq0, nq1, nq2, nq3, nq4, iq0, iq1, iq2, iq3, iq4, iq5, iq6, iq7, iq8, c8, d8, e3, c9, d9, e9]); (try (simp (disch := omega) only [W2, Int.cast_ofNat_Int]; (try simp only [S, TY, reduceCtorEq, nq0, nq1, nq2, nq3, nq4, iq0, iq1, iq2, iq3, iq4, iq5, iq6, iq7, iq8, c8, d8, e3, c9, d9, e9]))); repeat ((first | (refine cl_drawi 1 D137_1 ([0, 1, 2, 3, 4, 5, 6, 7, 10, 8, 9, 11]) (by decide) (by kernel_rfl) ?_; unfold D137_1) | (refine cl_drawi 11 D137_11 (List.range 14) (by decide) (by kernel_rfl) ?_; unfold D137_11)); simp only [S, TY, reduceCtorEq, nq0, nq1, nq2, nq3, nq4, iq0, iq1, iq2, iq3, iq4, iq5, iq6, iq7, iq8, c8, d8, e3, c9, d9, e9]; (try (simp (disch := omega) only [W2, Int.cast_ofNat_Int]; (try simp only [S, TY, reduceCtorEq, nq0, nq1, nq2, nq3, nq4, iq0, iq1, iq2, iq3, iq4, iq5, iq6, iq7, iq8, c8, d8, e3, c9, d9, e9])))))
          refine append_sl (show apI Try.prog 24 = some (5, 1, 1) from by kernel_rfl) (show slIs Try.prog 24 = true from by kernel_rfl) (h9.front 7) (h9.rdsi 0 rfl Rd_own) (bv_one _) (by simp [bv_length] <;> omega) fun w H10 h10 => ?_
          rw [← bv_append] at h10
          simp only [front_eq, fronts_nil, fronts_cons, List.getElem?_cons_zero, List.getElem?_cons_succ, List.eraseIdx_cons_zero, List.eraseIdx_cons_succ, List.cons_append, List.nil_append, putL_cons, putL_nil, List.set_cons_zero, List.set_cons_succ, Nat.reduceAdd] at h10
          obtain ⟨wa, wn, wc, rfl, _, _⟩ := h10.sl 0 rfl Rd_own
          ((try simp only [S, TY, reduceCtorEq, nq0, nq1, nq2, nq3, nq4, iq0, iq1, iq2, iq3, iq4, iq5, iq6, iq7, iq8]); (try (simp (disch := omega) only [W2, Int.cast_ofNat_Int]; (try simp only [S, TY, reduceCtorEq, nq0, nq1, nq2, nq3, nq4, iq0, iq1, iq2, iq3, iq4, iq5, iq6, iq7, iq8]))); repeat ((first | (refine cl_drawi 1 D137_1 ([0, 1, 2, 3, 4, 5, 6, 7, 10, 8, 9, 11]) (by decide) (by kernel_rfl) ?_; unfold D137_1) | (refine cl_drawi 11 D137_11 (List.range 14) (by decide) (by kernel_rfl) ?_; unfold D137_11)); simp only [S, TY, reduceCtorEq, nq0, nq1, nq2, nq3, nq4, iq0, iq1, iq2, iq3, iq4, iq5, iq6, iq7, iq8]; (try (simp (disch := omega) only [W2, Int.cast_ofNat_Int]; (try simp only [S, TY, reduceCtorEq, nq0, nq1, nq2, nq3, nq4, iq0, iq1, iq2, iq3, iq4, iq5, iq6, iq7, iq8])))))
          refine sg.st (h10.front 2) rfl rfl fun H11 h11 => ?_
          simp only [front_eq, fronts_nil, fronts_cons, List.getElem?_cons_zero, List.getElem?_cons_succ, List.eraseIdx_cons_zero, List.eraseIdx_cons_succ, List.cons_append, List.nil_append, putL_cons, putL_nil, List.set_cons_zero, List.set_cons_succ, Nat.reduceAdd] at h11
          ((try simp only [S, TY, reduceCtorEq, nq0, nq1, nq2, nq3, nq4, iq0, iq1, iq2, iq3, iq4, iq5, iq6, iq7, iq8]); (try (simp (disch := omega) only [W2, Int.cast_ofNat_Int]; (try simp only [S, TY, reduceCtorEq, nq0, nq1, nq2, nq3, nq4, iq0, iq1, iq2, iq3, iq4, iq5, iq6, iq7, iq8]))); repeat ((first | (refine cl_drawi 1 D137_1 ([0, 1, 2, 3, 4, 5, 6, 7, 10, 8, 9, 11]) (by decide) (by kernel_rfl) ?_; unfold D137_1) | (refine cl_drawi 11 D137_11 (List.range 14) (by decide) (by kernel_rfl) ?_; unfold D137_11)); simp only [S, TY, reduceCtorEq, nq0, nq1, nq2, nq3, nq4, iq0, iq1, iq2, iq3, iq4, iq5, iq6, iq7, iq8]; (try (simp (disch := omega) only [W2, Int.cast_ofNat_Int]; (try simp only [S, TY, reduceCtorEq, nq0, nq1, nq2, nq3, nq4, iq0, iq1, iq2, iq3, iq4, iq5, iq6, iq7, iq8])))))
          exact fin_take (B := [_, _, _, _]) (h11.fronts [0, 4, 5, 0]) ⟨_, _, rfl, rfl⟩
        · simp only [Bool.false_eq_true, if_false, if_true, if_neg g1] at hr
          subst hr
          have g1' : ¬ (tn : Int) = 1 := by omega
          ((try simp only [S, TY, reduceCtorEq, nq0, nq1, nq2, nq3, nq4, iq0, iq1, iq2, iq3, iq4, iq5, iq6, iq7, iq8, c8, d8, g1']); (try (simp (disch := omega) only [W2, Int.cast_ofNat_Int]; (try simp only [S, TY, reduceCtorEq, nq0, nq1, nq2, nq3, nq4, iq0, iq1, iq2, iq3, iq4, iq5, iq6, iq7, iq8, c8, d8, g1']))); repeat ((first | (refine cl_drawi 1 D137_1 ([0, 1, 2, 3, 4, 5, 6, 7, 10, 8, 9, 11]) (by decide) (by kernel_rfl) ?_; unfold D137_1) | (refine cl_drawi 11 D137_11 (List.range 14) (by decide) (by kernel_rfl) ?_; unfold D137_11)); simp only [S, TY, reduceCtorEq, nq0, nq1, nq2, nq3, nq4, iq0, iq1, iq2, iq3, iq4, iq5, iq6, iq7, iq8, c8, d8, g1']; (try (simp (disch := omega) only [W2, Int.cast_ofNat_Int]; (try simp only [S, TY, reduceCtorEq, nq0, nq1, nq2, nq3, nq4, iq0, iq1, iq2, iq3, iq4, iq5, iq6, iq7, iq8, c8, d8, g1'])))))
          exact fin_take (B := [_, _, _, _]) (h8.fronts [0, 2, 3, 3]) ⟨_, _, rfl, rfl⟩
  · rw [if_neg e0] at hr
    subst hr
    ((try simp only [S, TY, reduceCtorEq, nq0, nq1, nq2, nq3, nq4, iq0, iq1, iq2, iq3, iq4, iq5, iq6, iq7, iq8, c4, d4, e0]); (try (simp (disch := omega) only [W2, Int.cast_ofNat_Int]; (try simp only [S, TY, reduceCtorEq, nq0, nq1, nq2, nq3, nq4, iq0, iq1, iq2, iq3, iq4, iq5, iq6, iq7, iq8, c4, d4, e0]))); repeat ((first | (refine cl_drawi 1 D137_1 ([0, 1, 2, 3, 4, 5, 6, 7, 10, 8, 9, 11]) (by decide) (by kernel_rfl) ?_; unfold D137_1) | (refine cl_drawi 11 D137_11 (List.range 14) (by decide) (by kernel_rfl) ?_; unfold D137_11)); simp only [S, TY, reduceCtorEq, nq0, nq1, nq2, nq3, nq4, iq0, iq1, iq2, iq3, iq4, iq5, iq6, iq7, iq8, c4, d4, e0]; (try (simp (disch := omega) only [W2, Int.cast_ofNat_Int]; (try simp only [S, TY, reduceCtorEq, nq0, nq1, nq2, nq3, nq4, iq0, iq1, iq2, iq3, iq4, iq5, iq6, iq7, iq8, c4, d4, e0])))))
    exact fin_take (B := [_, _, _, _]) (h4.fronts [4, 2, 3, 3]) ⟨_, _, rfl, rfl⟩
theorem take_bt (x : En) (l : Lt) : (x.take l).1.bt = x.bt ∧ (x.take l).1.l = x.l := by
  unfold En.take
  split
  · split
    · split
      · exact ⟨rfl, rfl⟩
      · exact ⟨rfl, rfl⟩
    · exact ⟨rfl, rfl⟩
  · exact ⟨rfl, rfl⟩
end Go.Proofs.Ytanhmbdcdbcfmaa.SeY
