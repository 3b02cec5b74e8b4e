/- The document's reader, over the machine. -/
import Derived.Test.YtanhmbdcdbcfmaaBufRe
set_option linter.unusedVariables false
set_option linter.unusedSimpArgs false
set_option maxRecDepth 10000
namespace Go.Proofs.Ytanhmbdcdbcfmaa.BufE
open Nat renaming reduceEqDiff → nq0, reduceAdd → nq1, reduceLeDiff → nq2, reduceBEq → nq3, reduceMul → nq4
open Int renaming reduceBEq → iq0, reduceEq → iq1, reduceLT → iq2, reduceLE → iq3, reduceAdd → iq4, reduceSub → iq5, reduceMul → iq6, reduceToNat → iq7, cast_ofNat_Int → iq8
open Go Go.Sl Go.Proofs Go.Proofs.Ytanhmbdcdbcfmaa.Buf Go.Proofs.Ytanhmbdcdbcfmaa.BufRd Go.Proofs.Ytanhmbdcdbcfmaa.BufRe
theorem TY : aggN Try.prog 3 = some none ∧
  aggN Try.prog 4 = some none ∧
  aggN Try.prog 5 = some none ∧
  aggN Try.prog 24 = some none ∧
  aggN Try.prog 238 = some (some 2) ∧
  apI Try.prog 24 = some (5, 1, 1) ∧
  bIs Try.prog 238 = true ∧
  boIs Try.prog 4 = true ∧
  bySl Try.prog 24 = true ∧
  csz Try.prog 3 = some 1 ∧
  csz Try.prog 4 = some 1 ∧
  csz Try.prog 5 = some 1 ∧
  csz Try.prog 24 = some 1 ∧
  csz Try.prog 238 = some 2 ∧
  fIs Try.prog 238 0 = true ∧
  fIs Try.prog 238 1 = true ∧
  fOff Try.prog 238 0 = 0 ∧
  fOff Try.prog 238 1 = 1 ∧
  fTy Try.prog 238 0 = 24 ∧
  fTy Try.prog 238 1 = 4 ∧
  inIs Try.prog 3 = some .i64 ∧
  inIs Try.prog 5 = some .u8 ∧
  plcs Try.prog 238 = [(0, 1), (1, 1)] ∧
  slEl Try.prog 24 = 5 ∧
  slIs Try.prog 24 = true ∧
  slSz Try.prog 24 = 1 ∧
  zcs Try.prog 238 = [.slice none 0 0, .bool false] ∧
  zro Try.prog 3 = some (.int .i64 0) ∧
  zro Try.prog 4 = some (.bool false) ∧
  zro Try.prog 5 = some (.int .u8 0) ∧
  zro Try.prog 24 = some (.slice none 0 0) ∧
  zro Try.prog 238 = some (.agg #[.slice none 0 0, .bool false]) :=
  ⟨by kernel_rfl, by kernel_rfl, by kernel_rfl, by kernel_rfl, by kernel_rfl, by kernel_rfl, by kernel_rfl, by kernel_rfl, by kernel_rfl, by kernel_rfl, by kernel_rfl, by kernel_rfl, by kernel_rfl, by kernel_rfl, by kernel_rfl, by kernel_rfl, by kernel_rfl, by kernel_rfl, by kernel_rfl, by kernel_rfl, by kernel_rfl, by kernel_rfl, by kernel_rfl, by kernel_rfl, by kernel_rfl, by kernel_rfl, by kernel_rfl, by kernel_rfl, by kernel_rfl, by kernel_rfl, by kernel_rfl, by kernel_rfl⟩
def isQ (p : Nat) (w : R) : Asn := fun H => ∃ s, seps [ob p (.cells #[s, .bool w.failed] 238 (0, 0)), own 5 1 s (bv w.b)] H
theorem isQ_open {G H : Hp} {p : Nat} {w : R} {L : List Asn} (h : sg G (isQ p w :: L) H) : ∃ sa sn sc, w.b.length = sn ∧ sn ≤ sc ∧
    sg G (ob p (.cells #[.slice sa sn sc, .bool w.failed] 238 (0, 0)) :: own 5 1 (.slice sa sn sc) (bv w.b) :: L) H := by
  obtain ⟨hd, H1, H2, rfl, hd2, ⟨s, h1⟩, h2⟩ := h
  have h3 : sg G (ob p (.cells #[s, .bool w.failed] 238 (0, 0)) :: own 5 1 s (bv w.b) :: L) (H1.un H2) := ⟨hd, seps_append.2 ⟨H1, H2, rfl, hd2, h1, h2⟩⟩
  obtain ⟨sa, sn, sc, rfl, e1, e2⟩ := h3.sl 1 rfl Rd_own
  rw [bv_length] at e1
  exact ⟨sa, sn, sc, by omega, e2, h3⟩
theorem isQ_shut {G H : Hp} {p : Nat} {w : R} {s : Value} {L : List Asn} (h : sg G (ob p (.cells #[s, .bool w.failed] 238 (0, 0)) :: own 5 1 s (bv w.b) :: L) H) : sg G (isQ p w :: L) H :=
  h.shut (M := [ob p (.cells #[s, .bool w.failed] 238 (0, 0)), own 5 1 s (bv w.b)]) fun H _ h => ⟨s, h⟩
theorem vget_ok {G : Hp} {p : Nat} {r : R} (n : Int) (hl : r.b.length ≤ 70368744177664) :
    Con Try.prog G 129 [.pointer (some ⟨p, 0, none⟩), .int .i64 n] [isQ p r] (fun v B => v = .int .i64 (r.get n).2 ∧ B = [isQ p (r.get n).1]) := by
  obtain ⟨res, hres⟩ : ∃ res, r.get n = res := ⟨_, rfl⟩
  rw [hres]
  refine Con.intro Try.func129 rfl (Nat.le_of_ble_eq_true (by kernel_rfl)) (by kernel_rfl) Try.results129 ?_
  intro H hH
  obtain ⟨sa, sn, sc, f1, f2, h⟩ := isQ_open hH
  have c := h.c0
  obtain ⟨b, failed⟩ := r
  have f1' : b.length = sn := f1
  have stop : (R.mk b failed).bad n → ∀ H2, sg G [ob p (.cells #[.slice sa sn sc, .bool true] 238 (0, 0)), own 5 1 (.slice sa sn sc) (bv b)] H2 →
      fin (fun v B => v = .int .i64 res.2 ∧ B = [isQ p res.1]) (.returned (.int .i64 0)) H2 := by
    intro hb H2 h2
    have : res = (⟨b, true⟩, 0) := by rw [← hres]; unfold R.get; rw [if_pos hb]
    subst this
    exact fin_ret (isQ_shut (w := ⟨b, true⟩) h2) ⟨rfl, rfl⟩
  cases failed with
  | true =>
    ((try simp only [S, TY, reduceCtorEq, nq0, nq1, nq2, nq3, nq4, iq0, iq1, iq2, iq3, iq4, iq5, iq6, iq7, iq8, c]); (try (simp (disch := omega) only [W2, Int.cast_ofNat_Int]; (try simp only [S, TY, reduceCtorEq, nq0, nq1, nq2, nq3, nq4, iq0, iq1, iq2, iq3, iq4, iq5, iq6, iq7, iq8, c]))))
    refine sg.st h rfl rfl fun H2 h2 => ?_
    simp only [front_eq, fronts_nil, fronts_cons, List.getElem?_cons_zero, List.getElem?_cons_succ, List.eraseIdx_cons_zero, List.eraseIdx_cons_succ, List.cons_append, List.nil_append, putL_cons, putL_nil, List.set_cons_zero, List.set_cons_succ, Nat.reduceAdd] at h2
    ((try simp only [S, TY, reduceCtorEq, nq0, nq1, nq2, nq3, nq4, iq0, iq1, iq2, iq3, iq4, iq5, iq6, iq7, iq8]); (try (simp (disch := omega) only [W2, Int.cast_ofNat_Int]; (try simp only [S, TY, reduceCtorEq, nq0, nq1, nq2, nq3, nq4, iq0, iq1, iq2, iq3, iq4, iq5, iq6, iq7, iq8]))))
    exact stop (by unfold R.bad; simp) _ h2
  | false =>
    by_cases a1 : n < 1
    · ((try simp only [S, TY, reduceCtorEq, nq0, nq1, nq2, nq3, nq4, iq0, iq1, iq2, iq3, iq4, iq5, iq6, iq7, iq8, c, a1]); (try (simp (disch := omega) only [W2, Int.cast_ofNat_Int]; (try simp only [S, TY, reduceCtorEq, nq0, nq1, nq2, nq3, nq4, iq0, iq1, iq2, iq3, iq4, iq5, iq6, iq7, iq8, c, a1]))))
      refine sg.st h rfl rfl fun H2 h2 => ?_
      simp only [front_eq, fronts_nil, fronts_cons, List.getElem?_cons_zero, List.getElem?_cons_succ, List.eraseIdx_cons_zero, List.eraseIdx_cons_succ, List.cons_append, List.nil_append, putL_cons, putL_nil, List.set_cons_zero, List.set_cons_succ, Nat.reduceAdd] at h2
      ((try simp only [S, TY, reduceCtorEq, nq0, nq1, nq2, nq3, nq4, iq0, iq1, iq2, iq3, iq4, iq5, iq6, iq7, iq8]); (try (simp (disch := omega) only [W2, Int.cast_ofNat_Int]; (try simp only [S, TY, reduceCtorEq, nq0, nq1, nq2, nq3, nq4, iq0, iq1, iq2, iq3, iq4, iq5, iq6, iq7, iq8]))))
      exact stop (by unfold R.bad; omega) _ h2
    by_cases a2 : 8 < n
    · ((try simp only [S, TY, reduceCtorEq, nq0, nq1, nq2, nq3, nq4, iq0, iq1, iq2, iq3, iq4, iq5, iq6, iq7, iq8, c, a1, a2]); (try (simp (disch := omega) only [W2, Int.cast_ofNat_Int]; (try simp only [S, TY, reduceCtorEq, nq0, nq1, nq2, nq3, nq4, iq0, iq1, iq2, iq3, iq4, iq5, iq6, iq7, iq8, c, a1, a2]))))
      refine sg.st h rfl rfl fun H2 h2 => ?_
      simp only [front_eq, fronts_nil, fronts_cons, List.getElem?_cons_zero, List.getElem?_cons_succ, List.eraseIdx_cons_zero, List.eraseIdx_cons_succ, List.cons_append, List.nil_append, putL_cons, putL_nil, List.set_cons_zero, List.set_cons_succ, Nat.reduceAdd] at h2
      ((try simp only [S, TY, reduceCtorEq, nq0, nq1, nq2, nq3, nq4, iq0, iq1, iq2, iq3, iq4, iq5, iq6, iq7, iq8]); (try (simp (disch := omega) only [W2, Int.cast_ofNat_Int]; (try simp only [S, TY, reduceCtorEq, nq0, nq1, nq2, nq3, nq4, iq0, iq1, iq2, iq3, iq4, iq5, iq6, iq7, iq8]))))
      exact stop (by unfold R.bad; omega) _ h2
    by_cases a3 : (sn : Int) < n
    · ((try simp only [S, TY, reduceCtorEq, nq0, nq1, nq2, nq3, nq4, iq0, iq1, iq2, iq3, iq4, iq5, iq6, iq7, iq8, c, a1, a2, a3]); (try (simp (disch := omega) only [W2, Int.cast_ofNat_Int]; (try simp only [S, TY, reduceCtorEq, nq0, nq1, nq2, nq3, nq4, iq0, iq1, iq2, iq3, iq4, iq5, iq6, iq7, iq8, c, a1, a2, a3]))))
      refine sg.st h rfl rfl fun H2 h2 => ?_
      simp only [front_eq, fronts_nil, fronts_cons, List.getElem?_cons_zero, List.getElem?_cons_succ, List.eraseIdx_cons_zero, List.eraseIdx_cons_succ, List.cons_append, List.nil_append, putL_cons, putL_nil, List.set_cons_zero, List.set_cons_succ, Nat.reduceAdd] at h2
      ((try simp only [S, TY, reduceCtorEq, nq0, nq1, nq2, nq3, nq4, iq0, iq1, iq2, iq3, iq4, iq5, iq6, iq7, iq8]); (try (simp (disch := omega) only [W2, Int.cast_ofNat_Int]; (try simp only [S, TY, reduceCtorEq, nq0, nq1, nq2, nq3, nq4, iq0, iq1, iq2, iq3, iq4, iq5, iq6, iq7, iq8]))))
      exact stop (by unfold R.bad; simp only; omega) _ h2
    obtain ⟨N, rfl⟩ : ∃ N : Nat, n = N := ⟨n.toNat, by omega⟩
    obtain ⟨bk, off, rfl, d1⟩ := (h.rdsi 1 rfl Rd_own).at1 (i := 0) (by omega)
    obtain ⟨x, b', rfl⟩ : ∃ x b', b = x :: b' := by
      cases b with
      | nil => simp at f1'; omega
      | cons x b' => exact ⟨x, b', rfl⟩
    have d2 : (bv (x :: b'))[0]? = some (.int .u8 x.toNat) := rfl
    rw [d2, Nat.add_zero] at d1
    have a0 : (0 : Int) < sn := by omega
    have rest : (¬ (N = 8 ∧ 128 ≤ x.toNat)) → ¬ (R.mk (x :: b') false).bad N := by
      intro h
      unfold R.bad
      simp only [List.headD_cons]
      rintro (g | g | g | g | ⟨g, g'⟩)
      · cases g
      · omega
      · omega
      · omega
      · exact h ⟨by omega, g'⟩
    by_cases a4 : (N : Int) = 8
    · have a4' : ((N : Int) = 8) = True := eq_true a4
      by_cases a5 : (127 : Int) < x.toNat
      · ((try simp only [S, TY, reduceCtorEq, nq0, nq1, nq2, nq3, nq4, iq0, iq1, iq2, iq3, iq4, iq5, iq6, iq7, iq8, c, a1, a2, a3, a4', a0, d1, a5]); (try (simp (disch := omega) only [W2, Int.cast_ofNat_Int]; (try simp only [S, TY, reduceCtorEq, nq0, nq1, nq2, nq3, nq4, iq0, iq1, iq2, iq3, iq4, iq5, iq6, iq7, iq8, c, a1, a2, a3, a4', a0, d1, a5]))))
        refine sg.st h rfl rfl fun H2 h2 => ?_
        simp only [front_eq, fronts_nil, fronts_cons, List.getElem?_cons_zero, List.getElem?_cons_succ, List.eraseIdx_cons_zero, List.eraseIdx_cons_succ, List.cons_append, List.nil_append, putL_cons, putL_nil, List.set_cons_zero, List.set_cons_succ, Nat.reduceAdd] at h2
        ((try simp only [S, TY, reduceCtorEq, nq0, nq1, nq2, nq3, nq4, iq0, iq1, iq2, iq3, iq4, iq5, iq6, iq7, iq8]); (try (simp (disch := omega) only [W2, Int.cast_ofNat_Int]; (try simp only [S, TY, reduceCtorEq, nq0, nq1, nq2, nq3, nq4, iq0, iq1, iq2, iq3, iq4, iq5, iq6, iq7, iq8]))))
        exact stop (by unfold R.bad; simp only [List.headD_cons]; omega) _ h2
      · ((try simp only [S, TY, reduceCtorEq, nq0, nq1, nq2, nq3, nq4, iq0, iq1, iq2, iq3, iq4, iq5, iq6, iq7, iq8, c, a1, a2, a3, a4', a0, d1, a5]); (try (simp (disch := omega) only [W2, Int.cast_ofNat_Int]; (try simp only [S, TY, reduceCtorEq, nq0, nq1, nq2, nq3, nq4, iq0, iq1, iq2, iq3, iq4, iq5, iq6, iq7, iq8, c, a1, a2, a3, a4', a0, d1, a5]))))
        refine cl_loop (fun i e H => i ≤ N ∧ e 0 = .pointer (some ⟨p, 0, none⟩) ∧ e 1 = .int .i64 N ∧ e 6 = .int .i64 i ∧ e 5 = .int .i64 (val ((x :: b').take i)) ∧
          sg G [ob p (.cells #[.slice (some ⟨bk, off, none⟩) sn sc, .bool false] 238 (0, 0)), own 5 1 (.slice (some ⟨bk, off, none⟩) sn sc) (bv (x :: b'))] H) (fun i => N - i) 0
          ⟨by omega, rfl, rfl, rfl, rfl, h⟩ ?_
        rintro i e H ⟨q0, q1, q2, q3, q4, hH⟩
        have cc := hH.c0
        by_cases g1 : (i : Int) < N
        · have g0 : (0 : Int) ≤ i ∧ (i : Int) < sn := ⟨by omega, by omega⟩
          obtain ⟨bk', off', hbk, c1⟩ := (hH.rdsi 1 rfl Rd_own).at1 (i := i) (by omega)
          cases hbk
          have hil : i < (x :: b').length := by omega
          have c2 : (bv (x :: b'))[i]? = some (.int .u8 ((x :: b')[i]).toNat) := by unfold bv; rw [List.getElem?_map, List.getElem?_eq_getElem hil]; rfl
          rw [c2] at c1
          have hv1 := val_lt ((x :: b').take (i + 1))
          rw [List.length_take, Nat.min_eq_left (by omega)] at hv1
          have hsn : val ((x :: b').take (i + 1)) = 256 * val ((x :: b').take i) + ((x :: b')[i]).toNat := by rw [List.take_succ_eq_append_getElem hil, val_snoc]
          have hb63 : val ((x :: b').take (i + 1)) < 9223372036854775808 := by
            by_cases hi8 : i + 1 ≤ 7
            · have := Nat.pow_le_pow_right (show 0 < 256 by decide) hi8
              have h7 : 256 ^ 7 = 72057594037927936 := by decide
              omega
            · obtain rfl : i = 7 := by omega
              have l7 : ((x :: b').take (7 + 1)) = x :: b'.take 7 := rfl
              rw [l7, val_cons, List.length_take, Nat.min_eq_left (by simp at hil; omega)]
              have h7 : 256 ^ 7 = 72057594037927936 := by decide
              have := val_lt (b'.take 7)
              rw [List.length_take, Nat.min_eq_left (by simp at hil; omega), h7] at this
              rw [h7]
              have : x.toNat ≤ 127 := by omega
              omega
          have hc := ((x :: b')[i]).toNat_lt
          ((try simp only [S, TY, reduceCtorEq, nq0, nq1, nq2, nq3, nq4, iq0, iq1, iq2, iq3, iq4, iq5, iq6, iq7, iq8, q1, q2, q3, q4, g1, g0, c1, cc]); (try (simp (disch := omega) only [W2, Int.cast_ofNat_Int]; (try simp only [S, TY, reduceCtorEq, nq0, nq1, nq2, nq3, nq4, iq0, iq1, iq2, iq3, iq4, iq5, iq6, iq7, iq8, q1, q2, q3, q4, g1, g0, c1, cc]))))
          refine .go (i + 1) (by omega) ⟨by omega, q1, q2, rfl, ?_, hH⟩
          show Value.int .i64 (256 * (val ((x :: b').take i) : Int) + (((x :: b')[i]).toNat : Int)) = _
          rw [hsn]; congr 1
        · have w1 : (0 : Int) ≤ N := by omega
          have w2 : (N : Int) ≤ sn := by omega
          ((try simp only [S, TY, reduceCtorEq, nq0, nq1, nq2, nq3, nq4, iq0, iq1, iq2, iq3, iq4, iq5, iq6, iq7, iq8, q1, q2, q3, q4, g1, cc, w1, w2]); (try (simp (disch := omega) only [W2, Int.cast_ofNat_Int]; (try simp only [S, TY, reduceCtorEq, nq0, nq1, nq2, nq3, nq4, iq0, iq1, iq2, iq3, iq4, iq5, iq6, iq7, iq8, q1, q2, q3, q4, g1, cc, w1, w2]))))
          refine sg.st hH rfl rfl fun H2 h2 => ?_
          simp only [front_eq, fronts_nil, fronts_cons, List.getElem?_cons_zero, List.getElem?_cons_succ, List.eraseIdx_cons_zero, List.eraseIdx_cons_succ, List.cons_append, List.nil_append, putL_cons, putL_nil, List.set_cons_zero, List.set_cons_succ, Nat.reduceAdd] at h2
          ((try simp only [S, TY, reduceCtorEq, nq0, nq1, nq2, nq3, nq4, iq0, iq1, iq2, iq3, iq4, iq5, iq6, iq7, iq8, q1, q2, q3, q4]); (try (simp (disch := omega) only [W2, Int.cast_ofNat_Int]; (try simp only [S, TY, reduceCtorEq, nq0, nq1, nq2, nq3, nq4, iq0, iq1, iq2, iq3, iq4, iq5, iq6, iq7, iq8, q1, q2, q3, q4]))))
          obtain rfl : i = N := by omega
          have h5 := own_drop (h2.front 1) i (by omega)
          rw [Nat.mul_one, ← bv_drop] at h5
          simp only [addr_mk, Option.map_some, Nat.mul_one] at h5
          have nb : ¬ (R.mk (x :: b') false).bad i := rest (by omega)
          have : res = (⟨(x :: b').drop i, false⟩, val ((x :: b').take i)) := by rw [← hres]; unfold R.get; rw [if_neg nb]; rfl
          subst this
          exact fin_ret (isQ_shut (w := ⟨(x :: b').drop i, false⟩) (h5.front 1)) ⟨rfl, rfl⟩
    · ((try simp only [S, TY, reduceCtorEq, nq0, nq1, nq2, nq3, nq4, iq0, iq1, iq2, iq3, iq4, iq5, iq6, iq7, iq8, c, a1, a2, a3, a4, a0, d1]); (try (simp (disch := omega) only [W2, Int.cast_ofNat_Int]; (try simp only [S, TY, reduceCtorEq, nq0, nq1, nq2, nq3, nq4, iq0, iq1, iq2, iq3, iq4, iq5, iq6, iq7, iq8, c, a1, a2, a3, a4, a0, d1]))))
      · refine cl_loop (fun i e H => i ≤ N ∧ e 0 = .pointer (some ⟨p, 0, none⟩) ∧ e 1 = .int .i64 N ∧ e 6 = .int .i64 i ∧ e 5 = .int .i64 (val ((x :: b').take i)) ∧
          sg G [ob p (.cells #[.slice (some ⟨bk, off, none⟩) sn sc, .bool false] 238 (0, 0)), own 5 1 (.slice (some ⟨bk, off, none⟩) sn sc) (bv (x :: b'))] H) (fun i => N - i) 0
          ⟨by omega, rfl, rfl, rfl, rfl, h⟩ ?_
        rintro i e H ⟨q0, q1, q2, q3, q4, hH⟩
        have cc := hH.c0
        by_cases g1 : (i : Int) < N
        · have g0 : (0 : Int) ≤ i ∧ (i : Int) < sn := ⟨by omega, by omega⟩
          obtain ⟨bk', off', hbk, c1⟩ := (hH.rdsi 1 rfl Rd_own).at1 (i := i) (by omega)
          cases hbk
          have hil : i < (x :: b').length := by omega
          have c2 : (bv (x :: b'))[i]? = some (.int .u8 ((x :: b')[i]).toNat) := by unfold bv; rw [List.getElem?_map, List.getElem?_eq_getElem hil]; rfl
          rw [c2] at c1
          have hv1 := val_lt ((x :: b').take (i + 1))
          rw [List.length_take, Nat.min_eq_left (by omega)] at hv1
          have hsn : val ((x :: b').take (i + 1)) = 256 * val ((x :: b').take i) + ((x :: b')[i]).toNat := by rw [List.take_succ_eq_append_getElem hil, val_snoc]
          have hb63 : val ((x :: b').take (i + 1)) < 9223372036854775808 := by
            have := Nat.pow_le_pow_right (show 0 < 256 by decide) (show i + 1 ≤ 7 by omega)
            have h7 : 256 ^ 7 = 72057594037927936 := by decide
            omega
          have hc := ((x :: b')[i]).toNat_lt
          ((try simp only [S, TY, reduceCtorEq, nq0, nq1, nq2, nq3, nq4, iq0, iq1, iq2, iq3, iq4, iq5, iq6, iq7, iq8, q1, q2, q3, q4, g1, g0, c1, cc]); (try (simp (disch := omega) only [W2, Int.cast_ofNat_Int]; (try simp only [S, TY, reduceCtorEq, nq0, nq1, nq2, nq3, nq4, iq0, iq1, iq2, iq3, iq4, iq5, iq6, iq7, iq8, q1, q2, q3, q4, g1, g0, c1, cc]))))
          refine .go (i + 1) (by omega) ⟨by omega, q1, q2, rfl, ?_, hH⟩
          show Value.int .i64 (256 * (val ((x :: b').take i) : Int) + (((x :: b')[i]).toNat : Int)) = _
          rw [hsn]; congr 1
        · have w1 : (0 : Int) ≤ N := by omega
          have w2 : (N : Int) ≤ sn := by omega
          ((try simp only [S, TY, reduceCtorEq, nq0, nq1, nq2, nq3, nq4, iq0, iq1, iq2, iq3, iq4, iq5, iq6, iq7, iq8, q1, q2, q3, q4, g1, cc, w1, w2]); (try (simp (disch := omega) only [W2, Int.cast_ofNat_Int]; (try simp only [S, TY, reduceCtorEq, nq0, nq1, nq2, nq3, nq4, iq0, iq1, iq2, iq3, iq4, iq5, iq6, iq7, iq8, q1, q2, q3, q4, g1, cc, w1, w2]))))
          refine sg.st hH rfl rfl fun H2 h2 => ?_
          simp only [front_eq, fronts_nil, fronts_cons, List.getElem?_cons_zero, List.getElem?_cons_succ, List.eraseIdx_cons_zero, List.eraseIdx_cons_succ, List.cons_append, List.nil_append, putL_cons, putL_nil, List.set_cons_zero, List.set_cons_succ, Nat.reduceAdd] at h2
          ((try simp only [S, TY, reduceCtorEq, nq0, nq1, nq2, nq3, nq4, iq0, iq1, iq2, iq3, iq4, iq5, iq6, iq7, iq8, q1, q2, q3, q4]); (try (simp (disch := omega) only [W2, Int.cast_ofNat_Int]; (try simp only [S, TY, reduceCtorEq, nq0, nq1, nq2, nq3, nq4, iq0, iq1, iq2, iq3, iq4, iq5, iq6, iq7, iq8, q1, q2, q3, q4]))))
          obtain rfl : i = N := by omega
          have h5 := own_drop (h2.front 1) i (by omega)
          rw [Nat.mul_one, ← bv_drop] at h5
          simp only [addr_mk, Option.map_some, Nat.mul_one] at h5
          have nb : ¬ (R.mk (x :: b') false).bad i := rest (by omega)
          have : res = (⟨(x :: b').drop i, false⟩, val ((x :: b').take i)) := by rw [← hres]; unfold R.get; rw [if_neg nb]; rfl
          subst this
          exact fin_ret (isQ_shut (w := ⟨(x :: b').drop i, false⟩) (h5.front 1)) ⟨rfl, rfl⟩
end Go.Proofs.Ytanhmbdcdbcfmaa.BufE
