/- The document's reader: Bytes, Rest, Done, over the machine. -/
import Derived.Test.YtanhmbdcdbcfmaaBufE
set_option linter.unusedVariables false
set_option linter.unusedSimpArgs false
set_option maxRecDepth 10000
namespace Go.Proofs.Ytanhmbdcdbcfmaa.BufF
open Nat renaming reduceEqDiff → nq0, reduceAdd → nq1, reduceLeDiff → nq2, reduceBEq → nq3, reduceMul → nq4
open Int renaming reduceBEq → iq0, reduceEq → iq1, reduceLT → iq2, reduceLE → iq3, reduceAdd → iq4, reduceSub → iq5, reduceMul → iq6, reduceToNat → iq7, cast_ofNat_Int → iq8
open Go Go.Sl Go.Proofs Go.Proofs.Ytanhmbdcdbcfmaa.Buf Go.Proofs.Ytanhmbdcdbcfmaa.BufRd Go.Proofs.Ytanhmbdcdbcfmaa.BufRe Go.Proofs.Ytanhmbdcdbcfmaa.BufE
theorem TY : aggN Try.prog 3 = some none ∧
  aggN Try.prog 4 = some none ∧
  aggN Try.prog 5 = some none ∧
  aggN Try.prog 24 = some none ∧
  aggN Try.prog 236 = some none ∧
  aggN Try.prog 238 = some (some 2) ∧
  apI Try.prog 24 = some (5, 1, 1) ∧
  bIs Try.prog 238 = true ∧
  boIs Try.prog 4 = true ∧
  bySl Try.prog 24 = true ∧
  csz Try.prog 3 = some 1 ∧
  csz Try.prog 4 = some 1 ∧
  csz Try.prog 5 = some 1 ∧
  csz Try.prog 24 = some 1 ∧
  csz Try.prog 236 = some 1 ∧
  csz Try.prog 238 = some 2 ∧
  fIs Try.prog 238 0 = true ∧
  fIs Try.prog 238 1 = true ∧
  fOff Try.prog 238 0 = 0 ∧
  fOff Try.prog 238 1 = 1 ∧
  fTy Try.prog 238 0 = 24 ∧
  fTy Try.prog 238 1 = 4 ∧
  goes Try.prog 129 = true ∧
  inIs Try.prog 3 = some .i64 ∧
  inIs Try.prog 5 = some .u8 ∧
  plcs Try.prog 238 = [(0, 1), (1, 1)] ∧
  ptIs Try.prog 236 = true ∧
  slEl Try.prog 24 = 5 ∧
  slIs Try.prog 24 = true ∧
  slSz Try.prog 24 = 1 ∧
  zcs Try.prog 238 = [.slice none 0 0, .bool false] ∧
  zro Try.prog 3 = some (.int .i64 0) ∧
  zro Try.prog 4 = some (.bool false) ∧
  zro Try.prog 5 = some (.int .u8 0) ∧
  zro Try.prog 24 = some (.slice none 0 0) ∧
  zro Try.prog 236 = some (.pointer none) ∧
  zro Try.prog 238 = some (.agg #[.slice none 0 0, .bool false]) :=
  ⟨by kernel_rfl, by kernel_rfl, by kernel_rfl, by kernel_rfl, by kernel_rfl, by kernel_rfl, by kernel_rfl, by kernel_rfl, by kernel_rfl, by kernel_rfl, by kernel_rfl, by kernel_rfl, by kernel_rfl, by kernel_rfl, by kernel_rfl, by kernel_rfl, by kernel_rfl, by kernel_rfl, by kernel_rfl, by kernel_rfl, by kernel_rfl, by kernel_rfl, by kernel_rfl, by kernel_rfl, by kernel_rfl, by kernel_rfl, by kernel_rfl, by kernel_rfl, by kernel_rfl, by kernel_rfl, by kernel_rfl, by kernel_rfl, by kernel_rfl, by kernel_rfl, by kernel_rfl, by kernel_rfl, by kernel_rfl⟩
theorem vdone_ok {G : Hp} {p : Nat} {r : R} :
    Con Try.prog G 131 [.pointer (some ⟨p, 0, none⟩)] [isQ p r] (fun v B => v = .int .i64 (R.done r) ∧ B = [isQ p r]) := by
  refine Con.intro Try.func131 rfl (Nat.le_of_ble_eq_true (by kernel_rfl)) (by kernel_rfl) Try.results131 ?_
  intro H hH
  obtain ⟨sa, sn, sc, f1, f2, h⟩ := isQ_open hH
  have c := h.c0
  obtain ⟨b, failed⟩ := r
  have f1' : b.length = sn := f1
  cases failed with
  | true =>
    ((try simp only [S, TY, reduceCtorEq, nq0, nq1, nq2, nq3, nq4, iq0, iq1, iq2, iq3, iq4, iq5, iq6, iq7, iq8, c]); (try (simp (disch := omega) only [W2, Int.cast_ofNat_Int]; (try simp only [S, TY, reduceCtorEq, nq0, nq1, nq2, nq3, nq4, iq0, iq1, iq2, iq3, iq4, iq5, iq6, iq7, iq8, c]))))
    exact fin_ret (isQ_shut h) ⟨by unfold R.done; rw [if_pos (.inl rfl)], rfl⟩
  | false =>
    by_cases h0 : (0 : Int) < sn
    · ((try simp only [S, TY, reduceCtorEq, nq0, nq1, nq2, nq3, nq4, iq0, iq1, iq2, iq3, iq4, iq5, iq6, iq7, iq8, c, h0]); (try (simp (disch := omega) only [W2, Int.cast_ofNat_Int]; (try simp only [S, TY, reduceCtorEq, nq0, nq1, nq2, nq3, nq4, iq0, iq1, iq2, iq3, iq4, iq5, iq6, iq7, iq8, c, h0]))))
      exact fin_ret (isQ_shut h) ⟨by unfold R.done; rw [if_pos (.inr (by simp only; omega))], rfl⟩
    · ((try simp only [S, TY, reduceCtorEq, nq0, nq1, nq2, nq3, nq4, iq0, iq1, iq2, iq3, iq4, iq5, iq6, iq7, iq8, c, h0]); (try (simp (disch := omega) only [W2, Int.cast_ofNat_Int]; (try simp only [S, TY, reduceCtorEq, nq0, nq1, nq2, nq3, nq4, iq0, iq1, iq2, iq3, iq4, iq5, iq6, iq7, iq8, c, h0]))))
      exact fin_ret (isQ_shut h) ⟨by unfold R.done; rw [if_neg (by rintro (g | g); cases g; simp only at g; omega)], rfl⟩
theorem vbytes_ok {G : Hp} {p : Nat} {r : R} (most : Int) (hl : r.b.length ≤ 70368744177664) :
    Con Try.prog G 130 [.pointer (some ⟨p, 0, none⟩), .int .i64 most] [isQ p r] (fun v B => B = [own 5 1 v (bv (R.bytes r most).2), isQ p (R.bytes r most).1]) := by
  refine Con.intro Try.func130 rfl (Nat.le_of_ble_eq_true (by kernel_rfl)) (by kernel_rfl) Try.results130 ?_
  intro H hH
  ((try simp only [S, TY, reduceCtorEq, nq0, nq1, nq2, nq3, nq4, iq0, iq1, iq2, iq3, iq4, iq5, iq6, iq7, iq8]); (try (simp (disch := omega) only [W2, Int.cast_ofNat_Int]; (try simp only [S, TY, reduceCtorEq, nq0, nq1, nq2, nq3, nq4, iq0, iq1, iq2, iq3, iq4, iq5, iq6, iq7, iq8]))))
  refine (vget_ok 2 hl).at_ hH [0] _ rfl fun v B H2 hv h2 => ?_
  obtain ⟨rfl, rfl⟩ := hv
  have hle := get_len r 2
  have hdef : R.bytes r most = if (r.get 2).1.failed = true ∨ min most (r.get 2).1.b.length < (r.get 2).2 then (⟨(r.get 2).1.b, true⟩, []) else (⟨(r.get 2).1.b.drop (r.get 2).2, false⟩, (r.get 2).1.b.take (r.get 2).2) := rfl
  generalize R.bytes r most = res at *
  generalize (r.get 2).1 = r1 at *
  generalize (r.get 2).2 = n at *
  obtain ⟨sa, sn, sc, f1, f2, h⟩ := isQ_open h2
  have c := h.c0
  obtain ⟨b, failed⟩ := r1
  have f1' : b.length = sn := f1
  by_cases bad : failed = true ∨ min most (sn : Int) < n
  · have stop : ∀ H3, sg G [ob p (.cells #[.slice sa sn sc, .bool true] 238 (0, 0)), own 5 1 (.slice sa sn sc) (bv b)] H3 →
        fin (fun v B => B = [own 5 1 v (bv res.2), isQ p res.1]) (.returned (.slice none 0 0)) H3 := by
      intro H3 h3
      rw [if_pos (by simp only [f1']; exact bad)] at hdef
      subst hdef
      exact fin_ret ((isQ_shut (w := ⟨b, true⟩) h3).nil_ 5 1) rfl
    cases failed with
    | true =>
      ((try simp only [S, TY, reduceCtorEq, nq0, nq1, nq2, nq3, nq4, iq0, iq1, iq2, iq3, iq4, iq5, iq6, iq7, iq8, c]); (try (simp (disch := omega) only [W2, Int.cast_ofNat_Int]; (try simp only [S, TY, reduceCtorEq, nq0, nq1, nq2, nq3, nq4, iq0, iq1, iq2, iq3, iq4, iq5, iq6, iq7, iq8, c]))))
      refine sg.st h rfl rfl fun H3 h3 => ?_
      simp only [front_eq, fronts_nil, fronts_cons, List.getElem?_cons_zero, List.getElem?_cons_succ, List.eraseIdx_cons_zero, List.eraseIdx_cons_succ, List.cons_append, List.nil_append, putL_cons, putL_nil, List.set_cons_zero, List.set_cons_succ, Nat.reduceAdd] at h3
      ((try simp only [S, TY, reduceCtorEq, nq0, nq1, nq2, nq3, nq4, iq0, iq1, iq2, iq3, iq4, iq5, iq6, iq7, iq8]); (try (simp (disch := omega) only [W2, Int.cast_ofNat_Int]; (try simp only [S, TY, reduceCtorEq, nq0, nq1, nq2, nq3, nq4, iq0, iq1, iq2, iq3, iq4, iq5, iq6, iq7, iq8]))))
      exact stop _ h3
    | false =>
      by_cases b1 : most < (n : Int)
      · ((try simp only [S, TY, reduceCtorEq, nq0, nq1, nq2, nq3, nq4, iq0, iq1, iq2, iq3, iq4, iq5, iq6, iq7, iq8, c, b1]); (try (simp (disch := omega) only [W2, Int.cast_ofNat_Int]; (try simp only [S, TY, reduceCtorEq, nq0, nq1, nq2, nq3, nq4, iq0, iq1, iq2, iq3, iq4, iq5, iq6, iq7, iq8, c, b1]))))
        refine sg.st h rfl rfl fun H3 h3 => ?_
        simp only [front_eq, fronts_nil, fronts_cons, List.getElem?_cons_zero, List.getElem?_cons_succ, List.eraseIdx_cons_zero, List.eraseIdx_cons_succ, List.cons_append, List.nil_append, putL_cons, putL_nil, List.set_cons_zero, List.set_cons_succ, Nat.reduceAdd] at h3
        ((try simp only [S, TY, reduceCtorEq, nq0, nq1, nq2, nq3, nq4, iq0, iq1, iq2, iq3, iq4, iq5, iq6, iq7, iq8]); (try (simp (disch := omega) only [W2, Int.cast_ofNat_Int]; (try simp only [S, TY, reduceCtorEq, nq0, nq1, nq2, nq3, nq4, iq0, iq1, iq2, iq3, iq4, iq5, iq6, iq7, iq8]))))
        exact stop _ h3
      · have b2 : (sn : Int) < n := by rcases bad with g | g; cases g; omega
        ((try simp only [S, TY, reduceCtorEq, nq0, nq1, nq2, nq3, nq4, iq0, iq1, iq2, iq3, iq4, iq5, iq6, iq7, iq8, c, b1, b2]); (try (simp (disch := omega) only [W2, Int.cast_ofNat_Int]; (try simp only [S, TY, reduceCtorEq, nq0, nq1, nq2, nq3, nq4, iq0, iq1, iq2, iq3, iq4, iq5, iq6, iq7, iq8, c, b1, b2]))))
        refine sg.st h rfl rfl fun H3 h3 => ?_
        simp only [front_eq, fronts_nil, fronts_cons, List.getElem?_cons_zero, List.getElem?_cons_succ, List.eraseIdx_cons_zero, List.eraseIdx_cons_succ, List.cons_append, List.nil_append, putL_cons, putL_nil, List.set_cons_zero, List.set_cons_succ, Nat.reduceAdd] at h3
        ((try simp only [S, TY, reduceCtorEq, nq0, nq1, nq2, nq3, nq4, iq0, iq1, iq2, iq3, iq4, iq5, iq6, iq7, iq8]); (try (simp (disch := omega) only [W2, Int.cast_ofNat_Int]; (try simp only [S, TY, reduceCtorEq, nq0, nq1, nq2, nq3, nq4, iq0, iq1, iq2, iq3, iq4, iq5, iq6, iq7, iq8]))))
        exact stop _ h3
  · have hf : failed = false := by cases failed <;> simp at bad ⊢
    subst hf
    have b1 : ¬ most < (n : Int) := fun q => bad (.inr (by omega))
    have b2 : ¬ (sn : Int) < (n : Int) := fun q => bad (.inr (by omega))
    have w1 : (0 : Int) ≤ n := by omega
    have w2 : (n : Int) ≤ sc := by omega
    have w3 : (n : Int) ≤ sn := by omega
    ((try simp only [S, TY, reduceCtorEq, nq0, nq1, nq2, nq3, nq4, iq0, iq1, iq2, iq3, iq4, iq5, iq6, iq7, iq8, c, b1, b2]); (try (simp (disch := omega) only [W2, Int.cast_ofNat_Int]; (try simp only [S, TY, reduceCtorEq, nq0, nq1, nq2, nq3, nq4, iq0, iq1, iq2, iq3, iq4, iq5, iq6, iq7, iq8, c, b1, b2]))))
    intro nb hnb hng
    have h1 := h.newsl (e := 5) (sz := 1) (n := 0) (xs := []) hnb hng rfl
    have c1 := ucell_of (G := G) (h1.at_ 1 rfl)
    ((try simp only [S, TY, reduceCtorEq, nq0, nq1, nq2, nq3, nq4, iq0, iq1, iq2, iq3, iq4, iq5, iq6, iq7, iq8, c1, w1, w2, w3]); (try (simp (disch := omega) only [W2, Int.cast_ofNat_Int]; (try simp only [S, TY, reduceCtorEq, nq0, nq1, nq2, nq3, nq4, iq0, iq1, iq2, iq3, iq4, iq5, iq6, iq7, iq8, c1, w1, w2, w3]))))
    have rr := (h1.rdsi 2 rfl Rd_own).cut (m := n) (c' := sc) (by omega) (by omega)
    rw [Nat.mul_one, ← bv_take] at rr
    refine append_sl (show apI Try.prog 24 = some (5, 1, 1) from by kernel_rfl) (show slIs Try.prog 24 = true from by kernel_rfl) h1 rr (bv_one _) (by simp only [bv_length, List.length_nil, List.length_take]; simp only at hle; omega) fun v H3 h3 => ?_
    have c3 := ucell_of (G := G) (h3.at_ 1 rfl)
    ((try simp only [S, TY, reduceCtorEq, nq0, nq1, nq2, nq3, nq4, iq0, iq1, iq2, iq3, iq4, iq5, iq6, iq7, iq8, c3, w1, w2, w3]); (try (simp (disch := omega) only [W2, Int.cast_ofNat_Int]; (try simp only [S, TY, reduceCtorEq, nq0, nq1, nq2, nq3, nq4, iq0, iq1, iq2, iq3, iq4, iq5, iq6, iq7, iq8, c3, w1, w2, w3]))))
    refine sg.st (h3.front 1) rfl rfl fun H4 h4 => ?_
    simp only [front_eq, fronts_nil, fronts_cons, List.getElem?_cons_zero, List.getElem?_cons_succ, List.eraseIdx_cons_zero, List.eraseIdx_cons_succ, List.cons_append, List.nil_append, putL_cons, putL_nil, List.set_cons_zero, List.set_cons_succ, Nat.reduceAdd] at h4
    ((try simp only [S, TY, reduceCtorEq, nq0, nq1, nq2, nq3, nq4, iq0, iq1, iq2, iq3, iq4, iq5, iq6, iq7, iq8]); (try (simp (disch := omega) only [W2, Int.cast_ofNat_Int]; (try simp only [S, TY, reduceCtorEq, nq0, nq1, nq2, nq3, nq4, iq0, iq1, iq2, iq3, iq4, iq5, iq6, iq7, iq8]))))
    have h6 := own_drop (h4.front 2) n (by omega)
    rw [Nat.mul_one, ← bv_drop] at h6
    simp only [Nat.mul_one] at h6
    rw [if_neg (by simp only [f1']; exact bad)] at hdef
    subst hdef
    exact fin_take ((isQ_shut (w := ⟨b.drop n, false⟩) (h6.fronts [1, 0])).front 1) rfl
end Go.Proofs.Ytanhmbdcdbcfmaa.BufF
