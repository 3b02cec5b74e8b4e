/- buf.Reader's Bytes, Rest, Done, over the machine. -/
import Derived.Test.YtanhmbdcdbcfmaaBufRd
set_option linter.unusedVariables false
set_option linter.unusedSimpArgs false
set_option maxRecDepth 10000
namespace Go.Proofs.Ytanhmbdcdbcfmaa.BufRe
open Nat renaming reduceEqDiff → nq0, reduceAdd → nq1, reduceLeDiff → nq2, reduceBEq → nq3, reduceMul → nq4
open Int renaming reduceBEq → iq0, reduceEq → iq1, reduceLT → iq2, reduceLE → iq3, reduceAdd → iq4, reduceSub → iq5, reduceMul → iq6, reduceToNat → iq7, cast_ofNat_Int → iq8
open Go Go.Sl Go.Proofs Go.Proofs.Ytanhmbdcdbcfmaa.Buf Go.Proofs.Ytanhmbdcdbcfmaa.BufRd
theorem TY : aggN Try.prog 3 = some none ∧
  aggN Try.prog 4 = some none ∧
  aggN Try.prog 5 = some none ∧
  aggN Try.prog 24 = some none ∧
  aggN Try.prog 232 = some none ∧
  aggN Try.prog 293 = some (some 2) ∧
  apI Try.prog 24 = some (5, 1, 1) ∧
  bIs Try.prog 293 = true ∧
  boIs Try.prog 4 = true ∧
  bySl Try.prog 24 = true ∧
  csz Try.prog 3 = some 1 ∧
  csz Try.prog 4 = some 1 ∧
  csz Try.prog 5 = some 1 ∧
  csz Try.prog 24 = some 1 ∧
  csz Try.prog 232 = some 1 ∧
  csz Try.prog 293 = some 2 ∧
  fIs Try.prog 293 0 = true ∧
  fIs Try.prog 293 1 = true ∧
  fOff Try.prog 293 0 = 0 ∧
  fOff Try.prog 293 1 = 1 ∧
  fTy Try.prog 293 0 = 24 ∧
  fTy Try.prog 293 1 = 4 ∧
  goes Try.prog 126 = true ∧
  goes Try.prog 178 = true ∧
  goes Try.prog 179 = true ∧
  goes Try.prog 180 = true ∧
  inIs Try.prog 3 = some .i64 ∧
  inIs Try.prog 5 = some .u8 ∧
  plcs Try.prog 293 = [(0, 1), (1, 1)] ∧
  ptIs Try.prog 232 = true ∧
  slEl Try.prog 24 = 5 ∧
  slIs Try.prog 24 = true ∧
  slSz Try.prog 24 = 1 ∧
  zcs Try.prog 293 = [.slice none 0 0, .bool false] ∧
  zro Try.prog 3 = some (.int .i64 0) ∧
  zro Try.prog 4 = some (.bool false) ∧
  zro Try.prog 5 = some (.int .u8 0) ∧
  zro Try.prog 24 = some (.slice none 0 0) ∧
  zro Try.prog 232 = some (.pointer none) ∧
  zro Try.prog 293 = some (.agg #[.slice none 0 0, .bool false]) :=
  ⟨by kernel_rfl, by kernel_rfl, by kernel_rfl, by kernel_rfl, by kernel_rfl, by kernel_rfl, by kernel_rfl, by kernel_rfl, by kernel_rfl, by kernel_rfl, by kernel_rfl, by kernel_rfl, by kernel_rfl, by kernel_rfl, by kernel_rfl, by kernel_rfl, by kernel_rfl, by kernel_rfl, by kernel_rfl, by kernel_rfl, by kernel_rfl, by kernel_rfl, by kernel_rfl, by kernel_rfl, by kernel_rfl, by kernel_rfl, by kernel_rfl, by kernel_rfl, by kernel_rfl, by kernel_rfl, by kernel_rfl, by kernel_rfl, by kernel_rfl, by kernel_rfl, by kernel_rfl, by kernel_rfl, by kernel_rfl, by kernel_rfl, by kernel_rfl, by kernel_rfl⟩
theorem get_len (r : R) (n : Int) : (r.get n).1.b.length ≤ r.b.length := by unfold R.get; split <;> simp
def R.bytes (r : R) (most : Int) : R × List UInt8 :=
  if (r.get 2).1.failed = true ∨ min most (r.get 2).1.b.length < (r.get 2).2 then (⟨(r.get 2).1.b, true⟩, []) else (⟨(r.get 2).1.b.drop (r.get 2).2, false⟩, (r.get 2).1.b.take (r.get 2).2)
theorem bytes_nil {G : Hp} (x : Value) : Con Try.prog G 127 [.pointer none, x] [] (fun r B => r = .slice none 0 0 ∧ B = []) := by
  refine Con.intro Try.func127 rfl (Nat.le_of_ble_eq_true (by kernel_rfl)) (by kernel_rfl) Try.results127 ?_
  intro H hH
  ((try simp only [S, TY, reduceCtorEq, nq0, nq1, nq2, nq3, nq4, iq0, iq1, iq2, iq3, iq4, iq5, iq6, iq7, iq8]); (try (simp (disch := omega) only [W2, Int.cast_ofNat_Int]; (try simp only [S, TY, reduceCtorEq, nq0, nq1, nq2, nq3, nq4, iq0, iq1, iq2, iq3, iq4, iq5, iq6, iq7, iq8]))))
  refine (get_nil _).at_ hH [] _ rfl fun v B H3 hv h3 => ?_
  obtain ⟨rfl, rfl⟩ := hv
  ((try simp only [S, TY, reduceCtorEq, nq0, nq1, nq2, nq3, nq4, iq0, iq1, iq2, iq3, iq4, iq5, iq6, iq7, iq8]); (try (simp (disch := omega) only [W2, Int.cast_ofNat_Int]; (try simp only [S, TY, reduceCtorEq, nq0, nq1, nq2, nq3, nq4, iq0, iq1, iq2, iq3, iq4, iq5, iq6, iq7, iq8]))))
  exact fin_ret h3 ⟨rfl, rfl⟩
theorem bytes_ok {G : Hp} {p : Nat} {r : R} (most : Int) (hl : r.b.length ≤ 70368744177664) :
    Con Try.prog G 127 [.pointer (some ⟨p, 0, none⟩), .int .i64 most] [isR p r] (fun v B => B = [own 5 1 v (bv (R.bytes r most).2), isR p (R.bytes r most).1]) := by
  refine Con.intro Try.func127 rfl (Nat.le_of_ble_eq_true (by kernel_rfl)) (by kernel_rfl) Try.results127 ?_
  intro H hH
  ((try simp only [S, TY, reduceCtorEq, nq0, nq1, nq2, nq3, nq4, iq0, iq1, iq2, iq3, iq4, iq5, iq6, iq7, iq8]); (try (simp (disch := omega) only [W2, Int.cast_ofNat_Int]; (try simp only [S, TY, reduceCtorEq, nq0, nq1, nq2, nq3, nq4, iq0, iq1, iq2, iq3, iq4, iq5, iq6, iq7, iq8]))))
  refine (get_ok 2 hl).at_ hH [0] _ rfl fun v B H2 hv h2 => ?_
  obtain ⟨rfl, rfl⟩ := hv
  have hle := get_len r 2
  have hdef : R.bytes r most = if (r.get 2).1.failed = true ∨ min most (r.get 2).1.b.length < (r.get 2).2 then (⟨(r.get 2).1.b, true⟩, []) else (⟨(r.get 2).1.b.drop (r.get 2).2, false⟩, (r.get 2).1.b.take (r.get 2).2) := rfl
  generalize R.bytes r most = res at *
  generalize (r.get 2).1 = r1 at *
  generalize (r.get 2).2 = n at *
  obtain ⟨sa, sn, sc, f1, f2, h⟩ := isR_open h2
  have c := h.c0
  ((try simp only [S, TY, reduceCtorEq, nq0, nq1, nq2, nq3, nq4, iq0, iq1, iq2, iq3, iq4, iq5, iq6, iq7, iq8, c]); (try (simp (disch := omega) only [W2, Int.cast_ofNat_Int]; (try simp only [S, TY, reduceCtorEq, nq0, nq1, nq2, nq3, nq4, iq0, iq1, iq2, iq3, iq4, iq5, iq6, iq7, iq8, c]))))
  refine fails_ok.at_ h [0] _ rfl fun v B H3 hv h3 => ?_
  obtain ⟨rfl, rfl⟩ := hv
  have hm : (if (sn : Int) < most then (sn : Int) else most) = min most sn := by split <;> omega
  rw [hm] at h3 ⊢
  obtain ⟨b, failed⟩ := r1
  have f1' : b.length = sn := f1
  by_cases bad : failed = true ∨ min most (sn : Int) < n
  · have e1 : (failed || decide (min most (sn : Int) < n)) = true := by simpa using bad
    simp only [e1] at h3
    ((try simp only [S, TY, reduceCtorEq, nq0, nq1, nq2, nq3, nq4, iq0, iq1, iq2, iq3, iq4, iq5, iq6, iq7, iq8, e1]); (try (simp (disch := omega) only [W2, Int.cast_ofNat_Int]; (try simp only [S, TY, reduceCtorEq, nq0, nq1, nq2, nq3, nq4, iq0, iq1, iq2, iq3, iq4, iq5, iq6, iq7, iq8, e1]))))
    rw [if_pos (by simp only [f1']; exact bad)] at hdef
    subst hdef
    exact fin_ret ((isR_shut (w := ⟨b, true⟩) h3).nil_ 5 1) rfl
  · have e1 : (failed || decide (min most (sn : Int) < n)) = false := by
      simp only [not_or] at bad
      simp [bad.1, bad.2]
    simp only [e1] at h3
    have hn : n ≤ sn := by omega
    have hf : failed = false := by cases failed <;> simp at bad ⊢
    ((try simp only [S, TY, reduceCtorEq, nq0, nq1, nq2, nq3, nq4, iq0, iq1, iq2, iq3, iq4, iq5, iq6, iq7, iq8, e1]); (try (simp (disch := omega) only [W2, Int.cast_ofNat_Int]; (try simp only [S, TY, reduceCtorEq, nq0, nq1, nq2, nq3, nq4, iq0, iq1, iq2, iq3, iq4, iq5, iq6, iq7, iq8, e1]))))
    refine (take_ok (m := n) hn f2).at_ h3 [0] _ rfl fun v B H4 hv h4 => ?_
    obtain ⟨rfl, rfl⟩ := hv
    ((try simp only [S, TY, reduceCtorEq, nq0, nq1, nq2, nq3, nq4, iq0, iq1, iq2, iq3, iq4, iq5, iq6, iq7, iq8]); (try (simp (disch := omega) only [W2, Int.cast_ofNat_Int]; (try simp only [S, TY, reduceCtorEq, nq0, nq1, nq2, nq3, nq4, iq0, iq1, iq2, iq3, iq4, iq5, iq6, iq7, iq8]))))
    refine Con.lend_at [] [own 5 1 _ _] h4 [1] rfl (fun F hF hs => clone_ok (l := b.take n) (by
      have := ((seps_own hs 0 rfl).cut (m := n) (c' := n) hn (Nat.le_refl _)).left (G := G)
      rw [Nat.mul_one, ← bv_take] at this
      exact this) (by simp; omega)) fun v B H5 hv h5 => ?_
    subst hv
    ((try simp only [S, TY, reduceCtorEq, nq0, nq1, nq2, nq3, nq4, iq0, iq1, iq2, iq3, iq4, iq5, iq6, iq7, iq8]); (try (simp (disch := omega) only [W2, Int.cast_ofNat_Int]; (try simp only [S, TY, reduceCtorEq, nq0, nq1, nq2, nq3, nq4, iq0, iq1, iq2, iq3, iq4, iq5, iq6, iq7, iq8]))))
    have h6 := own_drop (h5.front 1) n hn
    rw [Nat.mul_one, ← bv_drop] at h6
    rw [if_neg (by simp only [f1']; exact bad)] at hdef
    subst hdef
    rw [Nat.mul_one] at h5
    exact fin_take ((isR_shut (w := ⟨b.drop n, false⟩) (h6.fronts [2, 0])).front 1) rfl
def R.rest (r : R) : R × List UInt8 := if r.failed = true then (r, []) else (⟨[], false⟩, r.b)
theorem rest_nil {G : Hp} : Con Try.prog G 183 [.pointer none] [] (fun r B => r = .slice none 0 0 ∧ B = []) := by
  refine Con.intro Try.func183 rfl (Nat.le_of_ble_eq_true (by kernel_rfl)) (by kernel_rfl) Try.results183 ?_
  intro H hH
  ((try simp only [S, TY, reduceCtorEq, nq0, nq1, nq2, nq3, nq4, iq0, iq1, iq2, iq3, iq4, iq5, iq6, iq7, iq8]); (try (simp (disch := omega) only [W2, Int.cast_ofNat_Int]; (try simp only [S, TY, reduceCtorEq, nq0, nq1, nq2, nq3, nq4, iq0, iq1, iq2, iq3, iq4, iq5, iq6, iq7, iq8]))))
  exact fin_ret hH ⟨rfl, rfl⟩
theorem rest_ok {G : Hp} {p : Nat} {r : R} (hl : r.b.length ≤ 70368744177664) :
    Con Try.prog G 183 [.pointer (some ⟨p, 0, none⟩)] [isR p r] (fun v B => B = [own 5 1 v (bv (R.rest r).2), isR p (R.rest r).1]) := by
  refine Con.intro Try.func183 rfl (Nat.le_of_ble_eq_true (by kernel_rfl)) (by kernel_rfl) Try.results183 ?_
  intro H hH
  obtain ⟨sa, sn, sc, f1, f2, h⟩ := isR_open hH
  have c := h.c0
  have hdef : R.rest r = if r.failed = true then (r, []) else (⟨[], false⟩, r.b) := rfl
  generalize R.rest r = res at *
  obtain ⟨b, failed⟩ := r
  have f1' : b.length = sn := f1
  cases failed with
  | true =>
    ((try simp only [S, TY, reduceCtorEq, nq0, nq1, nq2, nq3, nq4, iq0, iq1, iq2, iq3, iq4, iq5, iq6, iq7, iq8, c]); (try (simp (disch := omega) only [W2, Int.cast_ofNat_Int]; (try simp only [S, TY, reduceCtorEq, nq0, nq1, nq2, nq3, nq4, iq0, iq1, iq2, iq3, iq4, iq5, iq6, iq7, iq8, c]))))
    rw [if_pos rfl] at hdef
    subst hdef
    exact fin_ret ((isR_shut (w := ⟨b, true⟩) h).nil_ 5 1) rfl
  | false =>
    ((try simp only [S, TY, reduceCtorEq, nq0, nq1, nq2, nq3, nq4, iq0, iq1, iq2, iq3, iq4, iq5, iq6, iq7, iq8, c]); (try (simp (disch := omega) only [W2, Int.cast_ofNat_Int]; (try simp only [S, TY, reduceCtorEq, nq0, nq1, nq2, nq3, nq4, iq0, iq1, iq2, iq3, iq4, iq5, iq6, iq7, iq8, c]))))
    refine (take_ok (m := sn) (Nat.le_refl _) f2).at_ h [0] _ rfl fun v B H4 hv h4 => ?_
    obtain ⟨rfl, rfl⟩ := hv
    ((try simp only [S, TY, reduceCtorEq, nq0, nq1, nq2, nq3, nq4, iq0, iq1, iq2, iq3, iq4, iq5, iq6, iq7, iq8]); (try (simp (disch := omega) only [W2, Int.cast_ofNat_Int]; (try simp only [S, TY, reduceCtorEq, nq0, nq1, nq2, nq3, nq4, iq0, iq1, iq2, iq3, iq4, iq5, iq6, iq7, iq8]))))
    refine Con.lend_at [] [own 5 1 _ _] h4 [1] rfl (fun F hF hs => clone_ok (l := b) (by
      have := ((seps_own hs 0 rfl).cut (m := sn) (c' := sn) (Nat.le_refl _) (Nat.le_refl _)).left (G := G)
      rw [Nat.mul_one, ← bv_take, List.take_of_length_le (by omega)] at this
      exact this) hl) fun v B H5 hv h5 => ?_
    subst hv
    ((try simp only [S, TY, reduceCtorEq, nq0, nq1, nq2, nq3, nq4, iq0, iq1, iq2, iq3, iq4, iq5, iq6, iq7, iq8]); (try (simp (disch := omega) only [W2, Int.cast_ofNat_Int]; (try simp only [S, TY, reduceCtorEq, nq0, nq1, nq2, nq3, nq4, iq0, iq1, iq2, iq3, iq4, iq5, iq6, iq7, iq8]))))
    have h6 := own_drop (h5.front 1) sn (Nat.le_refl _)
    rw [Nat.mul_one, ← bv_drop, List.drop_eq_nil_of_le (by omega)] at h6
    rw [if_neg (by simp)] at hdef
    subst hdef
    exact fin_take ((isR_shut (w := ⟨[], false⟩) (h6.fronts [2, 0])).front 1) rfl
theorem done_nil {G : Hp} : Con Try.prog G 128 [.pointer none] [] (fun r B => r = .int .i64 1 ∧ B = []) := by
  refine Con.intro Try.func128 rfl (Nat.le_of_ble_eq_true (by kernel_rfl)) (by kernel_rfl) Try.results128 ?_
  intro H hH
  ((try simp only [S, TY, reduceCtorEq, nq0, nq1, nq2, nq3, nq4, iq0, iq1, iq2, iq3, iq4, iq5, iq6, iq7, iq8]); (try (simp (disch := omega) only [W2, Int.cast_ofNat_Int]; (try simp only [S, TY, reduceCtorEq, nq0, nq1, nq2, nq3, nq4, iq0, iq1, iq2, iq3, iq4, iq5, iq6, iq7, iq8]))))
  exact fin_ret hH ⟨rfl, rfl⟩
def R.done (r : R) : Int := if r.failed = true ∨ 0 < r.b.length then 2 else 0
theorem done_ok {G : Hp} {p : Nat} {r : R} :
    Con Try.prog G 128 [.pointer (some ⟨p, 0, none⟩)] [isR p r] (fun v B => v = .int .i64 (R.done r) ∧ B = [isR p r]) := by
  refine Con.intro Try.func128 rfl (Nat.le_of_ble_eq_true (by kernel_rfl)) (by kernel_rfl) Try.results128 ?_
  intro H hH
  obtain ⟨sa, sn, sc, f1, f2, h⟩ := isR_open hH
  have c := h.c0
  obtain ⟨b, failed⟩ := r
  have f1' : b.length = sn := f1
  cases failed with
  | true =>
    ((try simp only [S, TY, reduceCtorEq, nq0, nq1, nq2, nq3, nq4, iq0, iq1, iq2, iq3, iq4, iq5, iq6, iq7, iq8, c]); (try (simp (disch := omega) only [W2, Int.cast_ofNat_Int]; (try simp only [S, TY, reduceCtorEq, nq0, nq1, nq2, nq3, nq4, iq0, iq1, iq2, iq3, iq4, iq5, iq6, iq7, iq8, c]))))
    exact fin_ret (isR_shut h) ⟨by unfold R.done; rw [if_pos (.inl rfl)], rfl⟩
  | false =>
    by_cases h0 : (0 : Int) < sn
    · ((try simp only [S, TY, reduceCtorEq, nq0, nq1, nq2, nq3, nq4, iq0, iq1, iq2, iq3, iq4, iq5, iq6, iq7, iq8, c, h0]); (try (simp (disch := omega) only [W2, Int.cast_ofNat_Int]; (try simp only [S, TY, reduceCtorEq, nq0, nq1, nq2, nq3, nq4, iq0, iq1, iq2, iq3, iq4, iq5, iq6, iq7, iq8, c, h0]))))
      exact fin_ret (isR_shut h) ⟨by unfold R.done; rw [if_pos (.inr (by simp only; omega))], rfl⟩
    · ((try simp only [S, TY, reduceCtorEq, nq0, nq1, nq2, nq3, nq4, iq0, iq1, iq2, iq3, iq4, iq5, iq6, iq7, iq8, c, h0]); (try (simp (disch := omega) only [W2, Int.cast_ofNat_Int]; (try simp only [S, TY, reduceCtorEq, nq0, nq1, nq2, nq3, nq4, iq0, iq1, iq2, iq3, iq4, iq5, iq6, iq7, iq8, c, h0]))))
      exact fin_ret (isR_shut h) ⟨by unfold R.done; rw [if_neg (by rintro (g | g); cases g; simp only at g; omega)], rfl⟩
end Go.Proofs.Ytanhmbdcdbcfmaa.BufRe
