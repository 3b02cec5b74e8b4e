/- The document's writer and reader, over the machine. -/
import Derived.Test.YtfjmejideoklpaaBufOne
set_option linter.unusedVariables false
set_option linter.unusedSimpArgs false
set_option maxRecDepth 10000
namespace Go.Proofs.Ytfjmejideoklpaa.BufD
open Go Go.Sl Go.Proofs Go.Proofs.Ytfjmejideoklpaa.Buf Go.Proofs.Ytfjmejideoklpaa.BufRd Go.Proofs.Ytfjmejideoklpaa.BufRe Go.Proofs.Ytfjmejideoklpaa.BufOne
theorem TY : aggN Try.prog 3 = some none ∧
  aggN Try.prog 4 = some none ∧
  aggN Try.prog 5 = some none ∧
  aggN Try.prog 33 = some none ∧
  aggN Try.prog 166 = some (some 2) ∧
  apI Try.prog 33 = some (5, 1, 1) ∧
  bIs Try.prog 166 = true ∧
  boIs Try.prog 4 = true ∧
  bySl Try.prog 33 = true ∧
  csz Try.prog 3 = some 1 ∧
  csz Try.prog 4 = some 1 ∧
  csz Try.prog 5 = some 1 ∧
  csz Try.prog 33 = some 1 ∧
  csz Try.prog 166 = some 2 ∧
  fIs Try.prog 166 0 = true ∧
  fIs Try.prog 166 1 = true ∧
  fOff Try.prog 166 0 = 0 ∧
  fOff Try.prog 166 1 = 1 ∧
  fTy Try.prog 166 0 = 33 ∧
  fTy Try.prog 166 1 = 4 ∧
  goes Try.prog 112 = true ∧
  goes Try.prog 145 = true ∧
  inIs Try.prog 3 = some .i64 ∧
  inIs Try.prog 5 = some .u8 ∧
  plcs Try.prog 166 = [(0, 1), (1, 1)] ∧
  slEl Try.prog 33 = 5 ∧
  slIs Try.prog 33 = true ∧
  slSz Try.prog 33 = 1 ∧
  zcs Try.prog 166 = [.slice none 0 0, .bool false] ∧
  zro Try.prog 3 = some (.int .i64 0) ∧
  zro Try.prog 4 = some (.bool false) ∧
  zro Try.prog 5 = some (.int .u8 0) ∧
  zro Try.prog 33 = some (.slice none 0 0) ∧
  zro Try.prog 166 = some (.agg #[.slice none 0 0, .bool false]) :=
  ⟨by kernel_rfl, by kernel_rfl, by kernel_rfl, by kernel_rfl, by kernel_rfl, by kernel_rfl, by kernel_rfl, by kernel_rfl, by kernel_rfl, by kernel_rfl, by kernel_rfl, by kernel_rfl, by kernel_rfl, by kernel_rfl, by kernel_rfl, by kernel_rfl, by kernel_rfl, by kernel_rfl, by kernel_rfl, by kernel_rfl, by kernel_rfl, by kernel_rfl, by kernel_rfl, by kernel_rfl, by kernel_rfl, by kernel_rfl, by kernel_rfl, by kernel_rfl, by kernel_rfl, by kernel_rfl, by kernel_rfl, by kernel_rfl, by kernel_rfl, by kernel_rfl⟩
def D98_3 : List Note := Go.Sl.nn [0, 0, 0, 0, 1, 0, 0] ++ ([(3, [4])] ++ (Go.Sl.nn [3, 0, 0, 3]))
theorem fits_bad {n x : Int} (hn : n < 1 ∨ 8 < n) {G : Hp} : Con Try.prog G 145 [.int .i64 n, .int .i64 x] [] (fun v B => v = .bool false ∧ B = []) := by
  refine Con.intro Try.func145 rfl (Nat.le_of_ble_eq_true (by kernel_rfl)) (by kernel_rfl) Try.results145 ?_
  intro H hH
  by_cases a1 : n < 1
  · ((try simp only [S, TY, reduceCtorEq, Nat.reduceEqDiff, Nat.reduceAdd, Nat.reduceLeDiff, Nat.reduceBEq, Int.reduceBEq, Nat.reduceMul, Int.reduceEq, Int.reduceLT, Int.reduceLE, Int.reduceAdd, Int.reduceSub, Int.reduceMul, Int.reduceToNat, Int.cast_ofNat_Int, a1]); (try (simp (disch := omega) only [W2, Int.cast_ofNat_Int]; (try simp only [S, TY, reduceCtorEq, Nat.reduceEqDiff, Nat.reduceAdd, Nat.reduceLeDiff, Nat.reduceBEq, Int.reduceBEq, Nat.reduceMul, Int.reduceEq, Int.reduceLT, Int.reduceLE, Int.reduceAdd, Int.reduceSub, Int.reduceMul, Int.reduceToNat, Int.cast_ofNat_Int, a1]))))
    exact fin_ret hH ⟨rfl, rfl⟩
  · have a2 : 8 < n := by omega
    ((try simp only [S, TY, reduceCtorEq, Nat.reduceEqDiff, Nat.reduceAdd, Nat.reduceLeDiff, Nat.reduceBEq, Int.reduceBEq, Nat.reduceMul, Int.reduceEq, Int.reduceLT, Int.reduceLE, Int.reduceAdd, Int.reduceSub, Int.reduceMul, Int.reduceToNat, Int.cast_ofNat_Int, a1, a2]); (try (simp (disch := omega) only [W2, Int.cast_ofNat_Int]; (try simp only [S, TY, reduceCtorEq, Nat.reduceEqDiff, Nat.reduceAdd, Nat.reduceLeDiff, Nat.reduceBEq, Int.reduceBEq, Nat.reduceMul, Int.reduceEq, Int.reduceLT, Int.reduceLE, Int.reduceAdd, Int.reduceSub, Int.reduceMul, Int.reduceToNat, Int.cast_ofNat_Int, a1, a2]))))
    exact fin_ret hH ⟨rfl, rfl⟩
theorem tdiv_nat (x : Nat) : ((x : Int).tdiv 256) = ((x / 256 : Nat) : Int) := by
  rw [Int.tdiv_eq_ediv_of_nonneg (by omega)]; norm_cast
theorem fits_ok {n x : Int} (h1 : 1 ≤ n) (h2 : n ≤ 8) (h3 : x < 9223372036854775808) {G : Hp} : Con Try.prog G 145 [.int .i64 n, .int .i64 x] [] (fun v B => v = .bool (decide (fits n x)) ∧ B = []) := by
  refine Con.intro Try.func145 rfl (Nat.le_of_ble_eq_true (by kernel_rfl)) (by kernel_rfl) Try.results145 ?_
  intro H hH
  have a1 : ¬ n < 1 := by omega
  have a2 : ¬ 8 < n := by omega
  by_cases a3 : x < 0
  · ((try simp only [S, TY, reduceCtorEq, Nat.reduceEqDiff, Nat.reduceAdd, Nat.reduceLeDiff, Nat.reduceBEq, Int.reduceBEq, Nat.reduceMul, Int.reduceEq, Int.reduceLT, Int.reduceLE, Int.reduceAdd, Int.reduceSub, Int.reduceMul, Int.reduceToNat, Int.cast_ofNat_Int, a1, a2, a3]); (try (simp (disch := omega) only [W2, Int.cast_ofNat_Int]; (try simp only [S, TY, reduceCtorEq, Nat.reduceEqDiff, Nat.reduceAdd, Nat.reduceLeDiff, Nat.reduceBEq, Int.reduceBEq, Nat.reduceMul, Int.reduceEq, Int.reduceLT, Int.reduceLE, Int.reduceAdd, Int.reduceSub, Int.reduceMul, Int.reduceToNat, Int.cast_ofNat_Int, a1, a2, a3]))))
    exact fin_ret hH ⟨by rw [decide_eq_false (by unfold fits; omega)], rfl⟩
  · ((try simp only [S, TY, reduceCtorEq, Nat.reduceEqDiff, Nat.reduceAdd, Nat.reduceLeDiff, Nat.reduceBEq, Int.reduceBEq, Nat.reduceMul, Int.reduceEq, Int.reduceLT, Int.reduceLE, Int.reduceAdd, Int.reduceSub, Int.reduceMul, Int.reduceToNat, Int.cast_ofNat_Int, a1, a2, a3]); (try (simp (disch := omega) only [W2, Int.cast_ofNat_Int]; (try simp only [S, TY, reduceCtorEq, Nat.reduceEqDiff, Nat.reduceAdd, Nat.reduceLeDiff, Nat.reduceBEq, Int.reduceBEq, Nat.reduceMul, Int.reduceEq, Int.reduceLT, Int.reduceLE, Int.reduceAdd, Int.reduceSub, Int.reduceMul, Int.reduceToNat, Int.cast_ofNat_Int, a1, a2, a3]))))
    obtain ⟨N, rfl⟩ : ∃ N : Nat, n = N := ⟨n.toNat, by omega⟩
    obtain ⟨X, rfl⟩ : ∃ X : Nat, x = X := ⟨x.toNat, by omega⟩
    refine cl_loop (fun i e H => i ≤ N ∧ e 0 = .int .i64 N ∧ e 1 = .int .i64 (X / 256 ^ i : Nat) ∧ e 5 = .int .i64 i ∧ sg G [] H) (fun i => N - i) 0
      ⟨by omega, rfl, by simp [Env.put], rfl, hH⟩ ?_
    rintro i e H ⟨q0, q1, q2, q3, hH⟩
    by_cases g1 : (i : Int) < N
    · have s1 := tdiv_nat (X / 256 ^ i)
      have s2 : X / 256 ^ i / 256 = X / 256 ^ (i + 1) := by rw [Nat.div_div_eq_div_mul, Nat.pow_succ]
      have s3 : X / 256 ^ (i + 1) ≤ X := Nat.div_le_self _ _
      rw [s2] at s1
      have s5 : ((X / 256 ^ (i + 1) : Nat) : Int) ≤ X := Int.ofNat_le.2 s3
      have s6 : (0 : Int) ≤ ((X / 256 ^ (i + 1) : Nat) : Int) := Int.natCast_nonneg _
      have s4 : IntKind.i64.wrap ((X / 256 ^ (i + 1) : Nat) : Int) = ((X / 256 ^ (i + 1) : Nat) : Int) := wrap_id (Int.le_trans (by decide) s6) (Int.le_trans s5 (by omega))
      ((try simp only [S, TY, reduceCtorEq, Nat.reduceEqDiff, Nat.reduceAdd, Nat.reduceLeDiff, Nat.reduceBEq, Int.reduceBEq, Nat.reduceMul, Int.reduceEq, Int.reduceLT, Int.reduceLE, Int.reduceAdd, Int.reduceSub, Int.reduceMul, Int.reduceToNat, Int.cast_ofNat_Int, q1, q2, q3, g1, s1, s4]); (try (simp (disch := omega) only [W2, Int.cast_ofNat_Int]; (try simp only [S, TY, reduceCtorEq, Nat.reduceEqDiff, Nat.reduceAdd, Nat.reduceLeDiff, Nat.reduceBEq, Int.reduceBEq, Nat.reduceMul, Int.reduceEq, Int.reduceLT, Int.reduceLE, Int.reduceAdd, Int.reduceSub, Int.reduceMul, Int.reduceToNat, Int.cast_ofNat_Int, q1, q2, q3, g1, s1, s4]))))
      exact .go (i + 1) (by omega) ⟨by omega, q1, rfl, rfl, hH⟩
    · ((try simp only [S, TY, reduceCtorEq, Nat.reduceEqDiff, Nat.reduceAdd, Nat.reduceLeDiff, Nat.reduceBEq, Int.reduceBEq, Nat.reduceMul, Int.reduceEq, Int.reduceLT, Int.reduceLE, Int.reduceAdd, Int.reduceSub, Int.reduceMul, Int.reduceToNat, Int.cast_ofNat_Int, q1, q2, q3, g1]); (try (simp (disch := omega) only [W2, Int.cast_ofNat_Int]; (try simp only [S, TY, reduceCtorEq, Nat.reduceEqDiff, Nat.reduceAdd, Nat.reduceLeDiff, Nat.reduceBEq, Int.reduceBEq, Nat.reduceMul, Int.reduceEq, Int.reduceLT, Int.reduceLE, Int.reduceAdd, Int.reduceSub, Int.reduceMul, Int.reduceToNat, Int.cast_ofNat_Int, q1, q2, q3, g1]))))
      obtain rfl : i = N := by omega
      refine fin_ret hH ⟨?_, rfl⟩
      have key : (X / 256 ^ i = 0) ↔ fits i X := by
        rw [Nat.div_eq_zero_iff_lt (Nat.pow_pos (by decide))]
        unfold fits
        simp only [Int.toNat_natCast]
        constructor
        · intro h; exact ⟨by omega, .inr h⟩
        · rintro ⟨_, h | h⟩
          · have : i = 8 := by omega
            subst this
            have h8 : 256 ^ 8 = 18446744073709551616 := by decide
            omega
          · exact h
      by_cases hf : fits i X
      · have h0 := key.2 hf
        rw [h0, decide_eq_true hf]; rfl
      · have h0 : ¬ X / 256 ^ i = 0 := fun q => hf (key.1 q)
        rw [decide_eq_false hf]
        congr 1
        rw [beq_eq_false_iff_ne]
        intro q
        exact h0 (Int.ofNat_inj.1 q)
def isV (p : Nat) (w : W) : Asn := fun H => ∃ s, seps [ob p (.cells #[s, .bool w.wrong] 166 (0, 0)), own 5 1 s (bv w.b)] H
theorem isV_open {G H : Hp} {p : Nat} {w : W} {L : List Asn} (h : sg G (isV p w :: L) H) : ∃ sa sn sc, w.b.length = sn ∧ sn ≤ sc ∧
    sg G (ob p (.cells #[.slice sa sn sc, .bool w.wrong] 166 (0, 0)) :: own 5 1 (.slice sa sn sc) (bv w.b) :: L) H := by
  obtain ⟨hd, H1, H2, rfl, hd2, ⟨s, h1⟩, h2⟩ := h
  have h3 : sg G (ob p (.cells #[s, .bool w.wrong] 166 (0, 0)) :: own 5 1 s (bv w.b) :: L) (H1.un H2) := ⟨hd, seps_append.2 ⟨H1, H2, rfl, hd2, h1, h2⟩⟩
  obtain ⟨sa, sn, sc, rfl, e1, e2⟩ := h3.sl 1 rfl Rd_own
  rw [bv_length] at e1
  exact ⟨sa, sn, sc, by omega, e2, h3⟩
theorem isV_shut {G H : Hp} {p : Nat} {w : W} {s : Value} {L : List Asn} (h : sg G (ob p (.cells #[s, .bool w.wrong] 166 (0, 0)) :: own 5 1 s (bv w.b) :: L) H) : sg G (isV p w :: L) H :=
  h.shut (M := [ob p (.cells #[s, .bool w.wrong] 166 (0, 0)), own 5 1 s (bv w.b)]) fun H _ h => ⟨s, h⟩
def W.vput (n : Int) (w : W) (x : Int) : W := if 1 ≤ n ∧ n ≤ 8 ∧ fits n x then ⟨w.b ++ num n.toNat x.toNat, w.wrong⟩ else ⟨w.b, true⟩
theorem vput_ok {G : Hp} {p : Nat} {w : W} {n x : Int} (hx : x < 9223372036854775808) (hl : w.b.length + 8 ≤ 70368744177664) :
    Con Try.prog G 98 [.pointer (some ⟨p, 0, none⟩), .int .i64 n, .int .i64 x] [isV p w] (fun v B => B = [isV p (W.vput n w x)]) := by
  refine Con.intro Try.func98 rfl (Nat.le_of_ble_eq_true (by kernel_rfl)) (by kernel_rfl) Try.results98 ?_
  intro H hH
  obtain ⟨sa, sn, sc, f1, f2, h⟩ := isV_open hH
  have c := h.c0
  ((try simp only [S, TY, reduceCtorEq, Nat.reduceEqDiff, Nat.reduceAdd, Nat.reduceLeDiff, Nat.reduceBEq, Int.reduceBEq, Nat.reduceMul, Int.reduceEq, Int.reduceLT, Int.reduceLE, Int.reduceAdd, Int.reduceSub, Int.reduceMul, Int.reduceToNat, Int.cast_ofNat_Int, c]); (try (simp (disch := omega) only [W2, Int.cast_ofNat_Int]; (try simp only [S, TY, reduceCtorEq, Nat.reduceEqDiff, Nat.reduceAdd, Nat.reduceLeDiff, Nat.reduceBEq, Int.reduceBEq, Nat.reduceMul, Int.reduceEq, Int.reduceLT, Int.reduceLE, Int.reduceAdd, Int.reduceSub, Int.reduceMul, Int.reduceToNat, Int.cast_ofNat_Int, c]))); repeat ((first | (refine cl_drawi 3 D98_3 (List.range 12) (by decide) (by kernel_rfl) ?_; unfold D98_3)); simp only [S, TY, reduceCtorEq, Nat.reduceEqDiff, Nat.reduceAdd, Nat.reduceLeDiff, Nat.reduceBEq, Int.reduceBEq, Nat.reduceMul, Int.reduceEq, Int.reduceLT, Int.reduceLE, Int.reduceAdd, Int.reduceSub, Int.reduceMul, Int.reduceToNat, Int.cast_ofNat_Int, c]; (try (simp (disch := omega) only [W2, Int.cast_ofNat_Int]; (try simp only [S, TY, reduceCtorEq, Nat.reduceEqDiff, Nat.reduceAdd, Nat.reduceLeDiff, Nat.reduceBEq, Int.reduceBEq, Nat.reduceMul, Int.reduceEq, Int.reduceLT, Int.reduceLE, Int.reduceAdd, Int.reduceSub, Int.reduceMul, Int.reduceToNat, Int.cast_ofNat_Int, c])))))
  by_cases hn : n < 1 ∨ 8 < n
  · refine (fits_bad hn).at_ h [] _ rfl fun v B H2 hv h2 => ?_
    obtain ⟨rfl, rfl⟩ := hv
    ((try simp only [S, TY, reduceCtorEq, Nat.reduceEqDiff, Nat.reduceAdd, Nat.reduceLeDiff, Nat.reduceBEq, Int.reduceBEq, Nat.reduceMul, Int.reduceEq, Int.reduceLT, Int.reduceLE, Int.reduceAdd, Int.reduceSub, Int.reduceMul, Int.reduceToNat, Int.cast_ofNat_Int]); (try (simp (disch := omega) only [W2, Int.cast_ofNat_Int]; (try simp only [S, TY, reduceCtorEq, Nat.reduceEqDiff, Nat.reduceAdd, Nat.reduceLeDiff, Nat.reduceBEq, Int.reduceBEq, Nat.reduceMul, Int.reduceEq, Int.reduceLT, Int.reduceLE, Int.reduceAdd, Int.reduceSub, Int.reduceMul, Int.reduceToNat, Int.cast_ofNat_Int]))); repeat ((first | (refine cl_drawi 3 D98_3 (List.range 12) (by decide) (by kernel_rfl) ?_; unfold D98_3)); simp only [S, TY, reduceCtorEq, Nat.reduceEqDiff, Nat.reduceAdd, Nat.reduceLeDiff, Nat.reduceBEq, Int.reduceBEq, Nat.reduceMul, Int.reduceEq, Int.reduceLT, Int.reduceLE, Int.reduceAdd, Int.reduceSub, Int.reduceMul, Int.reduceToNat, Int.cast_ofNat_Int]; (try (simp (disch := omega) only [W2, Int.cast_ofNat_Int]; (try simp only [S, TY, reduceCtorEq, Nat.reduceEqDiff, Nat.reduceAdd, Nat.reduceLeDiff, Nat.reduceBEq, Int.reduceBEq, Nat.reduceMul, Int.reduceEq, Int.reduceLT, Int.reduceLE, Int.reduceAdd, Int.reduceSub, Int.reduceMul, Int.reduceToNat, Int.cast_ofNat_Int])))))
    refine sg.st h2 rfl rfl fun H3 h3 => ?_
    simp only [front_eq, fronts_nil, fronts_cons, List.getElem?_cons_zero, List.getElem?_cons_succ, List.eraseIdx_cons_zero, List.eraseIdx_cons_succ, List.cons_append, List.nil_append, putL_cons, putL_nil, List.set_cons_zero, List.set_cons_succ, Nat.reduceAdd] at h3
    ((try simp only [S, TY, reduceCtorEq, Nat.reduceEqDiff, Nat.reduceAdd, Nat.reduceLeDiff, Nat.reduceBEq, Int.reduceBEq, Nat.reduceMul, Int.reduceEq, Int.reduceLT, Int.reduceLE, Int.reduceAdd, Int.reduceSub, Int.reduceMul, Int.reduceToNat, Int.cast_ofNat_Int]); (try (simp (disch := omega) only [W2, Int.cast_ofNat_Int]; (try simp only [S, TY, reduceCtorEq, Nat.reduceEqDiff, Nat.reduceAdd, Nat.reduceLeDiff, Nat.reduceBEq, Int.reduceBEq, Nat.reduceMul, Int.reduceEq, Int.reduceLT, Int.reduceLE, Int.reduceAdd, Int.reduceSub, Int.reduceMul, Int.reduceToNat, Int.cast_ofNat_Int]))); repeat ((first | (refine cl_drawi 3 D98_3 (List.range 12) (by decide) (by kernel_rfl) ?_; unfold D98_3)); simp only [S, TY, reduceCtorEq, Nat.reduceEqDiff, Nat.reduceAdd, Nat.reduceLeDiff, Nat.reduceBEq, Int.reduceBEq, Nat.reduceMul, Int.reduceEq, Int.reduceLT, Int.reduceLE, Int.reduceAdd, Int.reduceSub, Int.reduceMul, Int.reduceToNat, Int.cast_ofNat_Int]; (try (simp (disch := omega) only [W2, Int.cast_ofNat_Int]; (try simp only [S, TY, reduceCtorEq, Nat.reduceEqDiff, Nat.reduceAdd, Nat.reduceLeDiff, Nat.reduceBEq, Int.reduceBEq, Nat.reduceMul, Int.reduceEq, Int.reduceLT, Int.reduceLE, Int.reduceAdd, Int.reduceSub, Int.reduceMul, Int.reduceToNat, Int.cast_ofNat_Int])))))
    exact fin_ret (isV_shut (w := ⟨w.b, true⟩) h3) (by unfold W.vput; rw [if_neg (by omega)])
  · refine (fits_ok (n := n) (x := x) (by omega) (by omega) hx).at_ h [] _ rfl fun v B H2 hv h2 => ?_
    obtain ⟨rfl, rfl⟩ := hv
    by_cases hf : fits n x
    · rw [decide_eq_true hf]
      obtain ⟨N, rfl⟩ : ∃ N : Nat, n = N := ⟨n.toNat, by omega⟩
      obtain ⟨X, rfl⟩ : ∃ X : Nat, x = X := ⟨x.toNat, by have := hf.1; omega⟩
      have c2 := h2.c0
      ((try simp only [S, TY, reduceCtorEq, Nat.reduceEqDiff, Nat.reduceAdd, Nat.reduceLeDiff, Nat.reduceBEq, Int.reduceBEq, Nat.reduceMul, Int.reduceEq, Int.reduceLT, Int.reduceLE, Int.reduceAdd, Int.reduceSub, Int.reduceMul, Int.reduceToNat, Int.cast_ofNat_Int, c2]); (try (simp (disch := omega) only [W2, Int.cast_ofNat_Int]; (try simp only [S, TY, reduceCtorEq, Nat.reduceEqDiff, Nat.reduceAdd, Nat.reduceLeDiff, Nat.reduceBEq, Int.reduceBEq, Nat.reduceMul, Int.reduceEq, Int.reduceLT, Int.reduceLE, Int.reduceAdd, Int.reduceSub, Int.reduceMul, Int.reduceToNat, Int.cast_ofNat_Int, c2]))); repeat ((first | (refine cl_drawi 3 D98_3 (List.range 12) (by decide) (by kernel_rfl) ?_; unfold D98_3)); simp only [S, TY, reduceCtorEq, Nat.reduceEqDiff, Nat.reduceAdd, Nat.reduceLeDiff, Nat.reduceBEq, Int.reduceBEq, Nat.reduceMul, Int.reduceEq, Int.reduceLT, Int.reduceLE, Int.reduceAdd, Int.reduceSub, Int.reduceMul, Int.reduceToNat, Int.cast_ofNat_Int, c2]; (try (simp (disch := omega) only [W2, Int.cast_ofNat_Int]; (try simp only [S, TY, reduceCtorEq, Nat.reduceEqDiff, Nat.reduceAdd, Nat.reduceLeDiff, Nat.reduceBEq, Int.reduceBEq, Nat.reduceMul, Int.reduceEq, Int.reduceLT, Int.reduceLE, Int.reduceAdd, Int.reduceSub, Int.reduceMul, Int.reduceToNat, Int.cast_ofNat_Int, c2])))))
      refine (one_ok (N := N) (X := X) (by omega)).at_ h2 [] _ rfl fun v B H3 hv h3 => ?_
      subst hv
      have c3 := ucell_of (G := G) (h3.at_ 1 rfl)
      ((try simp only [S, TY, reduceCtorEq, Nat.reduceEqDiff, Nat.reduceAdd, Nat.reduceLeDiff, Nat.reduceBEq, Int.reduceBEq, Nat.reduceMul, Int.reduceEq, Int.reduceLT, Int.reduceLE, Int.reduceAdd, Int.reduceSub, Int.reduceMul, Int.reduceToNat, Int.cast_ofNat_Int, c2, c3]); (try (simp (disch := omega) only [W2, Int.cast_ofNat_Int]; (try simp only [S, TY, reduceCtorEq, Nat.reduceEqDiff, Nat.reduceAdd, Nat.reduceLeDiff, Nat.reduceBEq, Int.reduceBEq, Nat.reduceMul, Int.reduceEq, Int.reduceLT, Int.reduceLE, Int.reduceAdd, Int.reduceSub, Int.reduceMul, Int.reduceToNat, Int.cast_ofNat_Int, c2, c3]))); repeat ((first | (refine cl_drawi 3 D98_3 (List.range 12) (by decide) (by kernel_rfl) ?_; unfold D98_3)); simp only [S, TY, reduceCtorEq, Nat.reduceEqDiff, Nat.reduceAdd, Nat.reduceLeDiff, Nat.reduceBEq, Int.reduceBEq, Nat.reduceMul, Int.reduceEq, Int.reduceLT, Int.reduceLE, Int.reduceAdd, Int.reduceSub, Int.reduceMul, Int.reduceToNat, Int.cast_ofNat_Int, c2, c3]; (try (simp (disch := omega) only [W2, Int.cast_ofNat_Int]; (try simp only [S, TY, reduceCtorEq, Nat.reduceEqDiff, Nat.reduceAdd, Nat.reduceLeDiff, Nat.reduceBEq, Int.reduceBEq, Nat.reduceMul, Int.reduceEq, Int.reduceLT, Int.reduceLE, Int.reduceAdd, Int.reduceSub, Int.reduceMul, Int.reduceToNat, Int.cast_ofNat_Int, c2, c3])))))
      refine append_sl (show apI Try.prog 33 = some (5, 1, 1) from by kernel_rfl) (show slIs Try.prog 33 = true from by kernel_rfl) (h3.front 2) (h3.rdsi 0 rfl Rd_own) (bv_one _) (by simp only [bv_length, num_length]; omega) fun v2 H4 h4 => ?_
      obtain ⟨va, vn, vc, rfl, e7, e8⟩ := h4.sl 0 rfl Rd_own
      rw [← bv_append] at h4
      ((try simp only [S, TY, reduceCtorEq, Nat.reduceEqDiff, Nat.reduceAdd, Nat.reduceLeDiff, Nat.reduceBEq, Int.reduceBEq, Nat.reduceMul, Int.reduceEq, Int.reduceLT, Int.reduceLE, Int.reduceAdd, Int.reduceSub, Int.reduceMul, Int.reduceToNat, Int.cast_ofNat_Int, c2, c3]); (try (simp (disch := omega) only [W2, Int.cast_ofNat_Int]; (try simp only [S, TY, reduceCtorEq, Nat.reduceEqDiff, Nat.reduceAdd, Nat.reduceLeDiff, Nat.reduceBEq, Int.reduceBEq, Nat.reduceMul, Int.reduceEq, Int.reduceLT, Int.reduceLE, Int.reduceAdd, Int.reduceSub, Int.reduceMul, Int.reduceToNat, Int.cast_ofNat_Int, c2, c3]))); repeat ((first | (refine cl_drawi 3 D98_3 (List.range 12) (by decide) (by kernel_rfl) ?_; unfold D98_3)); simp only [S, TY, reduceCtorEq, Nat.reduceEqDiff, Nat.reduceAdd, Nat.reduceLeDiff, Nat.reduceBEq, Int.reduceBEq, Nat.reduceMul, Int.reduceEq, Int.reduceLT, Int.reduceLE, Int.reduceAdd, Int.reduceSub, Int.reduceMul, Int.reduceToNat, Int.cast_ofNat_Int, c2, c3]; (try (simp (disch := omega) only [W2, Int.cast_ofNat_Int]; (try simp only [S, TY, reduceCtorEq, Nat.reduceEqDiff, Nat.reduceAdd, Nat.reduceLeDiff, Nat.reduceBEq, Int.reduceBEq, Nat.reduceMul, Int.reduceEq, Int.reduceLT, Int.reduceLE, Int.reduceAdd, Int.reduceSub, Int.reduceMul, Int.reduceToNat, Int.cast_ofNat_Int, c2, c3])))))
      refine sg.st (h4.front 2) rfl rfl fun H5 h5 => ?_
      simp only [front_eq, fronts_nil, fronts_cons, List.getElem?_cons_zero, List.getElem?_cons_succ, List.eraseIdx_cons_zero, List.eraseIdx_cons_succ, List.cons_append, List.nil_append, putL_cons, putL_nil, List.set_cons_zero, List.set_cons_succ, Nat.reduceAdd] at h5
      ((try simp only [S, TY, reduceCtorEq, Nat.reduceEqDiff, Nat.reduceAdd, Nat.reduceLeDiff, Nat.reduceBEq, Int.reduceBEq, Nat.reduceMul, Int.reduceEq, Int.reduceLT, Int.reduceLE, Int.reduceAdd, Int.reduceSub, Int.reduceMul, Int.reduceToNat, Int.cast_ofNat_Int]); (try (simp (disch := omega) only [W2, Int.cast_ofNat_Int]; (try simp only [S, TY, reduceCtorEq, Nat.reduceEqDiff, Nat.reduceAdd, Nat.reduceLeDiff, Nat.reduceBEq, Int.reduceBEq, Nat.reduceMul, Int.reduceEq, Int.reduceLT, Int.reduceLE, Int.reduceAdd, Int.reduceSub, Int.reduceMul, Int.reduceToNat, Int.cast_ofNat_Int]))); repeat ((first | (refine cl_drawi 3 D98_3 (List.range 12) (by decide) (by kernel_rfl) ?_; unfold D98_3)); simp only [S, TY, reduceCtorEq, Nat.reduceEqDiff, Nat.reduceAdd, Nat.reduceLeDiff, Nat.reduceBEq, Int.reduceBEq, Nat.reduceMul, Int.reduceEq, Int.reduceLT, Int.reduceLE, Int.reduceAdd, Int.reduceSub, Int.reduceMul, Int.reduceToNat, Int.cast_ofNat_Int]; (try (simp (disch := omega) only [W2, Int.cast_ofNat_Int]; (try simp only [S, TY, reduceCtorEq, Nat.reduceEqDiff, Nat.reduceAdd, Nat.reduceLeDiff, Nat.reduceBEq, Int.reduceBEq, Nat.reduceMul, Int.reduceEq, Int.reduceLT, Int.reduceLE, Int.reduceAdd, Int.reduceSub, Int.reduceMul, Int.reduceToNat, Int.cast_ofNat_Int])))))
      exact fin_take (B := [isV p ⟨w.b ++ num N X, w.wrong⟩]) (isV_shut (w := ⟨w.b ++ num N X, w.wrong⟩) h5) (by unfold W.vput; rw [if_pos ⟨by omega, by omega, hf⟩]; rfl)
    · rw [decide_eq_false hf]
      ((try simp only [S, TY, reduceCtorEq, Nat.reduceEqDiff, Nat.reduceAdd, Nat.reduceLeDiff, Nat.reduceBEq, Int.reduceBEq, Nat.reduceMul, Int.reduceEq, Int.reduceLT, Int.reduceLE, Int.reduceAdd, Int.reduceSub, Int.reduceMul, Int.reduceToNat, Int.cast_ofNat_Int]); (try (simp (disch := omega) only [W2, Int.cast_ofNat_Int]; (try simp only [S, TY, reduceCtorEq, Nat.reduceEqDiff, Nat.reduceAdd, Nat.reduceLeDiff, Nat.reduceBEq, Int.reduceBEq, Nat.reduceMul, Int.reduceEq, Int.reduceLT, Int.reduceLE, Int.reduceAdd, Int.reduceSub, Int.reduceMul, Int.reduceToNat, Int.cast_ofNat_Int]))); repeat ((first | (refine cl_drawi 3 D98_3 (List.range 12) (by decide) (by kernel_rfl) ?_; unfold D98_3)); simp only [S, TY, reduceCtorEq, Nat.reduceEqDiff, Nat.reduceAdd, Nat.reduceLeDiff, Nat.reduceBEq, Int.reduceBEq, Nat.reduceMul, Int.reduceEq, Int.reduceLT, Int.reduceLE, Int.reduceAdd, Int.reduceSub, Int.reduceMul, Int.reduceToNat, Int.cast_ofNat_Int]; (try (simp (disch := omega) only [W2, Int.cast_ofNat_Int]; (try simp only [S, TY, reduceCtorEq, Nat.reduceEqDiff, Nat.reduceAdd, Nat.reduceLeDiff, Nat.reduceBEq, Int.reduceBEq, Nat.reduceMul, Int.reduceEq, Int.reduceLT, Int.reduceLE, Int.reduceAdd, Int.reduceSub, Int.reduceMul, Int.reduceToNat, Int.cast_ofNat_Int])))))
      refine sg.st h2 rfl rfl fun H3 h3 => ?_
      simp only [front_eq, fronts_nil, fronts_cons, List.getElem?_cons_zero, List.getElem?_cons_succ, List.eraseIdx_cons_zero, List.eraseIdx_cons_succ, List.cons_append, List.nil_append, putL_cons, putL_nil, List.set_cons_zero, List.set_cons_succ, Nat.reduceAdd] at h3
      ((try simp only [S, TY, reduceCtorEq, Nat.reduceEqDiff, Nat.reduceAdd, Nat.reduceLeDiff, Nat.reduceBEq, Int.reduceBEq, Nat.reduceMul, Int.reduceEq, Int.reduceLT, Int.reduceLE, Int.reduceAdd, Int.reduceSub, Int.reduceMul, Int.reduceToNat, Int.cast_ofNat_Int]); (try (simp (disch := omega) only [W2, Int.cast_ofNat_Int]; (try simp only [S, TY, reduceCtorEq, Nat.reduceEqDiff, Nat.reduceAdd, Nat.reduceLeDiff, Nat.reduceBEq, Int.reduceBEq, Nat.reduceMul, Int.reduceEq, Int.reduceLT, Int.reduceLE, Int.reduceAdd, Int.reduceSub, Int.reduceMul, Int.reduceToNat, Int.cast_ofNat_Int]))); repeat ((first | (refine cl_drawi 3 D98_3 (List.range 12) (by decide) (by kernel_rfl) ?_; unfold D98_3)); simp only [S, TY, reduceCtorEq, Nat.reduceEqDiff, Nat.reduceAdd, Nat.reduceLeDiff, Nat.reduceBEq, Int.reduceBEq, Nat.reduceMul, Int.reduceEq, Int.reduceLT, Int.reduceLE, Int.reduceAdd, Int.reduceSub, Int.reduceMul, Int.reduceToNat, Int.cast_ofNat_Int]; (try (simp (disch := omega) only [W2, Int.cast_ofNat_Int]; (try simp only [S, TY, reduceCtorEq, Nat.reduceEqDiff, Nat.reduceAdd, Nat.reduceLeDiff, Nat.reduceBEq, Int.reduceBEq, Nat.reduceMul, Int.reduceEq, Int.reduceLT, Int.reduceLE, Int.reduceAdd, Int.reduceSub, Int.reduceMul, Int.reduceToNat, Int.cast_ofNat_Int])))))
      exact fin_ret (isV_shut (w := ⟨w.b, true⟩) h3) (by unfold W.vput; rw [if_neg (fun q => hf q.2.2)])
def vputs (w : W) (n : Int) (l : List Int) : W := l.foldl (W.vput n) (if n < 1 ∨ 8 < n then ⟨w.b, true⟩ else w)
theorem vput_le (n : Int) (w : W) (x : Int) : (W.vput n w x).b.length ≤ w.b.length + 8 := by
  unfold W.vput; split
  · simp [num_length]; omega
  · simp
theorem vfold_le (n : Int) (l : List Int) : ∀ w : W, (l.foldl (W.vput n) w).b.length ≤ w.b.length + 8 * l.length := by
  induction l with
  | nil => intro w; simp
  | cons x l ih => intro w; have := ih (W.vput n w x); have := vput_le n w x; simp only [List.foldl_cons, List.length_cons]; omega
theorem vputs_eq (w : W) (n : Int) (l : List Int) : vputs w n l = w.put n l := by
  unfold vputs W.put
  by_cases h : n < 1 ∨ 8 < n
  · rw [if_pos h, if_pos h]
    have : ∀ (l : List Int) (b : List UInt8), l.foldl (W.vput n) ⟨b, true⟩ = ⟨b, true⟩ := by
      intro l
      induction l with
      | nil => intro b; rfl
      | cons x l ih => intro b; rw [List.foldl_cons]; unfold W.vput; rw [if_neg (by omega)]; exact ih b
    exact this l w.b
  · rw [if_neg h, if_neg h]
    congr 1
    funext w x
    unfold W.vput W.put1
    by_cases hf : fits n x
    · rw [if_pos ⟨by omega, by omega, hf⟩, if_pos hf]
    · rw [if_neg (fun q => hf q.2.2), if_neg hf]
end Go.Proofs.Ytfjmejideoklpaa.BufD
