/- The law on what becomes of a guest's frame. -/
import Derived.Test.YtfjmejideoklpaaDpL
set_option linter.unusedVariables false
set_option linter.unusedSimpArgs false
set_option maxRecDepth 10000
set_option maxHeartbeats 2000000
namespace Go.Proofs.Ytfjmejideoklpaa.DpM
open Nat renaming reduceEqDiff → nq0, reduceAdd → nq1, reduceLeDiff → nq2, reduceBEq → nq3, reduceMul → nq4
open Int renaming reduceBEq → iq0, reduceEq → iq1, reduceLT → iq2, reduceLE → iq3, reduceAdd → iq4, reduceSub → iq5, reduceMul → iq6, reduceToNat → iq7, cast_ofNat_Int → iq8
open Go Go.Sl Go.Proofs Go.Proofs.Ytfjmejideoklpaa.Eth Go.Proofs.Ytfjmejideoklpaa.SoI Go.Proofs.Ytfjmejideoklpaa.SoM Go.Proofs.Ytfjmejideoklpaa.Fl Go.Proofs.Ytfjmejideoklpaa.FlT Go.Proofs.Ytfjmejideoklpaa.Dp Go.Proofs.Ytfjmejideoklpaa.DpG Go.Proofs.Ytfjmejideoklpaa.DpD
theorem TY : aggN Try.prog 3 = some none ∧
  aggN Try.prog 5 = some none ∧
  aggN Try.prog 33 = some none ∧
  aggN Try.prog 34 = some none ∧
  aggN Try.prog 56 = some none ∧
  aggN Try.prog 59 = some none ∧
  aggN Try.prog 63 = some none ∧
  aggN Try.prog 77 = some (some 11) ∧
  aggN Try.prog 80 = some (some 11) ∧
  aggN Try.prog 127 = some (some 4) ∧
  aggN Try.prog 129 = some (some 2) ∧
  aggN Try.prog 135 = some (some 13) ∧
  aggN Try.prog 139 = some (some 13) ∧
  apI Try.prog 33 = some (5, 1, 1) ∧
  apI Try.prog 56 = some (80, 11, 88) ∧
  apI Try.prog 63 = some (77, 11, 88) ∧
  bIs Try.prog 77 = true ∧
  bIs Try.prog 80 = true ∧
  bIs Try.prog 127 = true ∧
  bIs Try.prog 129 = true ∧
  bIs Try.prog 135 = true ∧
  bIs Try.prog 139 = true ∧
  bySl Try.prog 33 = true ∧
  csz Try.prog 3 = some 1 ∧
  csz Try.prog 5 = some 1 ∧
  csz Try.prog 33 = some 1 ∧
  csz Try.prog 34 = some 1 ∧
  csz Try.prog 56 = some 1 ∧
  csz Try.prog 59 = some 1 ∧
  csz Try.prog 63 = some 1 ∧
  csz Try.prog 77 = some 11 ∧
  csz Try.prog 80 = some 11 ∧
  csz Try.prog 127 = some 4 ∧
  csz Try.prog 129 = some 2 ∧
  csz Try.prog 135 = some 13 ∧
  csz Try.prog 139 = some 13 ∧
  eqF Try.prog 77 = some [.i, .i, .i, .i, .i, .i, .i, .i, .i, .i, .i] ∧
  eqF Try.prog 80 = some [.i, .i, .i, .i, .i, .i, .i, .i, .i, .i, .i] ∧
  eqF Try.prog 129 = some [.i, .i] ∧
  fIs Try.prog 127 3 = true ∧
  fIs Try.prog 129 0 = true ∧
  fIs Try.prog 129 1 = true ∧
  fOff Try.prog 127 3 = 3 ∧
  fOff Try.prog 129 0 = 0 ∧
  fOff Try.prog 129 1 = 1 ∧
  fTy Try.prog 127 3 = 33 ∧
  fTy Try.prog 129 0 = 3 ∧
  fTy Try.prog 129 1 = 3 ∧
  goes Try.prog 36 = true ∧
  goes Try.prog 38 = true ∧
  goes Try.prog 76 = true ∧
  goes Try.prog 77 = true ∧
  goes Try.prog 78 = true ∧
  goes Try.prog 79 = true ∧
  goes Try.prog 80 = true ∧
  goes Try.prog 81 = true ∧
  inIs Try.prog 3 = some .i64 ∧
  inIs Try.prog 5 = some .u8 ∧
  inIs Try.prog 34 = some .i64 ∧
  plcs Try.prog 77 = [(0, 1), (1, 1), (2, 1), (3, 1), (4, 1), (5, 1), (6, 1), (7, 4)] ∧
  plcs Try.prog 80 = [(0, 1), (1, 1), (2, 1), (3, 1), (4, 1), (5, 1), (6, 1), (7, 4)] ∧
  plcs Try.prog 127 = [(0, 1), (1, 1), (2, 1), (3, 1)] ∧
  plcs Try.prog 129 = [(0, 1), (1, 1)] ∧
  plcs Try.prog 135 = [(0, 1), (1, 1), (2, 1), (3, 1), (4, 1), (5, 8)] ∧
  plcs Try.prog 139 = [(0, 1), (1, 1), (2, 1), (3, 1), (4, 1), (5, 8)] ∧
  ptIs Try.prog 59 = true ∧
  slEl Try.prog 33 = 5 ∧
  slEl Try.prog 56 = 80 ∧
  slEl Try.prog 63 = 77 ∧
  slIs Try.prog 33 = true ∧
  slIs Try.prog 56 = true ∧
  slIs Try.prog 63 = true ∧
  slSz Try.prog 33 = 1 ∧
  slSz Try.prog 56 = 11 ∧
  slSz Try.prog 63 = 11 ∧
  zcs Try.prog 77 = [.int .i64 0, .int .i64 0, .int .u64 0, .int .i64 0, .int .i64 0, .int .i64 0, .int .i64 0, .int .i64 0, .int .i64 0, .int .i64 0, .int .i64 0] ∧
  zcs Try.prog 80 = [.int .i64 0, .int .i64 0, .int .u64 0, .int .i64 0, .int .i64 0, .int .i64 0, .int .i64 0, .int .i64 0, .int .i64 0, .int .i64 0, .int .i64 0] ∧
  zcs Try.prog 127 = [.int .u64 0, .int .u64 0, .int .i64 0, .slice none 0 0] ∧
  zcs Try.prog 129 = [.int .i64 0, .int .i64 0] ∧
  zcs Try.prog 135 = [.int .i64 0, .int .i64 0, .int .i64 0, .int .i64 0, .slice none 0 0, .int .i64 0, .int .i64 0, .int .i64 0, .int .i64 0, .int .i64 0, .int .i64 0, .int .i64 0, .slice none 0 0] ∧
  zcs Try.prog 139 = [.int .i64 0, .int .i64 0, .int .i64 0, .int .i64 0, .string ByteArray.empty, .int .i64 0, .int .i64 0, .int .i64 0, .int .i64 0, .int .i64 0, .int .i64 0, .int .i64 0, .slice none 0 0] ∧
  zro Try.prog 3 = some (.int .i64 0) ∧
  zro Try.prog 5 = some (.int .u8 0) ∧
  zro Try.prog 33 = some (.slice none 0 0) ∧
  zro Try.prog 34 = some (.int .i64 0) ∧
  zro Try.prog 56 = some (.slice none 0 0) ∧
  zro Try.prog 59 = some (.pointer none) ∧
  zro Try.prog 63 = some (.slice none 0 0) ∧
  zro Try.prog 77 = some (.agg #[.int .i64 0, .int .i64 0, .int .u64 0, .int .i64 0, .int .i64 0, .int .i64 0, .int .i64 0, .int .i64 0, .int .i64 0, .int .i64 0, .int .i64 0]) ∧
  zro Try.prog 80 = some (.agg #[.int .i64 0, .int .i64 0, .int .u64 0, .int .i64 0, .int .i64 0, .int .i64 0, .int .i64 0, .int .i64 0, .int .i64 0, .int .i64 0, .int .i64 0]) ∧
  zro Try.prog 127 = some (.agg #[.int .u64 0, .int .u64 0, .int .i64 0, .slice none 0 0]) ∧
  zro Try.prog 129 = some (.agg #[.int .i64 0, .int .i64 0]) ∧
  zro Try.prog 135 = some (.agg #[.int .i64 0, .int .i64 0, .int .i64 0, .int .i64 0, .slice none 0 0, .int .i64 0, .int .i64 0, .int .i64 0, .int .i64 0, .int .i64 0, .int .i64 0, .int .i64 0, .slice none 0 0]) ∧
  zro Try.prog 139 = some (.agg #[.int .i64 0, .int .i64 0, .int .i64 0, .int .i64 0, .string ByteArray.empty, .int .i64 0, .int .i64 0, .int .i64 0, .int .i64 0, .int .i64 0, .int .i64 0, .int .i64 0, .slice none 0 0]) :=
  ⟨by kernel_rfl, by kernel_rfl, by kernel_rfl, by kernel_rfl, by kernel_rfl, by kernel_rfl, by kernel_rfl, by kernel_rfl, by kernel_rfl, by kernel_rfl, by kernel_rfl, by kernel_rfl, by kernel_rfl, by kernel_rfl, by kernel_rfl, by kernel_rfl, by kernel_rfl, by kernel_rfl, by kernel_rfl, by kernel_rfl, by kernel_rfl, by kernel_rfl, by kernel_rfl, by kernel_rfl, by kernel_rfl, by kernel_rfl, by kernel_rfl, by kernel_rfl, by kernel_rfl, by kernel_rfl, by kernel_rfl, by kernel_rfl, by kernel_rfl, by kernel_rfl, by kernel_rfl, by kernel_rfl, by kernel_rfl, by kernel_rfl, by kernel_rfl, by kernel_rfl, by kernel_rfl, by kernel_rfl, by kernel_rfl, by kernel_rfl, by kernel_rfl, by kernel_rfl, by kernel_rfl, by kernel_rfl, by kernel_rfl, by kernel_rfl, by kernel_rfl, by kernel_rfl, by kernel_rfl, by kernel_rfl, by kernel_rfl, by kernel_rfl, by kernel_rfl, by kernel_rfl, by kernel_rfl, by kernel_rfl, by kernel_rfl, by kernel_rfl, by kernel_rfl, by kernel_rfl, by kernel_rfl, by kernel_rfl, by kernel_rfl, by kernel_rfl, by kernel_rfl, by kernel_rfl, by kernel_rfl, by kernel_rfl, by kernel_rfl, by kernel_rfl, by kernel_rfl, by kernel_rfl, by kernel_rfl, by kernel_rfl, by kernel_rfl, by kernel_rfl, by kernel_rfl, by kernel_rfl, by kernel_rfl, by kernel_rfl, by kernel_rfl, by kernel_rfl, by kernel_rfl, by kernel_rfl, by kernel_rfl, by kernel_rfl, by kernel_rfl, by kernel_rfl, by kernel_rfl, by kernel_rfl⟩
def D14_6 : List Note := Go.Sl.nn [0, 3, 0, 1, 1, 0, 1, 3, 0, 0, 0, 2, 3, 0]
def D14_7 : List Note := Go.Sl.nn [1, 3, 1, 3, 0]
theorem Fits2 {G : Hp} {v : Value} {l : List UInt8} (d s t : Int) (hv : rds G 1 v (bv l)) : Con Try.prog G 76 [frv d s t v] [] (fun r B => r = .bool (decide (l.length ≤ 3000)) ∧ B = []) := by
  obtain ⟨a, n, c, rfl, e1, e2⟩ := hv.slice
  rw [bv_length, Nat.mul_one] at e1
  subst e1
  refine Con.intro Try.func76 rfl (Nat.le_of_ble_eq_true (by kernel_rfl)) (by kernel_rfl) Try.results76 ?_
  intro H h
  ((try simp only [S, TY, reduceCtorEq, nq0, nq1, nq2, nq3, nq4, iq0, iq1, iq2, iq3, iq4, iq5, iq6, iq7, iq8]); (try (simp (disch := omega) only [W2, Int.cast_ofNat_Int]; (try simp only [S, TY, reduceCtorEq, nq0, nq1, nq2, nq3, nq4, iq0, iq1, iq2, iq3, iq4, iq5, iq6, iq7, iq8]))))
  repeat' (((first
      | ((with_reducible show fin _ _ _); first | ((refine fin_take (B := []) h ⟨?_, rfl⟩; (refine bb ?_; (try simp only [BB]) <;> (first | omega | grind)))))
      | ((with_reducible show New _ _ _); first | (refine New_sl h 11 rfl (fun b H' h' => ?_); skip) | (refine New_qsl h 11 rfl (fun b => rfl) (fun b H' h' => ?_); skip) | (refine New_ob h (fun b H' h' => ?_); skip) | (refine New_qob h (fun b H' h' => ?_); skip))
      | ((with_reducible show St _ _); first | (refine sg.st (h.front 0) rfl rfl (fun H' h' => ?_); skip) | (refine sg.st (h.front 1) rfl rfl (fun H' h' => ?_); skip) | (refine sg.st (h.front 2) rfl rfl (fun H' h' => ?_); skip) | (refine sg.st (h.front 3) rfl rfl (fun H' h' => ?_); skip) | (refine sg.st (h.front 4) rfl rfl (fun H' h' => ?_); skip) | (refine sg.st (h.front 5) rfl rfl (fun H' h' => ?_); skip) | (refine sg.st (h.front 6) rfl rfl (fun H' h' => ?_); skip) | (refine sg.st (h.front 7) rfl rfl (fun H' h' => ?_); skip))
      | ((with_reducible show Gate _ _ _); refine Gate.intro (fun g => ?_) (fun g => ?_) <;> (try subst g))
      ) <;> ((try ((try simp only [row, En.l, Ky.l, Ac.l, front_eq] at h'); (try simp only [front_eq, fronts_nil, fronts_cons, List.getElem?_cons_zero, List.getElem?_cons_succ, List.eraseIdx_cons_zero, List.eraseIdx_cons_succ, List.cons_append, List.nil_append, putL_cons, putL_nil, List.set_cons_zero, List.set_cons_succ, Nat.reduceAdd] at h'); clear h; have h := h'; clear h'; (try have fc := h.ci 0 rfl); (try have fl := h.li 0 rfl); (try have fc := h.ci 1 rfl); (try have fl := h.li 1 rfl); (try have fc := h.ci 2 rfl); (try have fl := h.li 2 rfl); (try have fc := h.ci 3 rfl); (try have fl := h.li 3 rfl); (try have fc := h.ci 4 rfl); (try have fl := h.li 4 rfl); (try have fc := h.ci 5 rfl); (try have fl := h.li 5 rfl); (try have fc := h.ci 6 rfl); (try have fl := h.li 6 rfl); (try have fc := h.ci 7 rfl); (try have fl := h.li 7 rfl))); ((try simp only [S, TY, reduceCtorEq, nq0, nq1, nq2, nq3, nq4, iq0, iq1, iq2, iq3, iq4, iq5, iq6, iq7, iq8, *]); (try (simp (disch := omega) only [W2, Int.cast_ofNat_Int]; (try simp only [S, TY, reduceCtorEq, nq0, nq1, nq2, nq3, nq4, iq0, iq1, iq2, iq3, iq4, iq5, iq6, iq7, iq8, *])))))))
theorem guestLaw {G : Hp} {v w : Value} {l : List UInt8} {t : List En} (d s ty c id : Int) (hd : 0 ≤ d) (hs : 0 ≤ s) (hty : -9223372036854775808 ≤ ty ∧ ty ≤ 9223372036854775807) (hw : ens G w t) (hf : rds G 1 v (bv l)) :
    Con Try.prog G 14 [w, frv d s ty v, .agg #[.int .i64 c, .int .i64 id]] [] (fun r B => r = .bool true ∧ B = []) := by
  obtain ⟨va, vn, vc, rfl, -, -⟩ := hf.slice
  obtain ⟨a, n, cc, rfl, e1, e2⟩ := hw.slice
  rw [flat_len En.len] at e1
  obtain rfl : t.length = n := by omega
  clear e1
  obtain ⟨bf, kf⟩ : ∃ b, decide (l.length ≤ 3000) = b := ⟨_, rfl⟩
  by_cases k1 : (100 : Int) < t.length
  · refine Con.intro Try.func14 rfl (Nat.le_of_ble_eq_true (by kernel_rfl)) (by kernel_rfl) Try.results14 ?_
    intro H h
    ((try simp only [S, TY, reduceCtorEq, nq0, nq1, nq2, nq3, nq4, iq0, iq1, iq2, iq3, iq4, iq5, iq6, iq7, iq8, k1]); (try (simp (disch := omega) only [W2, Int.cast_ofNat_Int]; (try simp only [S, TY, reduceCtorEq, nq0, nq1, nq2, nq3, nq4, iq0, iq1, iq2, iq3, iq4, iq5, iq6, iq7, iq8, k1]))); repeat ((first | (refine cl_drawi 6 D14_6 ([0, 1, 2, 3, 4, 5, 6, 7, 8, 9, 12, 10, 11, 13]) (by decide) (by kernel_rfl) ?_; unfold D14_6) | (refine cl_drawi 7 D14_7 (List.range 5) (by decide) (by kernel_rfl) ?_; unfold D14_7)); simp only [S, TY, reduceCtorEq, nq0, nq1, nq2, nq3, nq4, iq0, iq1, iq2, iq3, iq4, iq5, iq6, iq7, iq8, k1]; (try (simp (disch := omega) only [W2, Int.cast_ofNat_Int]; (try simp only [S, TY, reduceCtorEq, nq0, nq1, nq2, nq3, nq4, iq0, iq1, iq2, iq3, iq4, iq5, iq6, iq7, iq8, k1])))))
    repeat' (((first
        | ((with_reducible show CallsH _ _ 76 _ _ _); (refine (Fits2 d s ty hf).at_ h [] _ rfl (fun r B H' hr h' => ?_); obtain ⟨rfl, rfl⟩ := hr; rw [kf]; skip))
        | ((with_reducible show CallsH _ _ 77 _ _ _); first | (refine (DpL.alive).at_ h [] _ rfl (fun r B H' hr h' => ?_); obtain ⟨rfl, rfl⟩ := hr; skip))
        | ((with_reducible show fin _ _ _); first | (exact fin_take (B := []) h ⟨by simp, rfl⟩))
        | ((with_reducible show New _ _ _); first | (refine New_sl h 11 rfl (fun b H' h' => ?_); skip) | (refine New_qsl h 11 rfl (fun b => rfl) (fun b H' h' => ?_); skip) | (refine New_ob h (fun b H' h' => ?_); skip) | (refine New_qob h (fun b H' h' => ?_); skip))
        | ((with_reducible show St _ _); first | (refine sg.st (h.front 0) rfl rfl (fun H' h' => ?_); skip) | (refine sg.st (h.front 1) rfl rfl (fun H' h' => ?_); skip) | (refine sg.st (h.front 2) rfl rfl (fun H' h' => ?_); skip) | (refine sg.st (h.front 3) rfl rfl (fun H' h' => ?_); skip) | (refine sg.st (h.front 4) rfl rfl (fun H' h' => ?_); skip) | (refine sg.st (h.front 5) rfl rfl (fun H' h' => ?_); skip) | (refine sg.st (h.front 6) rfl rfl (fun H' h' => ?_); skip) | (refine sg.st (h.front 7) rfl rfl (fun H' h' => ?_); skip))
        | ((with_reducible show Gate _ _ _); refine Gate.intro (fun g => ?_) (fun g => ?_) <;> (try subst g))
        ) <;> ((try ((try simp only [row, En.l, Ky.l, Ac.l, front_eq] at h'); (try simp only [front_eq, fronts_nil, fronts_cons, List.getElem?_cons_zero, List.getElem?_cons_succ, List.eraseIdx_cons_zero, List.eraseIdx_cons_succ, List.cons_append, List.nil_append, putL_cons, putL_nil, List.set_cons_zero, List.set_cons_succ, Nat.reduceAdd] at h'); clear h; have h := h'; clear h'; (try have fc := h.ci 0 rfl); (try have fl := h.li 0 rfl); (try have fc := h.ci 1 rfl); (try have fl := h.li 1 rfl); (try have fc := h.ci 2 rfl); (try have fl := h.li 2 rfl); (try have fc := h.ci 3 rfl); (try have fl := h.li 3 rfl); (try have fc := h.ci 4 rfl); (try have fl := h.li 4 rfl); (try have fc := h.ci 5 rfl); (try have fl := h.li 5 rfl); (try have fc := h.ci 6 rfl); (try have fl := h.li 6 rfl); (try have fc := h.ci 7 rfl); (try have fl := h.li 7 rfl))); ((try simp only [S, TY, reduceCtorEq, nq0, nq1, nq2, nq3, nq4, iq0, iq1, iq2, iq3, iq4, iq5, iq6, iq7, iq8, k1, *]); (try (simp (disch := omega) only [W2, Int.cast_ofNat_Int]; (try simp only [S, TY, reduceCtorEq, nq0, nq1, nq2, nq3, nq4, iq0, iq1, iq2, iq3, iq4, iq5, iq6, iq7, iq8, k1, *]))); repeat ((first | (refine cl_drawi 6 D14_6 ([0, 1, 2, 3, 4, 5, 6, 7, 8, 9, 12, 10, 11, 13]) (by decide) (by kernel_rfl) ?_; unfold D14_6) | (refine cl_drawi 7 D14_7 (List.range 5) (by decide) (by kernel_rfl) ?_; unfold D14_7)); simp only [S, TY, reduceCtorEq, nq0, nq1, nq2, nq3, nq4, iq0, iq1, iq2, iq3, iq4, iq5, iq6, iq7, iq8, k1, *]; (try (simp (disch := omega) only [W2, Int.cast_ofNat_Int]; (try simp only [S, TY, reduceCtorEq, nq0, nq1, nq2, nq3, nq4, iq0, iq1, iq2, iq3, iq4, iq5, iq6, iq7, iq8, k1, *]))))))))
  · cases bf with
    | false =>
      refine Con.intro Try.func14 rfl (Nat.le_of_ble_eq_true (by kernel_rfl)) (by kernel_rfl) Try.results14 ?_
      intro H h
      ((try simp only [S, TY, reduceCtorEq, nq0, nq1, nq2, nq3, nq4, iq0, iq1, iq2, iq3, iq4, iq5, iq6, iq7, iq8, k1]); (try (simp (disch := omega) only [W2, Int.cast_ofNat_Int]; (try simp only [S, TY, reduceCtorEq, nq0, nq1, nq2, nq3, nq4, iq0, iq1, iq2, iq3, iq4, iq5, iq6, iq7, iq8, k1]))); repeat ((first | (refine cl_drawi 6 D14_6 ([0, 1, 2, 3, 4, 5, 6, 7, 8, 9, 12, 10, 11, 13]) (by decide) (by kernel_rfl) ?_; unfold D14_6) | (refine cl_drawi 7 D14_7 (List.range 5) (by decide) (by kernel_rfl) ?_; unfold D14_7)); simp only [S, TY, reduceCtorEq, nq0, nq1, nq2, nq3, nq4, iq0, iq1, iq2, iq3, iq4, iq5, iq6, iq7, iq8, k1]; (try (simp (disch := omega) only [W2, Int.cast_ofNat_Int]; (try simp only [S, TY, reduceCtorEq, nq0, nq1, nq2, nq3, nq4, iq0, iq1, iq2, iq3, iq4, iq5, iq6, iq7, iq8, k1])))))
      repeat' (((first
          | ((with_reducible show CallsH _ _ 76 _ _ _); (refine (Fits2 d s ty hf).at_ h [] _ rfl (fun r B H' hr h' => ?_); obtain ⟨rfl, rfl⟩ := hr; rw [kf]; skip))
          | ((with_reducible show CallsH _ _ 77 _ _ _); first | (refine (DpL.alive).at_ h [] _ rfl (fun r B H' hr h' => ?_); obtain ⟨rfl, rfl⟩ := hr; skip))
          | ((with_reducible show fin _ _ _); first | (exact fin_take (B := []) h ⟨by simp, rfl⟩))
          | ((with_reducible show New _ _ _); first | (refine New_sl h 11 rfl (fun b H' h' => ?_); skip) | (refine New_qsl h 11 rfl (fun b => rfl) (fun b H' h' => ?_); skip) | (refine New_ob h (fun b H' h' => ?_); skip) | (refine New_qob h (fun b H' h' => ?_); skip))
          | ((with_reducible show St _ _); first | (refine sg.st (h.front 0) rfl rfl (fun H' h' => ?_); skip) | (refine sg.st (h.front 1) rfl rfl (fun H' h' => ?_); skip) | (refine sg.st (h.front 2) rfl rfl (fun H' h' => ?_); skip) | (refine sg.st (h.front 3) rfl rfl (fun H' h' => ?_); skip) | (refine sg.st (h.front 4) rfl rfl (fun H' h' => ?_); skip) | (refine sg.st (h.front 5) rfl rfl (fun H' h' => ?_); skip) | (refine sg.st (h.front 6) rfl rfl (fun H' h' => ?_); skip) | (refine sg.st (h.front 7) rfl rfl (fun H' h' => ?_); skip))
          | ((with_reducible show Gate _ _ _); refine Gate.intro (fun g => ?_) (fun g => ?_) <;> (try subst g))
          ) <;> ((try ((try simp only [row, En.l, Ky.l, Ac.l, front_eq] at h'); (try simp only [front_eq, fronts_nil, fronts_cons, List.getElem?_cons_zero, List.getElem?_cons_succ, List.eraseIdx_cons_zero, List.eraseIdx_cons_succ, List.cons_append, List.nil_append, putL_cons, putL_nil, List.set_cons_zero, List.set_cons_succ, Nat.reduceAdd] at h'); clear h; have h := h'; clear h'; (try have fc := h.ci 0 rfl); (try have fl := h.li 0 rfl); (try have fc := h.ci 1 rfl); (try have fl := h.li 1 rfl); (try have fc := h.ci 2 rfl); (try have fl := h.li 2 rfl); (try have fc := h.ci 3 rfl); (try have fl := h.li 3 rfl); (try have fc := h.ci 4 rfl); (try have fl := h.li 4 rfl); (try have fc := h.ci 5 rfl); (try have fl := h.li 5 rfl); (try have fc := h.ci 6 rfl); (try have fl := h.li 6 rfl); (try have fc := h.ci 7 rfl); (try have fl := h.li 7 rfl))); ((try simp only [S, TY, reduceCtorEq, nq0, nq1, nq2, nq3, nq4, iq0, iq1, iq2, iq3, iq4, iq5, iq6, iq7, iq8, k1, *]); (try (simp (disch := omega) only [W2, Int.cast_ofNat_Int]; (try simp only [S, TY, reduceCtorEq, nq0, nq1, nq2, nq3, nq4, iq0, iq1, iq2, iq3, iq4, iq5, iq6, iq7, iq8, k1, *]))); repeat ((first | (refine cl_drawi 6 D14_6 ([0, 1, 2, 3, 4, 5, 6, 7, 8, 9, 12, 10, 11, 13]) (by decide) (by kernel_rfl) ?_; unfold D14_6) | (refine cl_drawi 7 D14_7 (List.range 5) (by decide) (by kernel_rfl) ?_; unfold D14_7)); simp only [S, TY, reduceCtorEq, nq0, nq1, nq2, nq3, nq4, iq0, iq1, iq2, iq3, iq4, iq5, iq6, iq7, iq8, k1, *]; (try (simp (disch := omega) only [W2, Int.cast_ofNat_Int]; (try simp only [S, TY, reduceCtorEq, nq0, nq1, nq2, nq3, nq4, iq0, iq1, iq2, iq3, iq4, iq5, iq6, iq7, iq8, k1, *]))))))))
    | true =>
      cases hg : gok d s ty l.length c id with
      | true =>
        obtain ⟨oc, hoc⟩ : ∃ o, wayM (lookT ⟨0, d, 0, 0, -1⟩ t).1 c id (enc d s ty l).length = o := ⟨_, rfl⟩
        refine Con.intro Try.func14 rfl (Nat.le_of_ble_eq_true (by kernel_rfl)) (by kernel_rfl) Try.results14 ?_
        intro H h
        ((try simp only [S, TY, reduceCtorEq, nq0, nq1, nq2, nq3, nq4, iq0, iq1, iq2, iq3, iq4, iq5, iq6, iq7, iq8, k1]); (try (simp (disch := omega) only [W2, Int.cast_ofNat_Int]; (try simp only [S, TY, reduceCtorEq, nq0, nq1, nq2, nq3, nq4, iq0, iq1, iq2, iq3, iq4, iq5, iq6, iq7, iq8, k1]))); repeat ((first | (refine cl_drawi 6 D14_6 ([0, 1, 2, 3, 4, 5, 6, 7, 8, 9, 12, 10, 11, 13]) (by decide) (by kernel_rfl) ?_; unfold D14_6) | (refine cl_drawi 7 D14_7 (List.range 5) (by decide) (by kernel_rfl) ?_; unfold D14_7)); simp only [S, TY, reduceCtorEq, nq0, nq1, nq2, nq3, nq4, iq0, iq1, iq2, iq3, iq4, iq5, iq6, iq7, iq8, k1]; (try (simp (disch := omega) only [W2, Int.cast_ofNat_Int]; (try simp only [S, TY, reduceCtorEq, nq0, nq1, nq2, nq3, nq4, iq0, iq1, iq2, iq3, iq4, iq5, iq6, iq7, iq8, k1])))))
        iterate 8 (all_goals (try ((first
            | ((with_reducible show CallsH _ _ 36 _ _ _); (refine (New_ok FlL.hk1 hw (by omega)).at_ h [] _ rfl (fun r B H' hr h' => ?_); obtain ⟨p, rfl, rfl⟩ := FlL.NewR_yes (by omega) hr; clear hr; skip))
            | ((with_reducible show CallsH _ _ 76 _ _ _); (refine (Fits2 d s ty hf).at_ h [] _ rfl (fun r B H' hr h' => ?_); obtain ⟨rfl, rfl⟩ := hr; rw [kf]; skip))
            | ((with_reducible show CallsH _ _ 77 _ _ _); first | (refine (DpL.alive).at_ h [] _ rfl (fun r B H' hr h' => ?_); obtain ⟨rfl, rfl⟩ := hr; skip))
            | ((with_reducible show fin _ _ _); first | (exact fin_take (B := []) h ⟨by simp, rfl⟩))
            | ((with_reducible show New _ _ _); first | (refine New_sl h 11 rfl (fun b H' h' => ?_); skip) | (refine New_qsl h 11 rfl (fun b => rfl) (fun b H' h' => ?_); skip) | (refine New_ob h (fun b H' h' => ?_); skip) | (refine New_qob h (fun b H' h' => ?_); skip))
            | ((with_reducible show St _ _); first | (refine sg.st (h.front 0) rfl rfl (fun H' h' => ?_); skip) | (refine sg.st (h.front 1) rfl rfl (fun H' h' => ?_); skip) | (refine sg.st (h.front 2) rfl rfl (fun H' h' => ?_); skip) | (refine sg.st (h.front 3) rfl rfl (fun H' h' => ?_); skip) | (refine sg.st (h.front 4) rfl rfl (fun H' h' => ?_); skip) | (refine sg.st (h.front 5) rfl rfl (fun H' h' => ?_); skip) | (refine sg.st (h.front 6) rfl rfl (fun H' h' => ?_); skip) | (refine sg.st (h.front 7) rfl rfl (fun H' h' => ?_); skip))
            | ((with_reducible show Gate _ _ _); refine Gate.intro (fun g => ?_) (fun g => ?_) <;> (try subst g))
            ) <;> ((try ((try simp only [row, En.l, Ky.l, Ac.l, front_eq] at h'); (try simp only [front_eq, fronts_nil, fronts_cons, List.getElem?_cons_zero, List.getElem?_cons_succ, List.eraseIdx_cons_zero, List.eraseIdx_cons_succ, List.cons_append, List.nil_append, putL_cons, putL_nil, List.set_cons_zero, List.set_cons_succ, Nat.reduceAdd] at h'); clear h; have h := h'; clear h'; (try have fc := h.ci 0 rfl); (try have fl := h.li 0 rfl); (try have fc := h.ci 1 rfl); (try have fl := h.li 1 rfl); (try have fc := h.ci 2 rfl); (try have fl := h.li 2 rfl); (try have fc := h.ci 3 rfl); (try have fl := h.li 3 rfl); (try have fc := h.ci 4 rfl); (try have fl := h.li 4 rfl); (try have fc := h.ci 5 rfl); (try have fl := h.li 5 rfl); (try have fc := h.ci 6 rfl); (try have fl := h.li 6 rfl); (try have fc := h.ci 7 rfl); (try have fl := h.li 7 rfl))); ((try simp only [S, TY, reduceCtorEq, nq0, nq1, nq2, nq3, nq4, iq0, iq1, iq2, iq3, iq4, iq5, iq6, iq7, iq8, k1, *]); (try (simp (disch := omega) only [W2, Int.cast_ofNat_Int]; (try simp only [S, TY, reduceCtorEq, nq0, nq1, nq2, nq3, nq4, iq0, iq1, iq2, iq3, iq4, iq5, iq6, iq7, iq8, k1, *]))); repeat ((first | (refine cl_drawi 6 D14_6 ([0, 1, 2, 3, 4, 5, 6, 7, 8, 9, 12, 10, 11, 13]) (by decide) (by kernel_rfl) ?_; unfold D14_6) | (refine cl_drawi 7 D14_7 (List.range 5) (by decide) (by kernel_rfl) ?_; unfold D14_7)); simp only [S, TY, reduceCtorEq, nq0, nq1, nq2, nq3, nq4, iq0, iq1, iq2, iq3, iq4, iq5, iq6, iq7, iq8, k1, *]; (try (simp (disch := omega) only [W2, Int.cast_ofNat_Int]; (try simp only [S, TY, reduceCtorEq, nq0, nq1, nq2, nq3, nq4, iq0, iq1, iq2, iq3, iq4, iq5, iq6, iq7, iq8, k1, *])))))))))
        refine (DpG.Guest_ok d s ty hd hs hty hf (by omega) c id).at_ h [0] _ rfl (fun r B H' hr h' => ?_)
        unfold DpG.GuestR at hr
        rw [if_pos hg, hoc] at hr
        obtain ⟨u, rfl, rfl⟩ := hr
        obtain ⟨ua, un, uc, rfl, _, _⟩ := h'.sl 0 rfl Rd_own
        clear h
        simp only [front_eq, fronts_nil, fronts_cons, List.getElem?_cons_zero, List.getElem?_cons_succ, List.eraseIdx_cons_zero, List.eraseIdx_cons_succ, List.cons_append, List.nil_append, putL_cons, putL_nil, List.set_cons_zero, List.set_cons_succ, Nat.reduceAdd] at h'
        have h := h'
        clear h'
        cases oc with
        | drop =>
          ((try simp only [S, TY, reduceCtorEq, nq0, nq1, nq2, nq3, nq4, iq0, iq1, iq2, iq3, iq4, iq5, iq6, iq7, iq8, k1]); (try (simp (disch := omega) only [W2, Int.cast_ofNat_Int]; (try simp only [S, TY, reduceCtorEq, nq0, nq1, nq2, nq3, nq4, iq0, iq1, iq2, iq3, iq4, iq5, iq6, iq7, iq8, k1]))); repeat ((first | (refine cl_drawi 6 D14_6 ([0, 1, 2, 3, 4, 5, 6, 7, 8, 9, 12, 10, 11, 13]) (by decide) (by kernel_rfl) ?_; unfold D14_6) | (refine cl_drawi 7 D14_7 (List.range 5) (by decide) (by kernel_rfl) ?_; unfold D14_7)); simp only [S, TY, reduceCtorEq, nq0, nq1, nq2, nq3, nq4, iq0, iq1, iq2, iq3, iq4, iq5, iq6, iq7, iq8, k1]; (try (simp (disch := omega) only [W2, Int.cast_ofNat_Int]; (try simp only [S, TY, reduceCtorEq, nq0, nq1, nq2, nq3, nq4, iq0, iq1, iq2, iq3, iq4, iq5, iq6, iq7, iq8, k1])))))
          iterate 30 (all_goals (try ((first
              | ((with_reducible show CallsH _ _ 38 _ _ _); (refine (FlD.Of_ok hw (by omega)).at_ h [] _ rfl (fun r B H' hr h' => ?_); subst hr; obtain ⟨ma, mn, mc, rfl, _, _⟩ := h'.sl 0 rfl Rd_own; skip))
              | ((with_reducible show CallsH _ _ 79 _ _ _); (refine Con.lend_at [] [own 77 11 _ (t.flatMap En.l)] h [0] rfl (fun F hF hs' => dGuest_ok d s ty hd hs (hf.mono (un_le_r hF)) (seps_own hs' 0 rfl).left (by omega) c id) (fun r B H' hr h' => ?_); unfold dGuestR at hr; rw [if_pos hg, hoc] at hr; obtain ⟨w1, rfl, rfl⟩ := hr; obtain ⟨wa, wn, wc, rfl, _, _⟩ := h'.sl 0 rfl Rd_own; skip))
              | ((with_reducible show CallsH _ _ 81 _ _ _); first | (refine Con.lend_at [] [own 5 1 (.slice ua un uc) (bv (enc d s ty l))] h [4] rfl (fun F hF hs' => DpD.Of_ok (seps_own hs' 0 rfl).left .drop) (fun r B H' hr h' => ?_); obtain ⟨rfl, rfl⟩ := hr; skip) | (refine Con.lend_at [] [own 5 1 (.slice ua un uc) (bv (enc d s ty l))] h [3] rfl (fun F hF hs' => DpD.Of_ok (seps_own hs' 0 rfl).left .drop) (fun r B H' hr h' => ?_); obtain ⟨rfl, rfl⟩ := hr; skip))
              | ((with_reducible show CallsH _ _ 80 _ _ _); first | (refine Con.lend_at [] [own 5 1 (.slice ua un uc) (bv (enc d s ty l)), own 5 1 (.slice wa wn wc) (bv (enc d s ty l))] h [0, 1] rfl (fun F hF hs' => DpD.Same_ok (seps_own hs' 0 rfl).left (seps_own hs' 1 rfl).left .drop) (fun r B H' hr h' => ?_); obtain ⟨rfl, rfl⟩ := hr; skip) | (refine Con.lend_at [] [own 5 1 (.slice ua un uc) (bv (enc d s ty l)), own 5 1 (.slice wa wn wc) (bv (enc d s ty l))] h [0, 2] rfl (fun F hF hs' => DpD.Same_ok (seps_own hs' 0 rfl).left (seps_own hs' 1 rfl).left .drop) (fun r B H' hr h' => ?_); obtain ⟨rfl, rfl⟩ := hr; skip))
              | ((with_reducible show CallsH _ _ 76 _ _ _); (refine (Fits2 d s ty hf).at_ h [] _ rfl (fun r B H' hr h' => ?_); obtain ⟨rfl, rfl⟩ := hr; rw [kf]; skip))
              | ((with_reducible show CallsH _ _ 77 _ _ _); first | (refine (DpL.alive).at_ h [] _ rfl (fun r B H' hr h' => ?_); obtain ⟨rfl, rfl⟩ := hr; skip))
              | ((with_reducible show fin _ _ _); first | (exact fin_take (B := []) h ⟨by simp, rfl⟩))
              | ((with_reducible show New _ _ _); first | (refine New_sl h 11 rfl (fun b H' h' => ?_); skip) | (refine New_qsl h 11 rfl (fun b => rfl) (fun b H' h' => ?_); skip) | (refine New_ob h (fun b H' h' => ?_); skip) | (refine New_qob h (fun b H' h' => ?_); skip))
              | ((with_reducible show St _ _); first | (refine sg.st (h.front 0) rfl rfl (fun H' h' => ?_); skip) | (refine sg.st (h.front 1) rfl rfl (fun H' h' => ?_); skip) | (refine sg.st (h.front 2) rfl rfl (fun H' h' => ?_); skip) | (refine sg.st (h.front 3) rfl rfl (fun H' h' => ?_); skip) | (refine sg.st (h.front 4) rfl rfl (fun H' h' => ?_); skip) | (refine sg.st (h.front 5) rfl rfl (fun H' h' => ?_); skip) | (refine sg.st (h.front 6) rfl rfl (fun H' h' => ?_); skip) | (refine sg.st (h.front 7) rfl rfl (fun H' h' => ?_); skip))
              | ((with_reducible show Gate _ _ _); refine Gate.intro (fun g => ?_) (fun g => ?_) <;> (try subst g))
              ) <;> ((try ((try simp only [row, En.l, Ky.l, Ac.l, front_eq] at h'); (try simp only [front_eq, fronts_nil, fronts_cons, List.getElem?_cons_zero, List.getElem?_cons_succ, List.eraseIdx_cons_zero, List.eraseIdx_cons_succ, List.cons_append, List.nil_append, putL_cons, putL_nil, List.set_cons_zero, List.set_cons_succ, Nat.reduceAdd] at h'); clear h; have h := h'; clear h'; (try have fc := h.ci 0 rfl); (try have fl := h.li 0 rfl); (try have fc := h.ci 1 rfl); (try have fl := h.li 1 rfl); (try have fc := h.ci 2 rfl); (try have fl := h.li 2 rfl); (try have fc := h.ci 3 rfl); (try have fl := h.li 3 rfl); (try have fc := h.ci 4 rfl); (try have fl := h.li 4 rfl); (try have fc := h.ci 5 rfl); (try have fl := h.li 5 rfl); (try have fc := h.ci 6 rfl); (try have fl := h.li 6 rfl); (try have fc := h.ci 7 rfl); (try have fl := h.li 7 rfl))); ((try simp only [S, TY, reduceCtorEq, nq0, nq1, nq2, nq3, nq4, iq0, iq1, iq2, iq3, iq4, iq5, iq6, iq7, iq8, k1, *]); (try (simp (disch := omega) only [W2, Int.cast_ofNat_Int]; (try simp only [S, TY, reduceCtorEq, nq0, nq1, nq2, nq3, nq4, iq0, iq1, iq2, iq3, iq4, iq5, iq6, iq7, iq8, k1, *]))); repeat ((first | (refine cl_drawi 6 D14_6 ([0, 1, 2, 3, 4, 5, 6, 7, 8, 9, 12, 10, 11, 13]) (by decide) (by kernel_rfl) ?_; unfold D14_6) | (refine cl_drawi 7 D14_7 (List.range 5) (by decide) (by kernel_rfl) ?_; unfold D14_7)); simp only [S, TY, reduceCtorEq, nq0, nq1, nq2, nq3, nq4, iq0, iq1, iq2, iq3, iq4, iq5, iq6, iq7, iq8, k1, *]; (try (simp (disch := omega) only [W2, Int.cast_ofNat_Int]; (try simp only [S, TY, reduceCtorEq, nq0, nq1, nq2, nq3, nq4, iq0, iq1, iq2, iq3, iq4, iq5, iq6, iq7, iq8, k1, *])))))))))
        | del p1 g1 s1 =>
          ((try simp only [S, TY, reduceCtorEq, nq0, nq1, nq2, nq3, nq4, iq0, iq1, iq2, iq3, iq4, iq5, iq6, iq7, iq8, k1]); (try (simp (disch := omega) only [W2, Int.cast_ofNat_Int]; (try simp only [S, TY, reduceCtorEq, nq0, nq1, nq2, nq3, nq4, iq0, iq1, iq2, iq3, iq4, iq5, iq6, iq7, iq8, k1]))); repeat ((first | (refine cl_drawi 6 D14_6 ([0, 1, 2, 3, 4, 5, 6, 7, 8, 9, 12, 10, 11, 13]) (by decide) (by kernel_rfl) ?_; unfold D14_6) | (refine cl_drawi 7 D14_7 (List.range 5) (by decide) (by kernel_rfl) ?_; unfold D14_7)); simp only [S, TY, reduceCtorEq, nq0, nq1, nq2, nq3, nq4, iq0, iq1, iq2, iq3, iq4, iq5, iq6, iq7, iq8, k1]; (try (simp (disch := omega) only [W2, Int.cast_ofNat_Int]; (try simp only [S, TY, reduceCtorEq, nq0, nq1, nq2, nq3, nq4, iq0, iq1, iq2, iq3, iq4, iq5, iq6, iq7, iq8, k1])))))
          iterate 30 (all_goals (try ((first
              | ((with_reducible show CallsH _ _ 38 _ _ _); (refine (FlD.Of_ok hw (by omega)).at_ h [] _ rfl (fun r B H' hr h' => ?_); subst hr; obtain ⟨ma, mn, mc, rfl, _, _⟩ := h'.sl 0 rfl Rd_own; skip))
              | ((with_reducible show CallsH _ _ 79 _ _ _); (refine Con.lend_at [] [own 77 11 _ (t.flatMap En.l)] h [0] rfl (fun F hF hs' => dGuest_ok d s ty hd hs (hf.mono (un_le_r hF)) (seps_own hs' 0 rfl).left (by omega) c id) (fun r B H' hr h' => ?_); unfold dGuestR at hr; rw [if_pos hg, hoc] at hr; obtain ⟨w1, rfl, rfl⟩ := hr; obtain ⟨wa, wn, wc, rfl, _, _⟩ := h'.sl 0 rfl Rd_own; skip))
              | ((with_reducible show CallsH _ _ 81 _ _ _); first | (refine Con.lend_at [] [own 5 1 (.slice ua un uc) (bv (enc d s ty l))] h [4] rfl (fun F hF hs' => DpD.Of_ok (seps_own hs' 0 rfl).left (.del p1 g1 s1)) (fun r B H' hr h' => ?_); obtain ⟨rfl, rfl⟩ := hr; skip) | (refine Con.lend_at [] [own 5 1 (.slice ua un uc) (bv (enc d s ty l))] h [3] rfl (fun F hF hs' => DpD.Of_ok (seps_own hs' 0 rfl).left (.del p1 g1 s1)) (fun r B H' hr h' => ?_); obtain ⟨rfl, rfl⟩ := hr; skip))
              | ((with_reducible show CallsH _ _ 80 _ _ _); first | (refine Con.lend_at [] [own 5 1 (.slice ua un uc) (bv (enc d s ty l)), own 5 1 (.slice wa wn wc) (bv (enc d s ty l))] h [0, 1] rfl (fun F hF hs' => DpD.Same_ok (seps_own hs' 0 rfl).left (seps_own hs' 1 rfl).left (.del p1 g1 s1)) (fun r B H' hr h' => ?_); obtain ⟨rfl, rfl⟩ := hr; skip) | (refine Con.lend_at [] [own 5 1 (.slice ua un uc) (bv (enc d s ty l)), own 5 1 (.slice wa wn wc) (bv (enc d s ty l))] h [0, 2] rfl (fun F hF hs' => DpD.Same_ok (seps_own hs' 0 rfl).left (seps_own hs' 1 rfl).left (.del p1 g1 s1)) (fun r B H' hr h' => ?_); obtain ⟨rfl, rfl⟩ := hr; skip))
              | ((with_reducible show CallsH _ _ 76 _ _ _); (refine (Fits2 d s ty hf).at_ h [] _ rfl (fun r B H' hr h' => ?_); obtain ⟨rfl, rfl⟩ := hr; rw [kf]; skip))
              | ((with_reducible show CallsH _ _ 77 _ _ _); first | (refine (DpL.alive).at_ h [] _ rfl (fun r B H' hr h' => ?_); obtain ⟨rfl, rfl⟩ := hr; skip))
              | ((with_reducible show fin _ _ _); first | (exact fin_take (B := []) h ⟨by simp, rfl⟩))
              | ((with_reducible show New _ _ _); first | (refine New_sl h 11 rfl (fun b H' h' => ?_); skip) | (refine New_qsl h 11 rfl (fun b => rfl) (fun b H' h' => ?_); skip) | (refine New_ob h (fun b H' h' => ?_); skip) | (refine New_qob h (fun b H' h' => ?_); skip))
              | ((with_reducible show St _ _); first | (refine sg.st (h.front 0) rfl rfl (fun H' h' => ?_); skip) | (refine sg.st (h.front 1) rfl rfl (fun H' h' => ?_); skip) | (refine sg.st (h.front 2) rfl rfl (fun H' h' => ?_); skip) | (refine sg.st (h.front 3) rfl rfl (fun H' h' => ?_); skip) | (refine sg.st (h.front 4) rfl rfl (fun H' h' => ?_); skip) | (refine sg.st (h.front 5) rfl rfl (fun H' h' => ?_); skip) | (refine sg.st (h.front 6) rfl rfl (fun H' h' => ?_); skip) | (refine sg.st (h.front 7) rfl rfl (fun H' h' => ?_); skip))
              | ((with_reducible show Gate _ _ _); refine Gate.intro (fun g => ?_) (fun g => ?_) <;> (try subst g))
              ) <;> ((try ((try simp only [row, En.l, Ky.l, Ac.l, front_eq] at h'); (try simp only [front_eq, fronts_nil, fronts_cons, List.getElem?_cons_zero, List.getElem?_cons_succ, List.eraseIdx_cons_zero, List.eraseIdx_cons_succ, List.cons_append, List.nil_append, putL_cons, putL_nil, List.set_cons_zero, List.set_cons_succ, Nat.reduceAdd] at h'); clear h; have h := h'; clear h'; (try have fc := h.ci 0 rfl); (try have fl := h.li 0 rfl); (try have fc := h.ci 1 rfl); (try have fl := h.li 1 rfl); (try have fc := h.ci 2 rfl); (try have fl := h.li 2 rfl); (try have fc := h.ci 3 rfl); (try have fl := h.li 3 rfl); (try have fc := h.ci 4 rfl); (try have fl := h.li 4 rfl); (try have fc := h.ci 5 rfl); (try have fl := h.li 5 rfl); (try have fc := h.ci 6 rfl); (try have fl := h.li 6 rfl); (try have fc := h.ci 7 rfl); (try have fl := h.li 7 rfl))); ((try simp only [S, TY, reduceCtorEq, nq0, nq1, nq2, nq3, nq4, iq0, iq1, iq2, iq3, iq4, iq5, iq6, iq7, iq8, k1, *]); (try (simp (disch := omega) only [W2, Int.cast_ofNat_Int]; (try simp only [S, TY, reduceCtorEq, nq0, nq1, nq2, nq3, nq4, iq0, iq1, iq2, iq3, iq4, iq5, iq6, iq7, iq8, k1, *]))); repeat ((first | (refine cl_drawi 6 D14_6 ([0, 1, 2, 3, 4, 5, 6, 7, 8, 9, 12, 10, 11, 13]) (by decide) (by kernel_rfl) ?_; unfold D14_6) | (refine cl_drawi 7 D14_7 (List.range 5) (by decide) (by kernel_rfl) ?_; unfold D14_7)); simp only [S, TY, reduceCtorEq, nq0, nq1, nq2, nq3, nq4, iq0, iq1, iq2, iq3, iq4, iq5, iq6, iq7, iq8, k1, *]; (try (simp (disch := omega) only [W2, Int.cast_ofNat_Int]; (try simp only [S, TY, reduceCtorEq, nq0, nq1, nq2, nq3, nq4, iq0, iq1, iq2, iq3, iq4, iq5, iq6, iq7, iq8, k1, *])))))))))
        | snt k o f t1 p1 g1 i1 =>
          ((try simp only [S, TY, reduceCtorEq, nq0, nq1, nq2, nq3, nq4, iq0, iq1, iq2, iq3, iq4, iq5, iq6, iq7, iq8, k1]); (try (simp (disch := omega) only [W2, Int.cast_ofNat_Int]; (try simp only [S, TY, reduceCtorEq, nq0, nq1, nq2, nq3, nq4, iq0, iq1, iq2, iq3, iq4, iq5, iq6, iq7, iq8, k1]))); repeat ((first | (refine cl_drawi 6 D14_6 ([0, 1, 2, 3, 4, 5, 6, 7, 8, 9, 12, 10, 11, 13]) (by decide) (by kernel_rfl) ?_; unfold D14_6) | (refine cl_drawi 7 D14_7 (List.range 5) (by decide) (by kernel_rfl) ?_; unfold D14_7)); simp only [S, TY, reduceCtorEq, nq0, nq1, nq2, nq3, nq4, iq0, iq1, iq2, iq3, iq4, iq5, iq6, iq7, iq8, k1]; (try (simp (disch := omega) only [W2, Int.cast_ofNat_Int]; (try simp only [S, TY, reduceCtorEq, nq0, nq1, nq2, nq3, nq4, iq0, iq1, iq2, iq3, iq4, iq5, iq6, iq7, iq8, k1])))))
          iterate 30 (all_goals (try ((first
              | ((with_reducible show CallsH _ _ 38 _ _ _); (refine (FlD.Of_ok hw (by omega)).at_ h [] _ rfl (fun r B H' hr h' => ?_); subst hr; obtain ⟨ma, mn, mc, rfl, _, _⟩ := h'.sl 0 rfl Rd_own; skip))
              | ((with_reducible show CallsH _ _ 79 _ _ _); (refine Con.lend_at [] [own 77 11 _ (t.flatMap En.l)] h [0] rfl (fun F hF hs' => dGuest_ok d s ty hd hs (hf.mono (un_le_r hF)) (seps_own hs' 0 rfl).left (by omega) c id) (fun r B H' hr h' => ?_); unfold dGuestR at hr; rw [if_pos hg, hoc] at hr; obtain ⟨w1, rfl, rfl⟩ := hr; obtain ⟨wa, wn, wc, rfl, _, _⟩ := h'.sl 0 rfl Rd_own; skip))
              | ((with_reducible show CallsH _ _ 81 _ _ _); first | (refine Con.lend_at [] [own 5 1 (.slice ua un uc) (bv (enc d s ty l))] h [4] rfl (fun F hF hs' => DpD.Of_ok (seps_own hs' 0 rfl).left (.snt k o f t1 p1 g1 i1)) (fun r B H' hr h' => ?_); obtain ⟨rfl, rfl⟩ := hr; skip) | (refine Con.lend_at [] [own 5 1 (.slice ua un uc) (bv (enc d s ty l))] h [3] rfl (fun F hF hs' => DpD.Of_ok (seps_own hs' 0 rfl).left (.snt k o f t1 p1 g1 i1)) (fun r B H' hr h' => ?_); obtain ⟨rfl, rfl⟩ := hr; skip))
              | ((with_reducible show CallsH _ _ 80 _ _ _); first | (refine Con.lend_at [] [own 5 1 (.slice ua un uc) (bv (enc d s ty l)), own 5 1 (.slice wa wn wc) (bv (enc d s ty l))] h [0, 1] rfl (fun F hF hs' => DpD.Same_ok (seps_own hs' 0 rfl).left (seps_own hs' 1 rfl).left (.snt k o f t1 p1 g1 i1)) (fun r B H' hr h' => ?_); obtain ⟨rfl, rfl⟩ := hr; skip) | (refine Con.lend_at [] [own 5 1 (.slice ua un uc) (bv (enc d s ty l)), own 5 1 (.slice wa wn wc) (bv (enc d s ty l))] h [0, 2] rfl (fun F hF hs' => DpD.Same_ok (seps_own hs' 0 rfl).left (seps_own hs' 1 rfl).left (.snt k o f t1 p1 g1 i1)) (fun r B H' hr h' => ?_); obtain ⟨rfl, rfl⟩ := hr; skip))
              | ((with_reducible show CallsH _ _ 76 _ _ _); (refine (Fits2 d s ty hf).at_ h [] _ rfl (fun r B H' hr h' => ?_); obtain ⟨rfl, rfl⟩ := hr; rw [kf]; skip))
              | ((with_reducible show CallsH _ _ 77 _ _ _); first | (refine (DpL.alive).at_ h [] _ rfl (fun r B H' hr h' => ?_); obtain ⟨rfl, rfl⟩ := hr; skip))
              | ((with_reducible show fin _ _ _); first | (exact fin_take (B := []) h ⟨by simp, rfl⟩))
              | ((with_reducible show New _ _ _); first | (refine New_sl h 11 rfl (fun b H' h' => ?_); skip) | (refine New_qsl h 11 rfl (fun b => rfl) (fun b H' h' => ?_); skip) | (refine New_ob h (fun b H' h' => ?_); skip) | (refine New_qob h (fun b H' h' => ?_); skip))
              | ((with_reducible show St _ _); first | (refine sg.st (h.front 0) rfl rfl (fun H' h' => ?_); skip) | (refine sg.st (h.front 1) rfl rfl (fun H' h' => ?_); skip) | (refine sg.st (h.front 2) rfl rfl (fun H' h' => ?_); skip) | (refine sg.st (h.front 3) rfl rfl (fun H' h' => ?_); skip) | (refine sg.st (h.front 4) rfl rfl (fun H' h' => ?_); skip) | (refine sg.st (h.front 5) rfl rfl (fun H' h' => ?_); skip) | (refine sg.st (h.front 6) rfl rfl (fun H' h' => ?_); skip) | (refine sg.st (h.front 7) rfl rfl (fun H' h' => ?_); skip))
              | ((with_reducible show Gate _ _ _); refine Gate.intro (fun g => ?_) (fun g => ?_) <;> (try subst g))
              ) <;> ((try ((try simp only [row, En.l, Ky.l, Ac.l, front_eq] at h'); (try simp only [front_eq, fronts_nil, fronts_cons, List.getElem?_cons_zero, List.getElem?_cons_succ, List.eraseIdx_cons_zero, List.eraseIdx_cons_succ, List.cons_append, List.nil_append, putL_cons, putL_nil, List.set_cons_zero, List.set_cons_succ, Nat.reduceAdd] at h'); clear h; have h := h'; clear h'; (try have fc := h.ci 0 rfl); (try have fl := h.li 0 rfl); (try have fc := h.ci 1 rfl); (try have fl := h.li 1 rfl); (try have fc := h.ci 2 rfl); (try have fl := h.li 2 rfl); (try have fc := h.ci 3 rfl); (try have fl := h.li 3 rfl); (try have fc := h.ci 4 rfl); (try have fl := h.li 4 rfl); (try have fc := h.ci 5 rfl); (try have fl := h.li 5 rfl); (try have fc := h.ci 6 rfl); (try have fl := h.li 6 rfl); (try have fc := h.ci 7 rfl); (try have fl := h.li 7 rfl))); ((try simp only [S, TY, reduceCtorEq, nq0, nq1, nq2, nq3, nq4, iq0, iq1, iq2, iq3, iq4, iq5, iq6, iq7, iq8, k1, *]); (try (simp (disch := omega) only [W2, Int.cast_ofNat_Int]; (try simp only [S, TY, reduceCtorEq, nq0, nq1, nq2, nq3, nq4, iq0, iq1, iq2, iq3, iq4, iq5, iq6, iq7, iq8, k1, *]))); repeat ((first | (refine cl_drawi 6 D14_6 ([0, 1, 2, 3, 4, 5, 6, 7, 8, 9, 12, 10, 11, 13]) (by decide) (by kernel_rfl) ?_; unfold D14_6) | (refine cl_drawi 7 D14_7 (List.range 5) (by decide) (by kernel_rfl) ?_; unfold D14_7)); simp only [S, TY, reduceCtorEq, nq0, nq1, nq2, nq3, nq4, iq0, iq1, iq2, iq3, iq4, iq5, iq6, iq7, iq8, k1, *]; (try (simp (disch := omega) only [W2, Int.cast_ofNat_Int]; (try simp only [S, TY, reduceCtorEq, nq0, nq1, nq2, nq3, nq4, iq0, iq1, iq2, iq3, iq4, iq5, iq6, iq7, iq8, k1, *])))))))))
      | false =>
        refine Con.intro Try.func14 rfl (Nat.le_of_ble_eq_true (by kernel_rfl)) (by kernel_rfl) Try.results14 ?_
        intro H h
        ((try simp only [S, TY, reduceCtorEq, nq0, nq1, nq2, nq3, nq4, iq0, iq1, iq2, iq3, iq4, iq5, iq6, iq7, iq8, k1]); (try (simp (disch := omega) only [W2, Int.cast_ofNat_Int]; (try simp only [S, TY, reduceCtorEq, nq0, nq1, nq2, nq3, nq4, iq0, iq1, iq2, iq3, iq4, iq5, iq6, iq7, iq8, k1]))); repeat ((first | (refine cl_drawi 6 D14_6 ([0, 1, 2, 3, 4, 5, 6, 7, 8, 9, 12, 10, 11, 13]) (by decide) (by kernel_rfl) ?_; unfold D14_6) | (refine cl_drawi 7 D14_7 (List.range 5) (by decide) (by kernel_rfl) ?_; unfold D14_7)); simp only [S, TY, reduceCtorEq, nq0, nq1, nq2, nq3, nq4, iq0, iq1, iq2, iq3, iq4, iq5, iq6, iq7, iq8, k1]; (try (simp (disch := omega) only [W2, Int.cast_ofNat_Int]; (try simp only [S, TY, reduceCtorEq, nq0, nq1, nq2, nq3, nq4, iq0, iq1, iq2, iq3, iq4, iq5, iq6, iq7, iq8, k1])))))
        iterate 30 (all_goals (try ((first
            | ((with_reducible show CallsH _ _ 36 _ _ _); (refine (New_ok FlL.hk1 hw (by omega)).at_ h [] _ rfl (fun r B H' hr h' => ?_); obtain ⟨p, rfl, rfl⟩ := FlL.NewR_yes (by omega) hr; clear hr; skip))
            | ((with_reducible show CallsH _ _ 78 _ _ _); (refine (DpG.Guest_ok d s ty hd hs hty hf (by omega) c id).at_ h [0] _ rfl (fun r B H' hr h' => ?_); unfold DpG.GuestR at hr; rw [if_neg (by rw [hg]; decide)] at hr; obtain ⟨rfl, rfl⟩ := hr; skip))
            | ((with_reducible show CallsH _ _ 38 _ _ _); (refine (FlD.Of_ok hw (by omega)).at_ h [] _ rfl (fun r B H' hr h' => ?_); subst hr; obtain ⟨ma, mn, mc, rfl, _, _⟩ := h'.sl 0 rfl Rd_own; skip))
            | ((with_reducible show CallsH _ _ 79 _ _ _); (refine Con.lend_at [] [own 77 11 _ (t.flatMap En.l)] h [0] rfl (fun F hF hs' => dGuest_ok d s ty hd hs (hf.mono (un_le_r hF)) (seps_own hs' 0 rfl).left (by omega) c id) (fun r B H' hr h' => ?_); unfold dGuestR at hr; rw [if_neg (by rw [hg]; decide)] at hr; obtain ⟨rfl, rfl⟩ := hr; skip))
            | ((with_reducible show CallsH _ _ 81 _ _ _); (refine (DpD.Of_ok (b := []) rds_nil .drop).at_ h [] _ rfl (fun r B H' hr h' => ?_); obtain ⟨rfl, rfl⟩ := hr; skip))
            | ((with_reducible show CallsH _ _ 80 _ _ _); (refine (DpD.Same_ok (bl := []) rds_nil rds_nil .drop).at_ h [] _ rfl (fun r B H' hr h' => ?_); obtain ⟨rfl, rfl⟩ := hr; skip))
            | ((with_reducible show CallsH _ _ 76 _ _ _); (refine (Fits2 d s ty hf).at_ h [] _ rfl (fun r B H' hr h' => ?_); obtain ⟨rfl, rfl⟩ := hr; rw [kf]; skip))
            | ((with_reducible show CallsH _ _ 77 _ _ _); first | (refine (DpL.alive).at_ h [] _ rfl (fun r B H' hr h' => ?_); obtain ⟨rfl, rfl⟩ := hr; skip))
            | ((with_reducible show fin _ _ _); first | (exact fin_take (B := []) h ⟨by simp, rfl⟩))
            | ((with_reducible show New _ _ _); first | (refine New_sl h 11 rfl (fun b H' h' => ?_); skip) | (refine New_qsl h 11 rfl (fun b => rfl) (fun b H' h' => ?_); skip) | (refine New_ob h (fun b H' h' => ?_); skip) | (refine New_qob h (fun b H' h' => ?_); skip))
            | ((with_reducible show St _ _); first | (refine sg.st (h.front 0) rfl rfl (fun H' h' => ?_); skip) | (refine sg.st (h.front 1) rfl rfl (fun H' h' => ?_); skip) | (refine sg.st (h.front 2) rfl rfl (fun H' h' => ?_); skip) | (refine sg.st (h.front 3) rfl rfl (fun H' h' => ?_); skip) | (refine sg.st (h.front 4) rfl rfl (fun H' h' => ?_); skip) | (refine sg.st (h.front 5) rfl rfl (fun H' h' => ?_); skip) | (refine sg.st (h.front 6) rfl rfl (fun H' h' => ?_); skip) | (refine sg.st (h.front 7) rfl rfl (fun H' h' => ?_); skip))
            | ((with_reducible show Gate _ _ _); refine Gate.intro (fun g => ?_) (fun g => ?_) <;> (try subst g))
            ) <;> ((try ((try simp only [row, En.l, Ky.l, Ac.l, front_eq] at h'); (try simp only [front_eq, fronts_nil, fronts_cons, List.getElem?_cons_zero, List.getElem?_cons_succ, List.eraseIdx_cons_zero, List.eraseIdx_cons_succ, List.cons_append, List.nil_append, putL_cons, putL_nil, List.set_cons_zero, List.set_cons_succ, Nat.reduceAdd] at h'); clear h; have h := h'; clear h'; (try have fc := h.ci 0 rfl); (try have fl := h.li 0 rfl); (try have fc := h.ci 1 rfl); (try have fl := h.li 1 rfl); (try have fc := h.ci 2 rfl); (try have fl := h.li 2 rfl); (try have fc := h.ci 3 rfl); (try have fl := h.li 3 rfl); (try have fc := h.ci 4 rfl); (try have fl := h.li 4 rfl); (try have fc := h.ci 5 rfl); (try have fl := h.li 5 rfl); (try have fc := h.ci 6 rfl); (try have fl := h.li 6 rfl); (try have fc := h.ci 7 rfl); (try have fl := h.li 7 rfl))); ((try simp only [S, TY, reduceCtorEq, nq0, nq1, nq2, nq3, nq4, iq0, iq1, iq2, iq3, iq4, iq5, iq6, iq7, iq8, k1, *]); (try (simp (disch := omega) only [W2, Int.cast_ofNat_Int]; (try simp only [S, TY, reduceCtorEq, nq0, nq1, nq2, nq3, nq4, iq0, iq1, iq2, iq3, iq4, iq5, iq6, iq7, iq8, k1, *]))); repeat ((first | (refine cl_drawi 6 D14_6 ([0, 1, 2, 3, 4, 5, 6, 7, 8, 9, 12, 10, 11, 13]) (by decide) (by kernel_rfl) ?_; unfold D14_6) | (refine cl_drawi 7 D14_7 (List.range 5) (by decide) (by kernel_rfl) ?_; unfold D14_7)); simp only [S, TY, reduceCtorEq, nq0, nq1, nq2, nq3, nq4, iq0, iq1, iq2, iq3, iq4, iq5, iq6, iq7, iq8, k1, *]; (try (simp (disch := omega) only [W2, Int.cast_ofNat_Int]; (try simp only [S, TY, reduceCtorEq, nq0, nq1, nq2, nq3, nq4, iq0, iq1, iq2, iq3, iq4, iq5, iq6, iq7, iq8, k1, *])))))))))
abbrev ACT : Ty := .st (.pr (.int .i64) (.pr (.int .i64) (.pr (.int .i64) (.pr (.int .i64) .un))))
abbrev ENT : Ty := .st (.pr (.int .i64) (.pr (.int .i64) (.pr (.int .u64) (.pr (.int .i64) (.pr (.int .i64) (.pr (.int .i64) (.pr (.int .i64) (.pr ACT .un))))))))
def toEn (x : ENT.den) : En := ⟨x.1, x.2.1, x.2.2.1, x.2.2.2.1, x.2.2.2.2.1, x.2.2.2.2.2.1, x.2.2.2.2.2.2.1, x.2.2.2.2.2.2.2.1.1, x.2.2.2.2.2.2.2.1.2.1, x.2.2.2.2.2.2.2.1.2.2.1, x.2.2.2.2.2.2.2.1.2.2.2.1⟩
theorem toEn_l {G : Hp} (cs : List Value) (x : ENT.den) (h : ENT.R G cs x) : cs = En.l (toEn x) := by
  obtain ⟨_, _, rfl, -, ⟨rfl, -⟩, _, _, rfl, -, ⟨rfl, -⟩, _, _, rfl, -, ⟨rfl, -⟩, _, _, rfl, -, ⟨rfl, -⟩, _, _, rfl, -, ⟨rfl, -⟩, _, _, rfl, -, ⟨rfl, -⟩, _, _, rfl, -, ⟨rfl, -⟩, _, _, rfl, -, ⟨_, _, rfl, -, ⟨rfl, -⟩, _, _, rfl, -, ⟨rfl, -⟩, _, _, rfl, -, ⟨rfl, -⟩, _, _, rfl, -, ⟨rfl, -⟩, rfl⟩, rfl⟩ := h
  rfl
abbrev FRT : Ty := .st (.pr (.int .u64) (.pr (.int .u64) (.pr (.int .i64) (.pr .bytes .un))))
abbrev ATT : Ty := .st (.pr (.int .i64) (.pr (.int .i64) .un))
theorem guestV {G : Hp} {v0 v1 v2 : Value} {y0 : (Ty.sl ENT).den} {y1 : FRT.den} {y2 : ATT.den} (h0 : Ty.V G (.sl ENT) v0 y0) (h1 : Ty.V G FRT v1 y1) (h2 : Ty.V G ATT v2 y2) :
    Con Try.prog G 14 [v0, v1, v2] [] (fun r B => r = .bool true ∧ B = []) := by
  rcases h0 with ⟨h, _⟩ | ⟨_, w, h, hv⟩
  · cases h
  · cases h
    rcases h1 with ⟨_, ds, rfl, h1⟩ | ⟨h, _⟩
    · rcases h2 with ⟨_, es, rfl, h2⟩ | ⟨h, _⟩
      · obtain ⟨_, _, rfl, _, ⟨rfl, k1⟩, _, _, rfl, _, ⟨rfl, k2⟩, _, _, rfl, _, ⟨rfl, k3⟩, _, _, rfl, _, ⟨u, rfl, hu⟩, rfl⟩ := h1
        obtain ⟨_, _, rfl, _, ⟨rfl, -⟩, _, _, rfl, _, ⟨rfl, -⟩, rfl⟩ := h2
        simp only [Lit.wf, IntKind.min, IntKind.max, IntKind.signed, IntKind.bits, Bool.and_eq_true, decide_eq_true_eq] at k1 k2 k3
        exact guestLaw _ _ _ _ _ (by have := k1.1; simpa using this) (by have := k2.1; simpa using this) ⟨by have := k3.1; simp at this; omega, by have := k3.2; simp at this; omega⟩ (rdl_map toEn_l hv) hu
      · cases h
    · cases h
end Go.Proofs.Ytfjmejideoklpaa.DpM
