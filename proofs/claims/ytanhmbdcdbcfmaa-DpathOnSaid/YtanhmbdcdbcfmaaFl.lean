/- Tables of flows: which entry fits, in the program and by the document; slices copied; the first that fits. -/
import Derived.Test.YtanhmbdcdbcfmaaSoS
set_option linter.unusedVariables false
set_option linter.unusedSimpArgs false
set_option maxRecDepth 10000
set_option maxHeartbeats 4000000
namespace Go.Proofs.Ytanhmbdcdbcfmaa.Fl
open Nat renaming reduceEqDiff → nq0, reduceAdd → nq1, reduceLeDiff → nq2, reduceBEq → nq3, reduceMul → nq4
open Int renaming reduceBEq → iq0, reduceEq → iq1, reduceLT → iq2, reduceLE → iq3, reduceAdd → iq4, reduceSub → iq5, reduceMul → iq6, reduceToNat → iq7, cast_ofNat_Int → iq8
open Go Go.Sl Go.Proofs Go.Proofs.Ytanhmbdcdbcfmaa.So Go.Proofs.Ytanhmbdcdbcfmaa.SoI Go.Proofs.Ytanhmbdcdbcfmaa.SoR Go.Proofs.Ytanhmbdcdbcfmaa.SoM Go.Proofs.Ytanhmbdcdbcfmaa.SoS
theorem TY : aggN Try.prog 3 = some none ∧
  aggN Try.prog 49 = some none ∧
  aggN Try.prog 196 = some (some 11) ∧
  aggN Try.prog 210 = some (some 5) ∧
  aggN Try.prog 214 = some (some 5) ∧
  aggN Try.prog 218 = some (some 11) ∧
  bIs Try.prog 196 = true ∧
  bIs Try.prog 210 = true ∧
  bIs Try.prog 214 = true ∧
  bIs Try.prog 218 = true ∧
  csz Try.prog 3 = some 1 ∧
  csz Try.prog 49 = some 1 ∧
  csz Try.prog 196 = some 11 ∧
  csz Try.prog 210 = some 5 ∧
  csz Try.prog 214 = some 5 ∧
  csz Try.prog 218 = some 11 ∧
  eqF Try.prog 196 = some [.i, .i, .i, .i, .i, .i, .i, .i, .i, .i, .i] ∧
  eqF Try.prog 210 = some [.i, .i, .i, .i, .i] ∧
  eqF Try.prog 214 = some [.i, .i, .i, .i, .i] ∧
  eqF Try.prog 218 = some [.i, .i, .i, .i, .i, .i, .i, .i, .i, .i, .i] ∧
  fIs Try.prog 196 1 = true ∧
  fIs Try.prog 196 2 = true ∧
  fIs Try.prog 196 3 = true ∧
  fIs Try.prog 196 4 = true ∧
  fIs Try.prog 196 5 = true ∧
  fIs Try.prog 196 6 = true ∧
  fIs Try.prog 210 0 = true ∧
  fIs Try.prog 210 1 = true ∧
  fIs Try.prog 210 2 = true ∧
  fIs Try.prog 210 3 = true ∧
  fIs Try.prog 210 4 = true ∧
  fIs Try.prog 214 0 = true ∧
  fIs Try.prog 214 1 = true ∧
  fIs Try.prog 214 2 = true ∧
  fIs Try.prog 214 3 = true ∧
  fIs Try.prog 214 4 = true ∧
  fIs Try.prog 218 1 = true ∧
  fIs Try.prog 218 2 = true ∧
  fIs Try.prog 218 3 = true ∧
  fIs Try.prog 218 4 = true ∧
  fIs Try.prog 218 5 = true ∧
  fIs Try.prog 218 6 = true ∧
  fOff Try.prog 196 1 = 1 ∧
  fOff Try.prog 196 2 = 2 ∧
  fOff Try.prog 196 3 = 3 ∧
  fOff Try.prog 196 4 = 4 ∧
  fOff Try.prog 196 5 = 5 ∧
  fOff Try.prog 196 6 = 6 ∧
  fOff Try.prog 210 0 = 0 ∧
  fOff Try.prog 210 1 = 1 ∧
  fOff Try.prog 210 2 = 2 ∧
  fOff Try.prog 210 3 = 3 ∧
  fOff Try.prog 210 4 = 4 ∧
  fOff Try.prog 214 0 = 0 ∧
  fOff Try.prog 214 1 = 1 ∧
  fOff Try.prog 214 2 = 2 ∧
  fOff Try.prog 214 3 = 3 ∧
  fOff Try.prog 214 4 = 4 ∧
  fOff Try.prog 218 1 = 1 ∧
  fOff Try.prog 218 2 = 2 ∧
  fOff Try.prog 218 3 = 3 ∧
  fOff Try.prog 218 4 = 4 ∧
  fOff Try.prog 218 5 = 5 ∧
  fOff Try.prog 218 6 = 6 ∧
  fTy Try.prog 196 1 = 3 ∧
  fTy Try.prog 196 2 = 49 ∧
  fTy Try.prog 196 3 = 3 ∧
  fTy Try.prog 196 4 = 3 ∧
  fTy Try.prog 196 5 = 3 ∧
  fTy Try.prog 196 6 = 3 ∧
  fTy Try.prog 210 0 = 3 ∧
  fTy Try.prog 210 1 = 49 ∧
  fTy Try.prog 210 2 = 3 ∧
  fTy Try.prog 210 3 = 3 ∧
  fTy Try.prog 210 4 = 3 ∧
  fTy Try.prog 214 0 = 3 ∧
  fTy Try.prog 214 1 = 49 ∧
  fTy Try.prog 214 2 = 3 ∧
  fTy Try.prog 214 3 = 3 ∧
  fTy Try.prog 214 4 = 3 ∧
  fTy Try.prog 218 1 = 3 ∧
  fTy Try.prog 218 2 = 49 ∧
  fTy Try.prog 218 3 = 3 ∧
  fTy Try.prog 218 4 = 3 ∧
  fTy Try.prog 218 5 = 3 ∧
  fTy Try.prog 218 6 = 3 ∧
  inIs Try.prog 3 = some .i64 ∧
  inIs Try.prog 49 = some .u64 ∧
  plcs Try.prog 196 = [(0, 1), (1, 1), (2, 1), (3, 1), (4, 1), (5, 1), (6, 1), (7, 4)] ∧
  plcs Try.prog 210 = [(0, 1), (1, 1), (2, 1), (3, 1), (4, 1)] ∧
  plcs Try.prog 214 = [(0, 1), (1, 1), (2, 1), (3, 1), (4, 1)] ∧
  plcs Try.prog 218 = [(0, 1), (1, 1), (2, 1), (3, 1), (4, 1), (5, 1), (6, 1), (7, 4)] ∧
  zcs Try.prog 196 = [.int .i64 0, .int .i64 0, .int .u64 0, .int .i64 0, .int .i64 0, .int .i64 0, .int .i64 0, .int .i64 0, .int .i64 0, .int .i64 0, .int .i64 0] ∧
  zcs Try.prog 210 = [.int .i64 0, .int .u64 0, .int .i64 0, .int .i64 0, .int .i64 0] ∧
  zcs Try.prog 214 = [.int .i64 0, .int .u64 0, .int .i64 0, .int .i64 0, .int .i64 0] ∧
  zcs Try.prog 218 = [.int .i64 0, .int .i64 0, .int .u64 0, .int .i64 0, .int .i64 0, .int .i64 0, .int .i64 0, .int .i64 0, .int .i64 0, .int .i64 0, .int .i64 0] ∧
  zro Try.prog 3 = some (.int .i64 0) ∧
  zro Try.prog 49 = some (.int .u64 0) ∧
  zro Try.prog 196 = some (.agg #[.int .i64 0, .int .i64 0, .int .u64 0, .int .i64 0, .int .i64 0, .int .i64 0, .int .i64 0, .int .i64 0, .int .i64 0, .int .i64 0, .int .i64 0]) ∧
  zro Try.prog 210 = some (.agg #[.int .i64 0, .int .u64 0, .int .i64 0, .int .i64 0, .int .i64 0]) ∧
  zro Try.prog 214 = some (.agg #[.int .i64 0, .int .u64 0, .int .i64 0, .int .i64 0, .int .i64 0]) ∧
  zro Try.prog 218 = some (.agg #[.int .i64 0, .int .i64 0, .int .u64 0, .int .i64 0, .int .i64 0, .int .i64 0, .int .i64 0, .int .i64 0, .int .i64 0, .int .i64 0, .int .i64 0]) :=
  ⟨by kernel_rfl, by kernel_rfl, by kernel_rfl, by kernel_rfl, by kernel_rfl, by kernel_rfl, by kernel_rfl, by kernel_rfl, by kernel_rfl, by kernel_rfl, by kernel_rfl, by kernel_rfl, by kernel_rfl, by kernel_rfl, by kernel_rfl, by kernel_rfl, by kernel_rfl, by kernel_rfl, by kernel_rfl, by kernel_rfl, by kernel_rfl, by kernel_rfl, by kernel_rfl, by kernel_rfl, by kernel_rfl, by kernel_rfl, by kernel_rfl, by kernel_rfl, by kernel_rfl, by kernel_rfl, by kernel_rfl, by kernel_rfl, by kernel_rfl, by kernel_rfl, by kernel_rfl, by kernel_rfl, by kernel_rfl, by kernel_rfl, by kernel_rfl, by kernel_rfl, by kernel_rfl, by kernel_rfl, by kernel_rfl, by kernel_rfl, by kernel_rfl, by kernel_rfl, by kernel_rfl, by kernel_rfl, by kernel_rfl, by kernel_rfl, by kernel_rfl, by kernel_rfl, by kernel_rfl, by kernel_rfl, by kernel_rfl, by kernel_rfl, by kernel_rfl, by kernel_rfl, by kernel_rfl, by kernel_rfl, by kernel_rfl, by kernel_rfl, by kernel_rfl, by kernel_rfl, by kernel_rfl, by kernel_rfl, by kernel_rfl, by kernel_rfl, by kernel_rfl, by kernel_rfl, by kernel_rfl, by kernel_rfl, by kernel_rfl, by kernel_rfl, by kernel_rfl, by kernel_rfl, by kernel_rfl, by kernel_rfl, by kernel_rfl, by kernel_rfl, by kernel_rfl, by kernel_rfl, by kernel_rfl, by kernel_rfl, by kernel_rfl, by kernel_rfl, by kernel_rfl, by kernel_rfl, by kernel_rfl, by kernel_rfl, by kernel_rfl, by kernel_rfl, by kernel_rfl, by kernel_rfl, by kernel_rfl, by kernel_rfl, by kernel_rfl, by kernel_rfl, by kernel_rfl, by kernel_rfl, by kernel_rfl, by kernel_rfl⟩
structure Ky where
  in_ : Int
  mac : Int
  port : Int
  stamp : Int
  origin : Int
  deriving DecidableEq
abbrev Ky.l (k : Ky) : List Value := [.int .i64 k.in_, .int .u64 k.mac, .int .i64 k.port, .int .i64 k.stamp, .int .i64 k.origin]
abbrev Ky.v (k : Ky) : Value := .agg k.l.toArray
theorem and1 (x : Int) : IntKind.i64.wrap (BitVec.ofInt IntKind.i64.bits x &&& BitVec.ofInt IntKind.i64.bits 1).toNat = x % 2 := by
  have e : (BitVec.ofInt IntKind.i64.bits x &&& BitVec.ofInt IntKind.i64.bits 1).toNat = (x % 18446744073709551616).toNat % 2 := by
    show (BitVec.ofInt 64 x &&& BitVec.ofInt 64 1).toNat = _
    rw [BitVec.toNat_and, BitVec.toNat_ofInt]
    exact Nat.and_one_is_mod _
  rw [e, wrap_id] <;> omega
theorem and2 (x : Int) : IntKind.i64.wrap (BitVec.ofInt IntKind.i64.bits x &&& BitVec.ofInt IntKind.i64.bits 2).toNat = 2 * (x / 2 % 2) := by
  have h : ∀ n : Nat, n &&& 2 = 2 * (n / 2 % 2) := by
    intro n
    have h1 : (n &&& 2) / 2 = n / 2 % 2 := by rw [Nat.and_div_two]; exact Nat.and_one_is_mod _
    have h2 : (n &&& 2) % 2 = 0 := by
      have := Nat.and_mod_two_pow (a := n) (b := 2) (n := 1)
      simpa using this
    omega
  have e : (BitVec.ofInt IntKind.i64.bits x &&& BitVec.ofInt IntKind.i64.bits 2).toNat = 2 * ((x % 18446744073709551616).toNat / 2 % 2) := by
    show (BitVec.ofInt 64 x &&& BitVec.ofInt 64 2).toNat = _
    rw [BitVec.toNat_and, BitVec.toNat_ofInt]
    exact h _
  rw [e, wrap_id] <;> omega
theorem and4 (x : Int) : IntKind.i64.wrap (BitVec.ofInt IntKind.i64.bits x &&& BitVec.ofInt IntKind.i64.bits 4).toNat = 4 * (x / 4 % 2) := by
  have h : ∀ n : Nat, n &&& 4 = 4 * (n / 4 % 2) := by
    intro n
    have h1 : (n &&& 4) / 2 / 2 = n / 4 % 2 := by rw [Nat.and_div_two, Nat.and_div_two, Nat.div_div_eq_div_mul]; exact Nat.and_one_is_mod _
    have h2 : (n &&& 4) % 4 = 0 := by
      have := Nat.and_mod_two_pow (a := n) (b := 4) (n := 2)
      simpa using this
    omega
  have e : (BitVec.ofInt IntKind.i64.bits x &&& BitVec.ofInt IntKind.i64.bits 4).toNat = 4 * ((x % 18446744073709551616).toNat / 4 % 2) := by
    show (BitVec.ofInt 64 x &&& BitVec.ofInt 64 4).toNat = _
    rw [BitVec.toNat_and, BitVec.toNat_ofInt]
    exact h _
  rw [e, wrap_id] <;> omega
theorem f0 (x : Int) : x.fdiv (2 ^ min 0 64) = x := by simp
theorem f1 (x : Int) : x.fdiv (2 ^ min 1 64) = x / 2 := by
  have e : (2 : Int) ^ min 1 64 = 2 := by decide
  rw [e, Int.fdiv_eq_ediv_of_nonneg _ (by decide)]
theorem f2 (x : Int) : x.fdiv (2 ^ min 2 64) = x / 4 := by
  have e : (2 : Int) ^ min 2 64 = 4 := by decide
  rw [e, Int.fdiv_eq_ediv_of_nonneg _ (by decide)]
/-- Does an entry fit a key? -/
def fits (k : Ky) (e : En) : Bool := decide (((k.in_ = 0 ∧ e.ins % 2 ≠ 0 ∧ e.mac = k.mac) ∨ (k.in_ = 1 ∧ e.ins / 2 % 2 ≠ 0 ∧ e.port = k.port) ∨ (k.in_ = 2 ∧ e.ins / 4 % 2 ≠ 0 ∧ e.port = k.port)) ∧ e.from_ ≤ k.stamp ∧ k.stamp ≤ e.upto ∧ k.origin ≠ e.not_)
theorem dFits_ok {G : Hp} (x : En) (k : Ky) : Con Try.prog G 174 [x.v, k.v] [] (fun r B => r = .bool (fits k x) ∧ B = []) := by
  obtain ⟨x1, x2, x3, x4, x5, x6, x7, x8, x9, x10, x11⟩ := x
  obtain ⟨k1, k2, k3, k4, k5⟩ := k
  refine Con.intro Try.func174 rfl (Nat.le_of_ble_eq_true (by kernel_rfl)) (by kernel_rfl) Try.results174 ?_
  intro H h
  ((try simp only [S, TY, reduceCtorEq, nq0, nq1, nq2, nq3, nq4, iq0, iq1, iq2, iq3, iq4, iq5, iq6, iq7, iq8, and1, and2, and4]); (try (simp (disch := omega) only [W2, Int.cast_ofNat_Int]; (try simp only [S, TY, reduceCtorEq, nq0, nq1, nq2, nq3, nq4, iq0, iq1, iq2, iq3, iq4, iq5, iq6, iq7, iq8, and1, and2, and4]))))
  repeat' (((first
      | ((with_reducible show fin _ _ _); first | ((refine fin_take (B := []) h ⟨?_, rfl⟩; refine bb ?_; unfold fits; simp only [decide_eq_true_eq, Bool.false_eq_true, reduceCtorEq, bne_iff_ne, beq_iff_eq, ne_eq, true_iff, false_iff, iff_true, iff_false, Bool.not_eq_true', decide_eq_false_iff_not, decide_not, true_and, and_true, false_and, and_false, true_or, or_true, false_or, or_false]; omega)))
      | ((with_reducible show New _ _ _); first | (refine New_sl h 11 rfl (fun b H' h' => ?_); skip) | (refine New_qsl h 11 rfl (fun b => rfl) (fun b H' h' => ?_); skip) | (refine New_ob h (fun b H' h' => ?_); skip) | (refine New_qob h (fun b H' h' => ?_); skip))
      | ((with_reducible show St _ _); first | (refine sg.st (h.front 0) rfl rfl (fun H' h' => ?_); skip) | (refine sg.st (h.front 1) rfl rfl (fun H' h' => ?_); skip) | (refine sg.st (h.front 2) rfl rfl (fun H' h' => ?_); skip) | (refine sg.st (h.front 3) rfl rfl (fun H' h' => ?_); skip) | (refine sg.st (h.front 4) rfl rfl (fun H' h' => ?_); skip) | (refine sg.st (h.front 5) rfl rfl (fun H' h' => ?_); skip) | (refine sg.st (h.front 6) rfl rfl (fun H' h' => ?_); skip) | (refine sg.st (h.front 7) rfl rfl (fun H' h' => ?_); skip))
      | ((with_reducible show Gate _ _ _); refine Gate.intro (fun g => ?_) (fun g => ?_) <;> (try subst g))
      ) <;> ((try ((try simp only [row, En.l, Ky.l, front_eq] at h'); (try simp only [front_eq, fronts_nil, fronts_cons, List.getElem?_cons_zero, List.getElem?_cons_succ, List.eraseIdx_cons_zero, List.eraseIdx_cons_succ, List.cons_append, List.nil_append, putL_cons, putL_nil, List.set_cons_zero, List.set_cons_succ, Nat.reduceAdd] at h'); clear h; have h := h'; clear h'; (try have fc := h.ci 0 rfl); (try have fl := h.li 0 rfl); (try have fc := h.ci 1 rfl); (try have fl := h.li 1 rfl); (try have fc := h.ci 2 rfl); (try have fl := h.li 2 rfl); (try have fc := h.ci 3 rfl); (try have fl := h.li 3 rfl); (try have fc := h.ci 4 rfl); (try have fl := h.li 4 rfl); (try have fc := h.ci 5 rfl); (try have fl := h.li 5 rfl); (try have fc := h.ci 6 rfl); (try have fl := h.li 6 rfl); (try have fc := h.ci 7 rfl); (try have fl := h.li 7 rfl))); ((try simp only [S, TY, reduceCtorEq, nq0, nq1, nq2, nq3, nq4, iq0, iq1, iq2, iq3, iq4, iq5, iq6, iq7, iq8, and1, and2, and4, *]); (try (simp (disch := omega) only [W2, Int.cast_ofNat_Int]; (try simp only [S, TY, reduceCtorEq, nq0, nq1, nq2, nq3, nq4, iq0, iq1, iq2, iq3, iq4, iq5, iq6, iq7, iq8, and1, and2, and4, *])))))))
theorem Fits_ok {G : Hp} (x : En) (k : Ky) : Con Try.prog G 194 [x.v, k.v] [] (fun r B => r = .bool (fits k x) ∧ B = []) := by
  obtain ⟨x1, x2, x3, x4, x5, x6, x7, x8, x9, x10, x11⟩ := x
  obtain ⟨k1, k2, k3, k4, k5⟩ := k
  refine Con.intro Try.func194 rfl (Nat.le_of_ble_eq_true (by kernel_rfl)) (by kernel_rfl) Try.results194 ?_
  intro H h
  by_cases c0 : k1 = 0
  · subst c0
    ((try simp only [S, TY, reduceCtorEq, nq0, nq1, nq2, nq3, nq4, iq0, iq1, iq2, iq3, iq4, iq5, iq6, iq7, iq8, and1, f0, f1, f2]); (try (simp (disch := omega) only [W2, Int.cast_ofNat_Int]; (try simp only [S, TY, reduceCtorEq, nq0, nq1, nq2, nq3, nq4, iq0, iq1, iq2, iq3, iq4, iq5, iq6, iq7, iq8, and1, f0, f1, f2]))))
    repeat' (((first
        | ((with_reducible show fin _ _ _); first | ((refine fin_take (B := []) h ⟨?_, rfl⟩; refine bb ?_; unfold fits; simp only [decide_eq_true_eq, Bool.false_eq_true, reduceCtorEq, bne_iff_ne, beq_iff_eq, ne_eq, true_iff, false_iff, iff_true, iff_false, Bool.not_eq_true', decide_eq_false_iff_not, decide_not, true_and, and_true, false_and, and_false, true_or, or_true, false_or, or_false]; omega)))
        | ((with_reducible show New _ _ _); first | (refine New_sl h 11 rfl (fun b H' h' => ?_); skip) | (refine New_qsl h 11 rfl (fun b => rfl) (fun b H' h' => ?_); skip) | (refine New_ob h (fun b H' h' => ?_); skip) | (refine New_qob h (fun b H' h' => ?_); skip))
        | ((with_reducible show St _ _); first | (refine sg.st (h.front 0) rfl rfl (fun H' h' => ?_); skip) | (refine sg.st (h.front 1) rfl rfl (fun H' h' => ?_); skip) | (refine sg.st (h.front 2) rfl rfl (fun H' h' => ?_); skip) | (refine sg.st (h.front 3) rfl rfl (fun H' h' => ?_); skip) | (refine sg.st (h.front 4) rfl rfl (fun H' h' => ?_); skip) | (refine sg.st (h.front 5) rfl rfl (fun H' h' => ?_); skip) | (refine sg.st (h.front 6) rfl rfl (fun H' h' => ?_); skip) | (refine sg.st (h.front 7) rfl rfl (fun H' h' => ?_); skip))
        | ((with_reducible show Gate _ _ _); refine Gate.intro (fun g => ?_) (fun g => ?_) <;> (try subst g))
        ) <;> ((try ((try simp only [row, En.l, Ky.l, front_eq] at h'); (try simp only [front_eq, fronts_nil, fronts_cons, List.getElem?_cons_zero, List.getElem?_cons_succ, List.eraseIdx_cons_zero, List.eraseIdx_cons_succ, List.cons_append, List.nil_append, putL_cons, putL_nil, List.set_cons_zero, List.set_cons_succ, Nat.reduceAdd] at h'); clear h; have h := h'; clear h'; (try have fc := h.ci 0 rfl); (try have fl := h.li 0 rfl); (try have fc := h.ci 1 rfl); (try have fl := h.li 1 rfl); (try have fc := h.ci 2 rfl); (try have fl := h.li 2 rfl); (try have fc := h.ci 3 rfl); (try have fl := h.li 3 rfl); (try have fc := h.ci 4 rfl); (try have fl := h.li 4 rfl); (try have fc := h.ci 5 rfl); (try have fl := h.li 5 rfl); (try have fc := h.ci 6 rfl); (try have fl := h.li 6 rfl); (try have fc := h.ci 7 rfl); (try have fl := h.li 7 rfl))); ((try simp only [S, TY, reduceCtorEq, nq0, nq1, nq2, nq3, nq4, iq0, iq1, iq2, iq3, iq4, iq5, iq6, iq7, iq8, and1, f0, f1, f2, *]); (try (simp (disch := omega) only [W2, Int.cast_ofNat_Int]; (try simp only [S, TY, reduceCtorEq, nq0, nq1, nq2, nq3, nq4, iq0, iq1, iq2, iq3, iq4, iq5, iq6, iq7, iq8, and1, f0, f1, f2, *])))))))
  · by_cases c1 : k1 = 1
    · subst c1
      ((try simp only [S, TY, reduceCtorEq, nq0, nq1, nq2, nq3, nq4, iq0, iq1, iq2, iq3, iq4, iq5, iq6, iq7, iq8, and1, f0, f1, f2]); (try (simp (disch := omega) only [W2, Int.cast_ofNat_Int]; (try simp only [S, TY, reduceCtorEq, nq0, nq1, nq2, nq3, nq4, iq0, iq1, iq2, iq3, iq4, iq5, iq6, iq7, iq8, and1, f0, f1, f2]))))
      repeat' (((first
          | ((with_reducible show fin _ _ _); first | ((refine fin_take (B := []) h ⟨?_, rfl⟩; refine bb ?_; unfold fits; simp only [decide_eq_true_eq, Bool.false_eq_true, reduceCtorEq, bne_iff_ne, beq_iff_eq, ne_eq, true_iff, false_iff, iff_true, iff_false, Bool.not_eq_true', decide_eq_false_iff_not, decide_not, true_and, and_true, false_and, and_false, true_or, or_true, false_or, or_false]; omega)))
          | ((with_reducible show New _ _ _); first | (refine New_sl h 11 rfl (fun b H' h' => ?_); skip) | (refine New_qsl h 11 rfl (fun b => rfl) (fun b H' h' => ?_); skip) | (refine New_ob h (fun b H' h' => ?_); skip) | (refine New_qob h (fun b H' h' => ?_); skip))
          | ((with_reducible show St _ _); first | (refine sg.st (h.front 0) rfl rfl (fun H' h' => ?_); skip) | (refine sg.st (h.front 1) rfl rfl (fun H' h' => ?_); skip) | (refine sg.st (h.front 2) rfl rfl (fun H' h' => ?_); skip) | (refine sg.st (h.front 3) rfl rfl (fun H' h' => ?_); skip) | (refine sg.st (h.front 4) rfl rfl (fun H' h' => ?_); skip) | (refine sg.st (h.front 5) rfl rfl (fun H' h' => ?_); skip) | (refine sg.st (h.front 6) rfl rfl (fun H' h' => ?_); skip) | (refine sg.st (h.front 7) rfl rfl (fun H' h' => ?_); skip))
          | ((with_reducible show Gate _ _ _); refine Gate.intro (fun g => ?_) (fun g => ?_) <;> (try subst g))
          ) <;> ((try ((try simp only [row, En.l, Ky.l, front_eq] at h'); (try simp only [front_eq, fronts_nil, fronts_cons, List.getElem?_cons_zero, List.getElem?_cons_succ, List.eraseIdx_cons_zero, List.eraseIdx_cons_succ, List.cons_append, List.nil_append, putL_cons, putL_nil, List.set_cons_zero, List.set_cons_succ, Nat.reduceAdd] at h'); clear h; have h := h'; clear h'; (try have fc := h.ci 0 rfl); (try have fl := h.li 0 rfl); (try have fc := h.ci 1 rfl); (try have fl := h.li 1 rfl); (try have fc := h.ci 2 rfl); (try have fl := h.li 2 rfl); (try have fc := h.ci 3 rfl); (try have fl := h.li 3 rfl); (try have fc := h.ci 4 rfl); (try have fl := h.li 4 rfl); (try have fc := h.ci 5 rfl); (try have fl := h.li 5 rfl); (try have fc := h.ci 6 rfl); (try have fl := h.li 6 rfl); (try have fc := h.ci 7 rfl); (try have fl := h.li 7 rfl))); ((try simp only [S, TY, reduceCtorEq, nq0, nq1, nq2, nq3, nq4, iq0, iq1, iq2, iq3, iq4, iq5, iq6, iq7, iq8, and1, f0, f1, f2, *]); (try (simp (disch := omega) only [W2, Int.cast_ofNat_Int]; (try simp only [S, TY, reduceCtorEq, nq0, nq1, nq2, nq3, nq4, iq0, iq1, iq2, iq3, iq4, iq5, iq6, iq7, iq8, and1, f0, f1, f2, *])))))))
    · by_cases c2 : k1 = 2
      · subst c2
        ((try simp only [S, TY, reduceCtorEq, nq0, nq1, nq2, nq3, nq4, iq0, iq1, iq2, iq3, iq4, iq5, iq6, iq7, iq8, and1, f0, f1, f2]); (try (simp (disch := omega) only [W2, Int.cast_ofNat_Int]; (try simp only [S, TY, reduceCtorEq, nq0, nq1, nq2, nq3, nq4, iq0, iq1, iq2, iq3, iq4, iq5, iq6, iq7, iq8, and1, f0, f1, f2]))))
        repeat' (((first
            | ((with_reducible show fin _ _ _); first | ((refine fin_take (B := []) h ⟨?_, rfl⟩; refine bb ?_; unfold fits; simp only [decide_eq_true_eq, Bool.false_eq_true, reduceCtorEq, bne_iff_ne, beq_iff_eq, ne_eq, true_iff, false_iff, iff_true, iff_false, Bool.not_eq_true', decide_eq_false_iff_not, decide_not, true_and, and_true, false_and, and_false, true_or, or_true, false_or, or_false]; omega)))
            | ((with_reducible show New _ _ _); first | (refine New_sl h 11 rfl (fun b H' h' => ?_); skip) | (refine New_qsl h 11 rfl (fun b => rfl) (fun b H' h' => ?_); skip) | (refine New_ob h (fun b H' h' => ?_); skip) | (refine New_qob h (fun b H' h' => ?_); skip))
            | ((with_reducible show St _ _); first | (refine sg.st (h.front 0) rfl rfl (fun H' h' => ?_); skip) | (refine sg.st (h.front 1) rfl rfl (fun H' h' => ?_); skip) | (refine sg.st (h.front 2) rfl rfl (fun H' h' => ?_); skip) | (refine sg.st (h.front 3) rfl rfl (fun H' h' => ?_); skip) | (refine sg.st (h.front 4) rfl rfl (fun H' h' => ?_); skip) | (refine sg.st (h.front 5) rfl rfl (fun H' h' => ?_); skip) | (refine sg.st (h.front 6) rfl rfl (fun H' h' => ?_); skip) | (refine sg.st (h.front 7) rfl rfl (fun H' h' => ?_); skip))
            | ((with_reducible show Gate _ _ _); refine Gate.intro (fun g => ?_) (fun g => ?_) <;> (try subst g))
            ) <;> ((try ((try simp only [row, En.l, Ky.l, front_eq] at h'); (try simp only [front_eq, fronts_nil, fronts_cons, List.getElem?_cons_zero, List.getElem?_cons_succ, List.eraseIdx_cons_zero, List.eraseIdx_cons_succ, List.cons_append, List.nil_append, putL_cons, putL_nil, List.set_cons_zero, List.set_cons_succ, Nat.reduceAdd] at h'); clear h; have h := h'; clear h'; (try have fc := h.ci 0 rfl); (try have fl := h.li 0 rfl); (try have fc := h.ci 1 rfl); (try have fl := h.li 1 rfl); (try have fc := h.ci 2 rfl); (try have fl := h.li 2 rfl); (try have fc := h.ci 3 rfl); (try have fl := h.li 3 rfl); (try have fc := h.ci 4 rfl); (try have fl := h.li 4 rfl); (try have fc := h.ci 5 rfl); (try have fl := h.li 5 rfl); (try have fc := h.ci 6 rfl); (try have fl := h.li 6 rfl); (try have fc := h.ci 7 rfl); (try have fl := h.li 7 rfl))); ((try simp only [S, TY, reduceCtorEq, nq0, nq1, nq2, nq3, nq4, iq0, iq1, iq2, iq3, iq4, iq5, iq6, iq7, iq8, and1, f0, f1, f2, *]); (try (simp (disch := omega) only [W2, Int.cast_ofNat_Int]; (try simp only [S, TY, reduceCtorEq, nq0, nq1, nq2, nq3, nq4, iq0, iq1, iq2, iq3, iq4, iq5, iq6, iq7, iq8, and1, f0, f1, f2, *])))))))
      · by_cases c3 : k1 < 0
        · ((try simp only [S, TY, reduceCtorEq, nq0, nq1, nq2, nq3, nq4, iq0, iq1, iq2, iq3, iq4, iq5, iq6, iq7, iq8, and1, f0, f1, f2, c3]); (try (simp (disch := omega) only [W2, Int.cast_ofNat_Int]; (try simp only [S, TY, reduceCtorEq, nq0, nq1, nq2, nq3, nq4, iq0, iq1, iq2, iq3, iq4, iq5, iq6, iq7, iq8, and1, f0, f1, f2, c3]))))
          repeat' (((first
              | ((with_reducible show fin _ _ _); first | ((refine fin_take (B := []) h ⟨?_, rfl⟩; refine bb ?_; unfold fits; simp only [decide_eq_true_eq, Bool.false_eq_true, reduceCtorEq, bne_iff_ne, beq_iff_eq, ne_eq, true_iff, false_iff, iff_true, iff_false, Bool.not_eq_true', decide_eq_false_iff_not, decide_not, true_and, and_true, false_and, and_false, true_or, or_true, false_or, or_false]; omega)))
              | ((with_reducible show New _ _ _); first | (refine New_sl h 11 rfl (fun b H' h' => ?_); skip) | (refine New_qsl h 11 rfl (fun b => rfl) (fun b H' h' => ?_); skip) | (refine New_ob h (fun b H' h' => ?_); skip) | (refine New_qob h (fun b H' h' => ?_); skip))
              | ((with_reducible show St _ _); first | (refine sg.st (h.front 0) rfl rfl (fun H' h' => ?_); skip) | (refine sg.st (h.front 1) rfl rfl (fun H' h' => ?_); skip) | (refine sg.st (h.front 2) rfl rfl (fun H' h' => ?_); skip) | (refine sg.st (h.front 3) rfl rfl (fun H' h' => ?_); skip) | (refine sg.st (h.front 4) rfl rfl (fun H' h' => ?_); skip) | (refine sg.st (h.front 5) rfl rfl (fun H' h' => ?_); skip) | (refine sg.st (h.front 6) rfl rfl (fun H' h' => ?_); skip) | (refine sg.st (h.front 7) rfl rfl (fun H' h' => ?_); skip))
              | ((with_reducible show Gate _ _ _); refine Gate.intro (fun g => ?_) (fun g => ?_) <;> (try subst g))
              ) <;> ((try ((try simp only [row, En.l, Ky.l, front_eq] at h'); (try simp only [front_eq, fronts_nil, fronts_cons, List.getElem?_cons_zero, List.getElem?_cons_succ, List.eraseIdx_cons_zero, List.eraseIdx_cons_succ, List.cons_append, List.nil_append, putL_cons, putL_nil, List.set_cons_zero, List.set_cons_succ, Nat.reduceAdd] at h'); clear h; have h := h'; clear h'; (try have fc := h.ci 0 rfl); (try have fl := h.li 0 rfl); (try have fc := h.ci 1 rfl); (try have fl := h.li 1 rfl); (try have fc := h.ci 2 rfl); (try have fl := h.li 2 rfl); (try have fc := h.ci 3 rfl); (try have fl := h.li 3 rfl); (try have fc := h.ci 4 rfl); (try have fl := h.li 4 rfl); (try have fc := h.ci 5 rfl); (try have fl := h.li 5 rfl); (try have fc := h.ci 6 rfl); (try have fl := h.li 6 rfl); (try have fc := h.ci 7 rfl); (try have fl := h.li 7 rfl))); ((try simp only [S, TY, reduceCtorEq, nq0, nq1, nq2, nq3, nq4, iq0, iq1, iq2, iq3, iq4, iq5, iq6, iq7, iq8, and1, f0, f1, f2, *]); (try (simp (disch := omega) only [W2, Int.cast_ofNat_Int]; (try simp only [S, TY, reduceCtorEq, nq0, nq1, nq2, nq3, nq4, iq0, iq1, iq2, iq3, iq4, iq5, iq6, iq7, iq8, and1, f0, f1, f2, *])))))))
        · have c4 : (3 : Int) ≤ k1 := by omega
          ((try simp only [S, TY, reduceCtorEq, nq0, nq1, nq2, nq3, nq4, iq0, iq1, iq2, iq3, iq4, iq5, iq6, iq7, iq8, and1, f0, f1, f2, c3, c4]); (try (simp (disch := omega) only [W2, Int.cast_ofNat_Int]; (try simp only [S, TY, reduceCtorEq, nq0, nq1, nq2, nq3, nq4, iq0, iq1, iq2, iq3, iq4, iq5, iq6, iq7, iq8, and1, f0, f1, f2, c3, c4]))))
          repeat' (((first
              | ((with_reducible show fin _ _ _); first | ((refine fin_take (B := []) h ⟨?_, rfl⟩; refine bb ?_; unfold fits; simp only [decide_eq_true_eq, Bool.false_eq_true, reduceCtorEq, bne_iff_ne, beq_iff_eq, ne_eq, true_iff, false_iff, iff_true, iff_false, Bool.not_eq_true', decide_eq_false_iff_not, decide_not, true_and, and_true, false_and, and_false, true_or, or_true, false_or, or_false]; omega)))
              | ((with_reducible show New _ _ _); first | (refine New_sl h 11 rfl (fun b H' h' => ?_); skip) | (refine New_qsl h 11 rfl (fun b => rfl) (fun b H' h' => ?_); skip) | (refine New_ob h (fun b H' h' => ?_); skip) | (refine New_qob h (fun b H' h' => ?_); skip))
              | ((with_reducible show St _ _); first | (refine sg.st (h.front 0) rfl rfl (fun H' h' => ?_); skip) | (refine sg.st (h.front 1) rfl rfl (fun H' h' => ?_); skip) | (refine sg.st (h.front 2) rfl rfl (fun H' h' => ?_); skip) | (refine sg.st (h.front 3) rfl rfl (fun H' h' => ?_); skip) | (refine sg.st (h.front 4) rfl rfl (fun H' h' => ?_); skip) | (refine sg.st (h.front 5) rfl rfl (fun H' h' => ?_); skip) | (refine sg.st (h.front 6) rfl rfl (fun H' h' => ?_); skip) | (refine sg.st (h.front 7) rfl rfl (fun H' h' => ?_); skip))
              | ((with_reducible show Gate _ _ _); refine Gate.intro (fun g => ?_) (fun g => ?_) <;> (try subst g))
              ) <;> ((try ((try simp only [row, En.l, Ky.l, front_eq] at h'); (try simp only [front_eq, fronts_nil, fronts_cons, List.getElem?_cons_zero, List.getElem?_cons_succ, List.eraseIdx_cons_zero, List.eraseIdx_cons_succ, List.cons_append, List.nil_append, putL_cons, putL_nil, List.set_cons_zero, List.set_cons_succ, Nat.reduceAdd] at h'); clear h; have h := h'; clear h'; (try have fc := h.ci 0 rfl); (try have fl := h.li 0 rfl); (try have fc := h.ci 1 rfl); (try have fl := h.li 1 rfl); (try have fc := h.ci 2 rfl); (try have fl := h.li 2 rfl); (try have fc := h.ci 3 rfl); (try have fl := h.li 3 rfl); (try have fc := h.ci 4 rfl); (try have fl := h.li 4 rfl); (try have fc := h.ci 5 rfl); (try have fl := h.li 5 rfl); (try have fc := h.ci 6 rfl); (try have fl := h.li 6 rfl); (try have fc := h.ci 7 rfl); (try have fl := h.li 7 rfl))); ((try simp only [S, TY, reduceCtorEq, nq0, nq1, nq2, nq3, nq4, iq0, iq1, iq2, iq3, iq4, iq5, iq6, iq7, iq8, and1, f0, f1, f2, *]); (try (simp (disch := omega) only [W2, Int.cast_ofNat_Int]; (try simp only [S, TY, reduceCtorEq, nq0, nq1, nq2, nq3, nq4, iq0, iq1, iq2, iq3, iq4, iq5, iq6, iq7, iq8, and1, f0, f1, f2, *])))))))
end Go.Proofs.Ytanhmbdcdbcfmaa.Fl
