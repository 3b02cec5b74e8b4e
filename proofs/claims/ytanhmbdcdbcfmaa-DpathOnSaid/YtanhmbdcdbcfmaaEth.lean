/- ether's functions on frames, over the machine. -/
import Derived.Test.YtanhmbdcdbcfmaaBufP
set_option linter.unusedVariables false
set_option linter.unusedSimpArgs false
set_option maxRecDepth 10000
namespace Go.Proofs.Ytanhmbdcdbcfmaa.Eth
open Nat renaming reduceEqDiff → nq0, reduceAdd → nq1, reduceLeDiff → nq2, reduceBEq → nq3, reduceMul → nq4
open Int renaming reduceBEq → iq0, reduceEq → iq1, reduceLT → iq2, reduceLE → iq3, reduceAdd → iq4, reduceSub → iq5, reduceMul → iq6, reduceToNat → iq7, cast_ofNat_Int → iq8
open Go Go.Sl Go.Proofs Go.Proofs.Ytanhmbdcdbcfmaa.Buf Go.Proofs.Ytanhmbdcdbcfmaa.BufRd Go.Proofs.Ytanhmbdcdbcfmaa.BufRe Go.Proofs.Ytanhmbdcdbcfmaa.BufP
theorem TY : aggN Try.prog 3 = some none ∧
  aggN Try.prog 5 = some none ∧
  aggN Try.prog 24 = some none ∧
  aggN Try.prog 49 = some none ∧
  aggN Try.prog 51 = some (some 4) ∧
  aggN Try.prog 57 = some none ∧
  aggN Try.prog 225 = some none ∧
  aggN Try.prog 227 = some (some 2) ∧
  aggN Try.prog 308 = some none ∧
  apI Try.prog 24 = some (5, 1, 1) ∧
  apI Try.prog 57 = some (3, 1, 8) ∧
  apI Try.prog 308 = some (49, 1, 8) ∧
  bIs Try.prog 51 = true ∧
  bIs Try.prog 227 = true ∧
  bySl Try.prog 24 = true ∧
  csz Try.prog 3 = some 1 ∧
  csz Try.prog 5 = some 1 ∧
  csz Try.prog 24 = some 1 ∧
  csz Try.prog 49 = some 1 ∧
  csz Try.prog 51 = some 4 ∧
  csz Try.prog 57 = some 1 ∧
  csz Try.prog 225 = some 1 ∧
  csz Try.prog 227 = some 2 ∧
  csz Try.prog 308 = some 1 ∧
  fIs Try.prog 51 0 = true ∧
  fIs Try.prog 51 1 = true ∧
  fIs Try.prog 51 2 = true ∧
  fIs Try.prog 51 3 = true ∧
  fOff Try.prog 51 0 = 0 ∧
  fOff Try.prog 51 1 = 1 ∧
  fOff Try.prog 51 2 = 2 ∧
  fOff Try.prog 51 3 = 3 ∧
  fTy Try.prog 51 0 = 49 ∧
  fTy Try.prog 51 1 = 49 ∧
  fTy Try.prog 51 2 = 3 ∧
  fTy Try.prog 51 3 = 24 ∧
  goes Try.prog 120 = true ∧
  goes Try.prog 122 = true ∧
  goes Try.prog 177 = true ∧
  goes Try.prog 196 = true ∧
  inIs Try.prog 3 = some .i64 ∧
  inIs Try.prog 5 = some .u8 ∧
  inIs Try.prog 49 = some .u64 ∧
  plcs Try.prog 51 = [(0, 1), (1, 1), (2, 1), (3, 1)] ∧
  plcs Try.prog 227 = [(0, 1), (1, 1)] ∧
  ptIs Try.prog 225 = true ∧
  slEl Try.prog 24 = 5 ∧
  slEl Try.prog 57 = 3 ∧
  slEl Try.prog 308 = 49 ∧
  slIs Try.prog 24 = true ∧
  slIs Try.prog 57 = true ∧
  slIs Try.prog 308 = true ∧
  slSz Try.prog 24 = 1 ∧
  slSz Try.prog 57 = 1 ∧
  slSz Try.prog 308 = 1 ∧
  zcs Try.prog 51 = [.int .u64 0, .int .u64 0, .int .i64 0, .slice none 0 0] ∧
  zcs Try.prog 227 = [.slice none 0 0, .bool false] ∧
  zro Try.prog 3 = some (.int .i64 0) ∧
  zro Try.prog 5 = some (.int .u8 0) ∧
  zro Try.prog 24 = some (.slice none 0 0) ∧
  zro Try.prog 49 = some (.int .u64 0) ∧
  zro Try.prog 51 = some (.agg #[.int .u64 0, .int .u64 0, .int .i64 0, .slice none 0 0]) ∧
  zro Try.prog 57 = some (.slice none 0 0) ∧
  zro Try.prog 225 = some (.pointer none) ∧
  zro Try.prog 227 = some (.agg #[.slice none 0 0, .bool false]) ∧
  zro Try.prog 308 = some (.slice none 0 0) :=
  ⟨by kernel_rfl, by kernel_rfl, by kernel_rfl, by kernel_rfl, by kernel_rfl, by kernel_rfl, by kernel_rfl, by kernel_rfl, by kernel_rfl, by kernel_rfl, by kernel_rfl, by kernel_rfl, by kernel_rfl, by kernel_rfl, by kernel_rfl, by kernel_rfl, by kernel_rfl, by kernel_rfl, by kernel_rfl, by kernel_rfl, by kernel_rfl, by kernel_rfl, by kernel_rfl, by kernel_rfl, by kernel_rfl, by kernel_rfl, by kernel_rfl, by kernel_rfl, by kernel_rfl, by kernel_rfl, by kernel_rfl, by kernel_rfl, by kernel_rfl, by kernel_rfl, by kernel_rfl, by kernel_rfl, by kernel_rfl, by kernel_rfl, by kernel_rfl, by kernel_rfl, by kernel_rfl, by kernel_rfl, by kernel_rfl, by kernel_rfl, by kernel_rfl, by kernel_rfl, by kernel_rfl, by kernel_rfl, by kernel_rfl, by kernel_rfl, by kernel_rfl, by kernel_rfl, by kernel_rfl, by kernel_rfl, by kernel_rfl, by kernel_rfl, by kernel_rfl, by kernel_rfl, by kernel_rfl, by kernel_rfl, by kernel_rfl, by kernel_rfl, by kernel_rfl, by kernel_rfl, by kernel_rfl, by kernel_rfl⟩
def D116_3 : List Note := Go.Sl.nn [0, 2, 0, 1, 0, 0, 1, 0, 2, 3, 0, 1, 2, 3, 3, 0, 0, 0, 0, 0]
def uv (l : List Int) : List Value := l.map fun x => .int .u64 x
theorem uv_length (l : List Int) : (uv l).length = l.length := by simp [uv]
theorem wrap_u64 {n : Int} : IntKind.u64.wrap n = n % 18446744073709551616 := rfl
theorem upto_ok {G : Hp} {v : Value} {l : List Int} (m : Int) (hv : rds G 1 v (uv l)) (hl : l.length ≤ 1000) : Con Try.prog G 196 [.int .u64 m, v] [] (fun r B => r = .bool (l.all fun x => decide (x ≤ m)) ∧ B = []) := by
  refine Con.intro Try.func196 rfl (Nat.le_of_ble_eq_true (by kernel_rfl)) (by kernel_rfl) Try.results196 ?_
  intro H hH
  obtain ⟨a, n, c, rfl, e1, e2⟩ := hv.slice
  rw [uv_length] at e1
  ((try simp only [S, TY, reduceCtorEq, nq0, nq1, nq2, nq3, nq4, iq0, iq1, iq2, iq3, iq4, iq5, iq6, iq7, iq8]); (try (simp (disch := omega) only [W2, Int.cast_ofNat_Int]; (try simp only [S, TY, reduceCtorEq, nq0, nq1, nq2, nq3, nq4, iq0, iq1, iq2, iq3, iq4, iq5, iq6, iq7, iq8]))))
  refine cl_loop (fun i e H => i ≤ n ∧ e 0 = .int .u64 m ∧ e 7 = .slice a n c ∧ e 8 = .int .i64 n ∧ e 9 = .int .i64 i ∧ (l.take i).all (fun x => decide (x ≤ m)) = true ∧ sg G [] H) (fun i => n - i) 0
    ⟨by omega, rfl, rfl, rfl, rfl, by simp, hH⟩ ?_
  rintro i e H ⟨q1, q2, q3, q4, q5, q6, hH⟩
  by_cases g1 : (i : Int) < n
  · have hi : i < l.length := by omega
    obtain ⟨b, off, rfl, d1⟩ := (hH.ro hv).at1 (i := i) (by omega)
    rw [uv, List.getElem?_map, List.getElem?_eq_getElem hi, Option.map_some] at d1
    have g0 : (0 : Int) ≤ i ∧ (i : Int) < n := ⟨by omega, g1⟩
    have ht := List.take_succ_eq_append_getElem hi
    by_cases g2 : m < l[i]
    · ((try simp only [S, TY, reduceCtorEq, nq0, nq1, nq2, nq3, nq4, iq0, iq1, iq2, iq3, iq4, iq5, iq6, iq7, iq8, q2, q3, q4, q5, g1, g0, d1, g2]); (try (simp (disch := omega) only [W2, Int.cast_ofNat_Int]; (try simp only [S, TY, reduceCtorEq, nq0, nq1, nq2, nq3, nq4, iq0, iq1, iq2, iq3, iq4, iq5, iq6, iq7, iq8, q2, q3, q4, q5, g1, g0, d1, g2]))))
      refine fin_take (B := []) hH ⟨?_, rfl⟩
      have : ¬ (l.all fun x => decide (x ≤ m)) = true := fun q => by
        have := List.all_eq_true.1 q l[i] (List.getElem_mem hi)
        simp at this; omega
      simp only [Bool.not_eq_true] at this
      rw [this]
    · ((try simp only [S, TY, reduceCtorEq, nq0, nq1, nq2, nq3, nq4, iq0, iq1, iq2, iq3, iq4, iq5, iq6, iq7, iq8, q2, q3, q4, q5, g1, g0, d1, g2]); (try (simp (disch := omega) only [W2, Int.cast_ofNat_Int]; (try simp only [S, TY, reduceCtorEq, nq0, nq1, nq2, nq3, nq4, iq0, iq1, iq2, iq3, iq4, iq5, iq6, iq7, iq8, q2, q3, q4, q5, g1, g0, d1, g2]))))
      exact .go (i + 1) (by omega) ⟨by omega, q2, q3, q4, rfl, by rw [ht, List.all_append, q6]; simp; omega, hH⟩
  · ((try simp only [S, TY, reduceCtorEq, nq0, nq1, nq2, nq3, nq4, iq0, iq1, iq2, iq3, iq4, iq5, iq6, iq7, iq8, q2, q3, q4, q5, g1]); (try (simp (disch := omega) only [W2, Int.cast_ofNat_Int]; (try simp only [S, TY, reduceCtorEq, nq0, nq1, nq2, nq3, nq4, iq0, iq1, iq2, iq3, iq4, iq5, iq6, iq7, iq8, q2, q3, q4, q5, g1]))))
    rw [List.take_of_length_le (by omega)] at q6
    exact fin_take (B := []) hH ⟨by rw [q6], rfl⟩
/-- A frame, as a value. -/
abbrev frv (d s t : Int) (v : Value) : Value := .agg #[.int .u64 d, .int .u64 s, .int .i64 t, v]
def right (d s t : Int) (n : Nat) : Bool := decide (d ≤ 281474976710655 ∧ s ≤ 281474976710655 ∧ 0 ≤ t ∧ t ≤ 65535 ∧ n ≤ 1500)
theorem Right_ok {G : Hp} {v : Value} {l : List UInt8} (d s t : Int) (ht : -9223372036854775808 ≤ t ∧ t ≤ 9223372036854775807) (hv : rds G 1 v (bv l)) :
    Con Try.prog G 177 [frv d s t v] [] (fun r B => r = .bool (right d s t l.length) ∧ B = []) := by
  refine Con.intro Try.func177 rfl (Nat.le_of_ble_eq_true (by kernel_rfl)) (by kernel_rfl) Try.results177 ?_
  intro H hH
  obtain ⟨a, n, c, rfl, e1, e2⟩ := hv.slice
  rw [bv_length] at e1
  ((try simp only [S, TY, reduceCtorEq, nq0, nq1, nq2, nq3, nq4, iq0, iq1, iq2, iq3, iq4, iq5, iq6, iq7, iq8]); (try (simp (disch := omega) only [W2, Int.cast_ofNat_Int]; (try simp only [S, TY, reduceCtorEq, nq0, nq1, nq2, nq3, nq4, iq0, iq1, iq2, iq3, iq4, iq5, iq6, iq7, iq8]))))
  intro b hb hg
  have h1 := hH.new hb hg (.cells #[.int .u64 d, .int .u64 s, .int .i64 t, .slice a n c] 51 (0, 0))
  have c1 := h1.c0
  ((try simp only [S, TY, reduceCtorEq, nq0, nq1, nq2, nq3, nq4, iq0, iq1, iq2, iq3, iq4, iq5, iq6, iq7, iq8, c1]); (try (simp (disch := omega) only [W2, Int.cast_ofNat_Int]; (try simp only [S, TY, reduceCtorEq, nq0, nq1, nq2, nq3, nq4, iq0, iq1, iq2, iq3, iq4, iq5, iq6, iq7, iq8, c1]))))
  intro b2 hb2 hg2
  have h2 := h1.newsl (e := 49) (sz := 1) (n := 2) (xs := uv [d, s]) hb2 hg2 rfl
  ((try simp only [S, TY, reduceCtorEq, nq0, nq1, nq2, nq3, nq4, iq0, iq1, iq2, iq3, iq4, iq5, iq6, iq7, iq8]); (try (simp (disch := omega) only [W2, Int.cast_ofNat_Int]; (try simp only [S, TY, reduceCtorEq, nq0, nq1, nq2, nq3, nq4, iq0, iq1, iq2, iq3, iq4, iq5, iq6, iq7, iq8]))))
  refine Con.lend_at [] [own 49 1 _ _] h2 [0] rfl (fun F hF hs => upto_ok (l := [d, s]) 281474976710655 (seps_own hs 0 rfl).left (by simp)) fun r B H3 hr h3 => ?_
  obtain ⟨rfl, rfl⟩ := hr
  have c3 := (h3.front 1).c0
  by_cases g1 : d ≤ 281474976710655 ∧ s ≤ 281474976710655
  · have e3 : ([d, s].all fun x => decide (x ≤ 281474976710655)) = true := by simp; omega
    ((try simp only [S, TY, reduceCtorEq, nq0, nq1, nq2, nq3, nq4, iq0, iq1, iq2, iq3, iq4, iq5, iq6, iq7, iq8, e3, c3]); (try (simp (disch := omega) only [W2, Int.cast_ofNat_Int]; (try simp only [S, TY, reduceCtorEq, nq0, nq1, nq2, nq3, nq4, iq0, iq1, iq2, iq3, iq4, iq5, iq6, iq7, iq8, e3, c3]))))
    intro b4 hb4 hg4
    have h4 := h3.newsl (e := 49) (sz := 1) (n := 1) (xs := uv [IntKind.u64.wrap t]) hb4 hg4 rfl
    ((try simp only [S, TY, reduceCtorEq, nq0, nq1, nq2, nq3, nq4, iq0, iq1, iq2, iq3, iq4, iq5, iq6, iq7, iq8]); (try (simp (disch := omega) only [W2, Int.cast_ofNat_Int]; (try simp only [S, TY, reduceCtorEq, nq0, nq1, nq2, nq3, nq4, iq0, iq1, iq2, iq3, iq4, iq5, iq6, iq7, iq8]))))
    refine Con.lend_at [] [own 49 1 _ _] h4 [0] rfl (fun F hF hs => upto_ok (l := [IntKind.u64.wrap t]) 65535 (seps_own hs 0 rfl).left (by simp)) fun r B H5 hr h5 => ?_
    obtain ⟨rfl, rfl⟩ := hr
    have c5 := (h5.front 2).c0
    by_cases g2 : 0 ≤ t ∧ t ≤ 65535
    · have e4 : ([IntKind.u64.wrap t].all fun x => decide (x ≤ 65535)) = true := by
        rw [wrap_u64_id (by omega) (by omega)]; simp; omega
      ((try simp only [S, TY, reduceCtorEq, nq0, nq1, nq2, nq3, nq4, iq0, iq1, iq2, iq3, iq4, iq5, iq6, iq7, iq8, e4, c5]); (try (simp (disch := omega) only [W2, Int.cast_ofNat_Int]; (try simp only [S, TY, reduceCtorEq, nq0, nq1, nq2, nq3, nq4, iq0, iq1, iq2, iq3, iq4, iq5, iq6, iq7, iq8, e4, c5]))))
      exact fin_take (B := []) h5 ⟨by (refine bb ?_; (try simp only [right, BB]) <;> (first | omega | grind)), rfl⟩
    · have e4 : ([IntKind.u64.wrap t].all fun x => decide (x ≤ 65535)) = false := by
        simp only [List.all_cons, List.all_nil, Bool.and_true, decide_eq_false_iff_not]
        rw [wrap_u64]; omega
      ((try simp only [S, TY, reduceCtorEq, nq0, nq1, nq2, nq3, nq4, iq0, iq1, iq2, iq3, iq4, iq5, iq6, iq7, iq8, e4, c5]); (try (simp (disch := omega) only [W2, Int.cast_ofNat_Int]; (try simp only [S, TY, reduceCtorEq, nq0, nq1, nq2, nq3, nq4, iq0, iq1, iq2, iq3, iq4, iq5, iq6, iq7, iq8, e4, c5]))))
      exact fin_take (B := []) h5 ⟨by (refine bb ?_; (try simp only [right, BB]) <;> (first | omega | grind)), rfl⟩
  · have e3 : ([d, s].all fun x => decide (x ≤ 281474976710655)) = false := by
      simp only [List.all_cons, List.all_nil, Bool.and_true, Bool.and_eq_false_iff, decide_eq_false_iff_not]; omega
    ((try simp only [S, TY, reduceCtorEq, nq0, nq1, nq2, nq3, nq4, iq0, iq1, iq2, iq3, iq4, iq5, iq6, iq7, iq8, e3, c3]); (try (simp (disch := omega) only [W2, Int.cast_ofNat_Int]; (try simp only [S, TY, reduceCtorEq, nq0, nq1, nq2, nq3, nq4, iq0, iq1, iq2, iq3, iq4, iq5, iq6, iq7, iq8, e3, c3]))))
    exact fin_take (B := []) h3 ⟨by (refine bb ?_; (try simp only [right, BB]) <;> (first | omega | grind)), rfl⟩
theorem and_bit {d : Int} (h0 : 0 ≤ d) (h1 : d < 18446744073709551616) : (IntKind.u64.wrap ((BitVec.ofInt 64 d &&& BitVec.ofInt 64 1099511627776).toNat : Nat) = 0) ↔ ¬ (d.tdiv 1099511627776).tmod 2 = 1 := by
  obtain ⟨n, rfl⟩ : ∃ n : Nat, d = n := ⟨d.toNat, by omega⟩
  have e1 : (BitVec.ofInt 64 (n : Int)).toNat = n := by rw [BitVec.toNat_ofInt]; omega
  have e2 : (BitVec.ofInt 64 1099511627776).toNat = 1099511627776 := by decide
  rw [BitVec.toNat_and, e1, e2]
  have h40 : (1099511627776 : Nat) = 2 ^ 40 := by decide
  have e4 : n.testBit 40 = decide (n / 1099511627776 % 2 = 1) := by rw [Nat.testBit_eq_decide_div_mod_eq, h40]
  have e3 : n &&& 1099511627776 = 0 ↔ ¬ n / 1099511627776 % 2 = 1 := by
    constructor
    · intro h q
      have := congrArg (fun x => x.testBit 40) h
      simp only [h40, Nat.testBit_and, e4, Nat.testBit_two_pow_self, Bool.and_true, Nat.zero_testBit] at this
      simp [h40] at q
      simp [q] at this
    · intro h
      apply Nat.eq_of_testBit_eq
      intro j
      rw [Nat.testBit_and, h40, Nat.testBit_two_pow, Nat.zero_testBit]
      by_cases hj : 40 = j
      · subst hj; rw [e4]; simp [h]
      · simp [hj]
  have e5 : n &&& 1099511627776 ≤ 1099511627776 := Nat.and_le_right
  rw [wrap_u64]
  rw [Int.tdiv_eq_ediv_of_nonneg (by omega), Int.tmod_eq_emod_of_nonneg (by omega)]
  omega
theorem or_local {n : Nat} (h : n ≤ 65535) : IntKind.u64.wrap ((BitVec.ofInt 64 2199023255552 ||| BitVec.ofInt 64 (IntKind.u64.wrap (n : Int))).toNat : Nat) = 2199023255552 + (n : Int) := by
  rw [wrap_u64_id (n := (n : Int)) (by omega) (by omega)]
  have e1 : (BitVec.ofInt 64 (n : Int)).toNat = n := by rw [BitVec.toNat_ofInt]; omega
  have e2 : (BitVec.ofInt 64 2199023255552).toNat = 2199023255552 := by decide
  rw [BitVec.toNat_or, e1, e2]
  have h3 := Nat.two_pow_add_eq_or_of_lt (i := 41) (b := n) (show n < 2 ^ 41 by omega) 1
  have h4 : (2 : Nat) ^ 41 * 1 = 2199023255552 := by decide
  rw [h4] at h3
  rw [← h3]
  exact wrap_u64_id (by omega) (by omega)
def mac (p : Int) : Int := if 0 ≤ p ∧ p ≤ 65535 then 2199023255552 + p else 0
def enc (d s t : Int) (l : List UInt8) : List UInt8 := num 6 d.toNat ++ (num 6 s.toNat ++ (num 2 t.toNat ++ l))
def EncR (d s t : Int) (l : List UInt8) (r : Value) (B : List Asn) : Prop := if right d s t l.length = true then ∃ u, r = .tuple #[u, .int .i64 0] ∧ B = [own 5 1 u (bv (enc d s t l))] else r = .tuple #[.slice none 0 0, .int .i64 1] ∧ B = []
theorem Encode_ok {G : Hp} {v : Value} {l : List UInt8} (d s t : Int) (hd : 0 ≤ d) (hs : 0 ≤ s) (ht : -9223372036854775808 ≤ t ∧ t ≤ 9223372036854775807) (hv : rds G 1 v (bv l)) :
    Con Try.prog G 116 [frv d s t v] [] (EncR d s t l) := by
  refine Con.intro Try.func116 rfl (Nat.le_of_ble_eq_true (by kernel_rfl)) (by kernel_rfl) Try.results116 ?_
  intro H hH
  obtain ⟨a, n, c, rfl, e1, e2⟩ := hv.slice
  rw [bv_length] at e1
  ((try simp only [S, TY, reduceCtorEq, nq0, nq1, nq2, nq3, nq4, iq0, iq1, iq2, iq3, iq4, iq5, iq6, iq7, iq8]); (try (simp (disch := omega) only [W2, Int.cast_ofNat_Int]; (try simp only [S, TY, reduceCtorEq, nq0, nq1, nq2, nq3, nq4, iq0, iq1, iq2, iq3, iq4, iq5, iq6, iq7, iq8]))); repeat ((first | (refine cl_drawi 3 D116_3 ([0, 1, 2, 3, 4, 5, 6, 7, 8, 9, 10, 11, 12, 13, 14, 15, 16, 18, 17, 19]) (by decide) (by kernel_rfl) ?_; unfold D116_3)); simp only [S, TY, reduceCtorEq, nq0, nq1, nq2, nq3, nq4, iq0, iq1, iq2, iq3, iq4, iq5, iq6, iq7, iq8]; (try (simp (disch := omega) only [W2, Int.cast_ofNat_Int]; (try simp only [S, TY, reduceCtorEq, nq0, nq1, nq2, nq3, nq4, iq0, iq1, iq2, iq3, iq4, iq5, iq6, iq7, iq8])))))
  intro b hb hg
  have h1 := hH.new hb hg (.cells #[.int .u64 d, .int .u64 s, .int .i64 t, .slice a n c] 51 (0, 0))
  have c1 := h1.c0
  have w1 := h1.ld
  simp only [List.length_cons, List.length_nil, Nat.reduceAdd] at w1
  ((try simp only [S, TY, reduceCtorEq, nq0, nq1, nq2, nq3, nq4, iq0, iq1, iq2, iq3, iq4, iq5, iq6, iq7, iq8, w1]); (try (simp (disch := omega) only [W2, Int.cast_ofNat_Int]; (try simp only [S, TY, reduceCtorEq, nq0, nq1, nq2, nq3, nq4, iq0, iq1, iq2, iq3, iq4, iq5, iq6, iq7, iq8, w1]))); repeat ((first | (refine cl_drawi 3 D116_3 ([0, 1, 2, 3, 4, 5, 6, 7, 8, 9, 10, 11, 12, 13, 14, 15, 16, 18, 17, 19]) (by decide) (by kernel_rfl) ?_; unfold D116_3)); simp only [S, TY, reduceCtorEq, nq0, nq1, nq2, nq3, nq4, iq0, iq1, iq2, iq3, iq4, iq5, iq6, iq7, iq8, w1]; (try (simp (disch := omega) only [W2, Int.cast_ofNat_Int]; (try simp only [S, TY, reduceCtorEq, nq0, nq1, nq2, nq3, nq4, iq0, iq1, iq2, iq3, iq4, iq5, iq6, iq7, iq8, w1])))))
  refine (Right_ok d s t ht hv).at_ h1 [] _ rfl fun r B H3 hr h3 => ?_
  obtain ⟨rfl, rfl⟩ := hr
  by_cases g : right d s t l.length = true
  · have g' := g
    unfold right at g'
    simp only [decide_eq_true_eq] at g'
    have c3 := h3.c0
    ((try simp only [S, TY, reduceCtorEq, nq0, nq1, nq2, nq3, nq4, iq0, iq1, iq2, iq3, iq4, iq5, iq6, iq7, iq8, g, c3]); (try (simp (disch := omega) only [W2, Int.cast_ofNat_Int]; (try simp only [S, TY, reduceCtorEq, nq0, nq1, nq2, nq3, nq4, iq0, iq1, iq2, iq3, iq4, iq5, iq6, iq7, iq8, g, c3]))); repeat ((first | (refine cl_drawi 3 D116_3 ([0, 1, 2, 3, 4, 5, 6, 7, 8, 9, 10, 11, 12, 13, 14, 15, 16, 18, 17, 19]) (by decide) (by kernel_rfl) ?_; unfold D116_3)); simp only [S, TY, reduceCtorEq, nq0, nq1, nq2, nq3, nq4, iq0, iq1, iq2, iq3, iq4, iq5, iq6, iq7, iq8, g, c3]; (try (simp (disch := omega) only [W2, Int.cast_ofNat_Int]; (try simp only [S, TY, reduceCtorEq, nq0, nq1, nq2, nq3, nq4, iq0, iq1, iq2, iq3, iq4, iq5, iq6, iq7, iq8, g, c3])))))
    intro p hp hpg
    have h4 := isW_shut (w := ⟨[], false⟩) ((h3.nil_ 5 1).new hp hpg _)
    have c4 := (h4.front 1).c0
    have d1 : IntKind.i64.wrap d = d := wrap_id (by omega) (by omega)
    have s1 : IntKind.i64.wrap s = s := wrap_id (by omega) (by omega)
    ((try simp only [S, TY, reduceCtorEq, nq0, nq1, nq2, nq3, nq4, iq0, iq1, iq2, iq3, iq4, iq5, iq6, iq7, iq8, c3, c4, d1, s1]); (try (simp (disch := omega) only [W2, Int.cast_ofNat_Int]; (try simp only [S, TY, reduceCtorEq, nq0, nq1, nq2, nq3, nq4, iq0, iq1, iq2, iq3, iq4, iq5, iq6, iq7, iq8, c3, c4, d1, s1]))); repeat ((first | (refine cl_drawi 3 D116_3 ([0, 1, 2, 3, 4, 5, 6, 7, 8, 9, 10, 11, 12, 13, 14, 15, 16, 18, 17, 19]) (by decide) (by kernel_rfl) ?_; unfold D116_3)); simp only [S, TY, reduceCtorEq, nq0, nq1, nq2, nq3, nq4, iq0, iq1, iq2, iq3, iq4, iq5, iq6, iq7, iq8, c3, c4, d1, s1]; (try (simp (disch := omega) only [W2, Int.cast_ofNat_Int]; (try simp only [S, TY, reduceCtorEq, nq0, nq1, nq2, nq3, nq4, iq0, iq1, iq2, iq3, iq4, iq5, iq6, iq7, iq8, c3, c4, d1, s1])))))
    intro b5 hb5 hg5
    have h5 := h4.newsl (e := 3) (sz := 1) (n := 2) (xs := iv [d, s]) hb5 hg5 rfl
    have c5 := (h5.front 2).c0
    ((try simp only [S, TY, reduceCtorEq, nq0, nq1, nq2, nq3, nq4, iq0, iq1, iq2, iq3, iq4, iq5, iq6, iq7, iq8, c3, c4, c5, d1, s1]); (try (simp (disch := omega) only [W2, Int.cast_ofNat_Int]; (try simp only [S, TY, reduceCtorEq, nq0, nq1, nq2, nq3, nq4, iq0, iq1, iq2, iq3, iq4, iq5, iq6, iq7, iq8, c3, c4, c5, d1, s1]))); repeat ((first | (refine cl_drawi 3 D116_3 ([0, 1, 2, 3, 4, 5, 6, 7, 8, 9, 10, 11, 12, 13, 14, 15, 16, 18, 17, 19]) (by decide) (by kernel_rfl) ?_; unfold D116_3)); simp only [S, TY, reduceCtorEq, nq0, nq1, nq2, nq3, nq4, iq0, iq1, iq2, iq3, iq4, iq5, iq6, iq7, iq8, c3, c4, c5, d1, s1]; (try (simp (disch := omega) only [W2, Int.cast_ofNat_Int]; (try simp only [S, TY, reduceCtorEq, nq0, nq1, nq2, nq3, nq4, iq0, iq1, iq2, iq3, iq4, iq5, iq6, iq7, iq8, c3, c4, c5, d1, s1])))))
    refine Con.lend_at [isW p ⟨[], false⟩] [own 3 1 _ _] h5 [1, 0] rfl (fun F hF hs => put_ok (n := 6) (l := [d, s]) (seps_own hs 0 rfl).left (by simp)) fun r B H6 hr h6 => ?_
    obtain ⟨rfl, rfl⟩ := hr
    have c6 := (h6.front 2).c0
    ((try simp only [S, TY, reduceCtorEq, nq0, nq1, nq2, nq3, nq4, iq0, iq1, iq2, iq3, iq4, iq5, iq6, iq7, iq8, c3, c4, c5, c6, d1, s1]); (try (simp (disch := omega) only [W2, Int.cast_ofNat_Int]; (try simp only [S, TY, reduceCtorEq, nq0, nq1, nq2, nq3, nq4, iq0, iq1, iq2, iq3, iq4, iq5, iq6, iq7, iq8, c3, c4, c5, c6, d1, s1]))); repeat ((first | (refine cl_drawi 3 D116_3 ([0, 1, 2, 3, 4, 5, 6, 7, 8, 9, 10, 11, 12, 13, 14, 15, 16, 18, 17, 19]) (by decide) (by kernel_rfl) ?_; unfold D116_3)); simp only [S, TY, reduceCtorEq, nq0, nq1, nq2, nq3, nq4, iq0, iq1, iq2, iq3, iq4, iq5, iq6, iq7, iq8, c3, c4, c5, c6, d1, s1]; (try (simp (disch := omega) only [W2, Int.cast_ofNat_Int]; (try simp only [S, TY, reduceCtorEq, nq0, nq1, nq2, nq3, nq4, iq0, iq1, iq2, iq3, iq4, iq5, iq6, iq7, iq8, c3, c4, c5, c6, d1, s1])))))
    intro b7 hb7 hg7
    have h7 := h6.newsl (e := 3) (sz := 1) (n := 1) (xs := iv [t]) hb7 hg7 rfl
    have c7 := (h7.front 3).c0
    ((try simp only [S, TY, reduceCtorEq, nq0, nq1, nq2, nq3, nq4, iq0, iq1, iq2, iq3, iq4, iq5, iq6, iq7, iq8, c3, c4, c5, c6, c7, d1, s1]); (try (simp (disch := omega) only [W2, Int.cast_ofNat_Int]; (try simp only [S, TY, reduceCtorEq, nq0, nq1, nq2, nq3, nq4, iq0, iq1, iq2, iq3, iq4, iq5, iq6, iq7, iq8, c3, c4, c5, c6, c7, d1, s1]))); repeat ((first | (refine cl_drawi 3 D116_3 ([0, 1, 2, 3, 4, 5, 6, 7, 8, 9, 10, 11, 12, 13, 14, 15, 16, 18, 17, 19]) (by decide) (by kernel_rfl) ?_; unfold D116_3)); simp only [S, TY, reduceCtorEq, nq0, nq1, nq2, nq3, nq4, iq0, iq1, iq2, iq3, iq4, iq5, iq6, iq7, iq8, c3, c4, c5, c6, c7, d1, s1]; (try (simp (disch := omega) only [W2, Int.cast_ofNat_Int]; (try simp only [S, TY, reduceCtorEq, nq0, nq1, nq2, nq3, nq4, iq0, iq1, iq2, iq3, iq4, iq5, iq6, iq7, iq8, c3, c4, c5, c6, c7, d1, s1])))))
    have hw1 : (W.mk [] false).put 6 [d, s] = ⟨num 6 d.toNat ++ num 6 s.toNat, false⟩ := by
      rw [put_fits (by omega) (by omega) (by intro x hx; simp only [List.mem_cons, List.not_mem_nil, or_false] at hx; rcases hx with rfl | rfl <;> exact ⟨by omega, .inr (by simp; omega)⟩)]
      simp [flat]
    have hw2 : (W.mk (num 6 d.toNat ++ num 6 s.toNat) false).put 2 [t] = ⟨num 6 d.toNat ++ num 6 s.toNat ++ num 2 t.toNat, false⟩ := by
      rw [put_fits (by omega) (by omega) (by intro x hx; simp only [List.mem_cons, List.not_mem_nil, or_false] at hx; rcases hx with rfl; exact ⟨by omega, .inr (by simp; omega)⟩)]
      simp [flat]
    rw [hw1] at h7
    refine Con.lend_at [isW p ⟨num 6 d.toNat ++ num 6 s.toNat, false⟩] [own 3 1 _ _] h7 [1, 0] rfl (fun F hF hs => put_ok (n := 2) (l := [t]) (seps_own hs 0 rfl).left (by simp [num_length])) fun r B H8 hr h8 => ?_
    obtain ⟨rfl, rfl⟩ := hr
    rw [hw2] at h8
    have c8 := (h8.front 3).c0
    ((try simp only [S, TY, reduceCtorEq, nq0, nq1, nq2, nq3, nq4, iq0, iq1, iq2, iq3, iq4, iq5, iq6, iq7, iq8, c3, c4, c5, c6, c7, c8, d1, s1]); (try (simp (disch := omega) only [W2, Int.cast_ofNat_Int]; (try simp only [S, TY, reduceCtorEq, nq0, nq1, nq2, nq3, nq4, iq0, iq1, iq2, iq3, iq4, iq5, iq6, iq7, iq8, c3, c4, c5, c6, c7, c8, d1, s1]))); repeat ((first | (refine cl_drawi 3 D116_3 ([0, 1, 2, 3, 4, 5, 6, 7, 8, 9, 10, 11, 12, 13, 14, 15, 16, 18, 17, 19]) (by decide) (by kernel_rfl) ?_; unfold D116_3)); simp only [S, TY, reduceCtorEq, nq0, nq1, nq2, nq3, nq4, iq0, iq1, iq2, iq3, iq4, iq5, iq6, iq7, iq8, c3, c4, c5, c6, c7, c8, d1, s1]; (try (simp (disch := omega) only [W2, Int.cast_ofNat_Int]; (try simp only [S, TY, reduceCtorEq, nq0, nq1, nq2, nq3, nq4, iq0, iq1, iq2, iq3, iq4, iq5, iq6, iq7, iq8, c3, c4, c5, c6, c7, c8, d1, s1])))))
    refine (Buf.done_ok (by simp [num_length])).at_ h8 [0] _ rfl fun r B H9 hr h9 => ?_
    rw [if_neg (by simp)] at hr
    obtain ⟨va, rfl, rfl⟩ := hr
    obtain ⟨ba, bn, bc, rfl, f1, _⟩ := h9.sl 0 rfl Rd_own
    have c9 := (h9.front 4).c0
    ((try simp only [S, TY, reduceCtorEq, nq0, nq1, nq2, nq3, nq4, iq0, iq1, iq2, iq3, iq4, iq5, iq6, iq7, iq8, c3, c4, c5, c6, c7, c8, c9, d1, s1]); (try (simp (disch := omega) only [W2, Int.cast_ofNat_Int]; (try simp only [S, TY, reduceCtorEq, nq0, nq1, nq2, nq3, nq4, iq0, iq1, iq2, iq3, iq4, iq5, iq6, iq7, iq8, c3, c4, c5, c6, c7, c8, c9, d1, s1]))); repeat ((first | (refine cl_drawi 3 D116_3 ([0, 1, 2, 3, 4, 5, 6, 7, 8, 9, 10, 11, 12, 13, 14, 15, 16, 18, 17, 19]) (by decide) (by kernel_rfl) ?_; unfold D116_3)); simp only [S, TY, reduceCtorEq, nq0, nq1, nq2, nq3, nq4, iq0, iq1, iq2, iq3, iq4, iq5, iq6, iq7, iq8, c3, c4, c5, c6, c7, c8, c9, d1, s1]; (try (simp (disch := omega) only [W2, Int.cast_ofNat_Int]; (try simp only [S, TY, reduceCtorEq, nq0, nq1, nq2, nq3, nq4, iq0, iq1, iq2, iq3, iq4, iq5, iq6, iq7, iq8, c3, c4, c5, c6, c7, c8, c9, d1, s1])))))
    refine append_sl (show apI Try.prog 24 = some (5, 1, 1) from by kernel_rfl) (show slIs Try.prog 24 = true from by kernel_rfl) h9 (h9.ro hv) (bv_one _) (by simp [bv_length, num_length]; omega) fun v H10 h10 => ?_
    ((try simp only [S, TY, reduceCtorEq, nq0, nq1, nq2, nq3, nq4, iq0, iq1, iq2, iq3, iq4, iq5, iq6, iq7, iq8]); (try (simp (disch := omega) only [W2, Int.cast_ofNat_Int]; (try simp only [S, TY, reduceCtorEq, nq0, nq1, nq2, nq3, nq4, iq0, iq1, iq2, iq3, iq4, iq5, iq6, iq7, iq8]))); repeat ((first | (refine cl_drawi 3 D116_3 ([0, 1, 2, 3, 4, 5, 6, 7, 8, 9, 10, 11, 12, 13, 14, 15, 16, 18, 17, 19]) (by decide) (by kernel_rfl) ?_; unfold D116_3)); simp only [S, TY, reduceCtorEq, nq0, nq1, nq2, nq3, nq4, iq0, iq1, iq2, iq3, iq4, iq5, iq6, iq7, iq8]; (try (simp (disch := omega) only [W2, Int.cast_ofNat_Int]; (try simp only [S, TY, reduceCtorEq, nq0, nq1, nq2, nq3, nq4, iq0, iq1, iq2, iq3, iq4, iq5, iq6, iq7, iq8])))))
    rw [← bv_append] at h10
    exact fin_take (B := [_]) h10 (by unfold EncR; rw [if_pos g]; exact ⟨v, rfl, by simp [enc, List.append_assoc]⟩)
  · ((try simp only [S, TY, reduceCtorEq, nq0, nq1, nq2, nq3, nq4, iq0, iq1, iq2, iq3, iq4, iq5, iq6, iq7, iq8, g]); (try (simp (disch := omega) only [W2, Int.cast_ofNat_Int]; (try simp only [S, TY, reduceCtorEq, nq0, nq1, nq2, nq3, nq4, iq0, iq1, iq2, iq3, iq4, iq5, iq6, iq7, iq8, g]))); repeat ((first | (refine cl_drawi 3 D116_3 ([0, 1, 2, 3, 4, 5, 6, 7, 8, 9, 10, 11, 12, 13, 14, 15, 16, 18, 17, 19]) (by decide) (by kernel_rfl) ?_; unfold D116_3)); simp only [S, TY, reduceCtorEq, nq0, nq1, nq2, nq3, nq4, iq0, iq1, iq2, iq3, iq4, iq5, iq6, iq7, iq8, g]; (try (simp (disch := omega) only [W2, Int.cast_ofNat_Int]; (try simp only [S, TY, reduceCtorEq, nq0, nq1, nq2, nq3, nq4, iq0, iq1, iq2, iq3, iq4, iq5, iq6, iq7, iq8, g])))))
    exact fin_take (B := []) h3 (by unfold EncR; rw [if_neg g]; exact ⟨rfl, rfl⟩)
end Go.Proofs.Ytanhmbdcdbcfmaa.Eth
