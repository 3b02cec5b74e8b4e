/- Records of bodies: their sum, over the machine. -/
import Derived.Test.YtfjmejideoklpaaJnP
set_option linter.unusedVariables false
set_option linter.unusedSimpArgs false
set_option maxRecDepth 10000
set_option maxHeartbeats 1000000
namespace Go.Proofs.Ytfjmejideoklpaa.JnS
open Nat renaming reduceEqDiff → nq0, reduceAdd → nq1, reduceLeDiff → nq2, reduceBEq → nq3, reduceMul → nq4
open Int renaming reduceBEq → iq0, reduceEq → iq1, reduceLT → iq2, reduceLE → iq3, reduceAdd → iq4, reduceSub → iq5, reduceMul → iq6, reduceToNat → iq7, cast_ofNat_Int → iq8
open Go Go.Sl Go.Proofs Go.Proofs.Ytfjmejideoklpaa.Buf Go.Proofs.Ytfjmejideoklpaa.BufRd Go.Proofs.Ytfjmejideoklpaa.BufRe Go.Proofs.Ytfjmejideoklpaa.BufP Go.Proofs.Ytfjmejideoklpaa.Jn Go.Proofs.Ytfjmejideoklpaa.JnP
theorem TY : aggN Try.prog 3 = some none ∧
  aggN Try.prog 5 = some none ∧
  aggN Try.prog 33 = some none ∧
  aggN Try.prog 145 = some none ∧
  apI Try.prog 33 = some (5, 1, 1) ∧
  bySl Try.prog 33 = true ∧
  csz Try.prog 3 = some 1 ∧
  csz Try.prog 5 = some 1 ∧
  csz Try.prog 33 = some 1 ∧
  csz Try.prog 145 = some 1 ∧
  inIs Try.prog 3 = some .i64 ∧
  inIs Try.prog 5 = some .u8 ∧
  inIs Try.prog 145 = some .u32 ∧
  slEl Try.prog 33 = 5 ∧
  slIs Try.prog 33 = true ∧
  slSz Try.prog 33 = 1 ∧
  zro Try.prog 3 = some (.int .i64 0) ∧
  zro Try.prog 5 = some (.int .u8 0) ∧
  zro Try.prog 33 = some (.slice none 0 0) ∧
  zro Try.prog 145 = some (.int .u32 0) :=
  ⟨by kernel_rfl, by kernel_rfl, by kernel_rfl, by kernel_rfl, by kernel_rfl, by kernel_rfl, by kernel_rfl, by kernel_rfl, by kernel_rfl, by kernel_rfl, by kernel_rfl, by kernel_rfl, by kernel_rfl, by kernel_rfl, by kernel_rfl, by kernel_rfl, by kernel_rfl, by kernel_rfl, by kernel_rfl, by kernel_rfl⟩
theorem byte_at {G H : Hp} {L : List Asn} {a : Option Addr} {n c : Nat} {l : List UInt8} (h : sg G L H) (hv : rds G 1 (.slice a n c) (bv l)) {i : Nat} (hi : i < l.length) :
    ∃ b off, a = some ⟨b, off, none⟩ ∧ (H.un G).cell ⟨b, off + i, none⟩ = some (.int .u8 (l[i].toNat : Nat)) := by
  obtain ⟨a', n', c', e1, e2, e3⟩ := hv.slice
  cases e1
  rw [bv_length] at e2
  obtain ⟨b, off, rfl, c1⟩ := (h.ro hv).at1 (i := i) (by omega)
  refine ⟨b, off, rfl, ?_⟩
  rw [c1]
  unfold bv
  rw [List.getElem?_map, List.getElem?_eq_getElem hi]; rfl
theorem wu32 {a : Nat} (h : a < 4294967296) : (a : Int) % 4294967296 = (a : Int) := by omega
theorem Sum_ok {G : Hp} {v : Value} {l : List UInt8} (hv : rds G 1 v (bv l)) (hll : l.length ≤ 100000) : Con Try.prog G 65 [v] [] (fun r B => r = .int .i64 (sum l : Nat) ∧ B = []) := by
  obtain ⟨a, n, c, rfl, e1, e2⟩ := hv.slice
  rw [bv_length, Nat.mul_one] at e1
  subst e1
  refine Con.intro Try.func65 rfl (Nat.le_of_ble_eq_true (by kernel_rfl)) (by kernel_rfl) Try.results65 ?_
  intro H h
  ((try simp only [S, TY, reduceCtorEq, nq0, nq1, nq2, nq3, nq4, iq0, iq1, iq2, iq3, iq4, iq5, iq6, iq7, iq8]); (try (simp (disch := omega) only [W2, Int.cast_ofNat_Int]; (try simp only [S, TY, reduceCtorEq, nq0, nq1, nq2, nq3, nq4, iq0, iq1, iq2, iq3, iq4, iq5, iq6, iq7, iq8]))))
  refine cl_loop (fun i e H => i ≤ l.length ∧ e 6 = .slice a l.length c ∧ e 7 = .int .i64 (l.length : Nat) ∧ e 8 = .int .i64 (i : Nat) ∧ e 3 = .int .u32 (crc (l.take i) : Nat) ∧ sg G [] H) (fun i : Nat => l.length - i) 0
    ⟨by omega, rfl, rfl, rfl, rfl, h⟩ ?_
  clear h
  rintro i e H ⟨q1, q6, q7, q8, q3, h⟩
  by_cases g1 : (i : Int) < l.length
  · have hi : i < l.length := by omega
    obtain ⟨b, off, rfl, c0⟩ := byte_at h hv hi
    have g0 : (0 : Int) ≤ i ∧ (i : Int) < l.length := ⟨by omega, g1⟩
    have hs : l.take (i + 1) = l.take i ++ [l[i]] := by rw [List.take_add_one, List.getElem?_eq_getElem hi]; rfl
    have hcb := l[i].toNat_lt
    have hcr := crc_lt (l.take i)
    have w1 : IntKind.u32.wrap ((l[i].toNat : Nat) : Int) = ((l[i].toNat : Nat) : Int) := w32 (by omega)
    have x1 := xor32 hcr (show l[i].toNat < 4294967296 by omega)
    have hxl := xor_lt l[i] hcr
    obtain ⟨y, hy⟩ : ∃ y, crc (l.take i) ^^^ l[i].toNat = y := ⟨_, rfl⟩
    rw [hy] at x1 hxl
    ((try simp only [S, TY, reduceCtorEq, nq0, nq1, nq2, nq3, nq4, iq0, iq1, iq2, iq3, iq4, iq5, iq6, iq7, iq8, q3, q6, q7, q8, g1, g0, c0, w1, x1]); (try (simp (disch := omega) only [W2, Int.cast_ofNat_Int]; (try simp only [S, TY, reduceCtorEq, nq0, nq1, nq2, nq3, nq4, iq0, iq1, iq2, iq3, iq4, iq5, iq6, iq7, iq8, q3, q6, q7, q8, g1, g0, c0, w1, x1]))))
    refine cl_loop (fun k e H => k ≤ 8 ∧ e 6 = .slice (some ⟨b, off, none⟩) l.length c ∧ e 7 = .int .i64 (l.length : Nat) ∧ e 8 = .int .i64 (i : Nat) ∧ e 16 = .int .i64 (k : Nat) ∧ e 3 = .int .u32 (bitn k y : Nat) ∧ sg G [] H) (fun k : Nat => 8 - k) 0
      ⟨by omega, q6, q7, q8, rfl, congrArg (Value.int .u32) x1, h⟩ ?_
    clear h q3 q6 q7 q8
    rintro k e H ⟨q2, q6, q7, q8, q16, q3, h⟩
    by_cases g2 : (k : Int) < 8
    · have hb := bitn_lt hxl k
      obtain ⟨z, hz⟩ : ∃ z, bitn k y = z := ⟨_, rfl⟩
      rw [hz] at hb
      rw [hz] at q3
      have d1 : (z : Int).fdiv (2 ^ 1) = ((z / 2 : Nat) : Int) := fdiv_pos (k := 1)
      have d1' : (z : Int).fdiv 2 = ((z / 2 : Nat) : Int) := fdiv_pos (k := 1)
      have a1 : IntKind.u32.wrap ((BitVec.ofInt 32 (z : Int) &&& BitVec.ofInt 32 1).toNat : Nat) = ((z % 2 : Nat) : Int) := by
        have := and32 hb (show 1 < 4294967296 by decide)
        rw [Nat.and_one_is_mod] at this
        exact this
      have m1 : IntKind.u32.wrap (3988292384 * ((z % 2 : Nat) : Int)) = ((3988292384 * (z % 2) : Nat) : Int) := by
        have := w32 (a := 3988292384 * (z % 2)) (by omega)
        rw [← this]; congr 1
      have x2 := xor32 (show z / 2 < 4294967296 by omega) (show 3988292384 * (z % 2) < 4294967296 by omega)
      rw [step32 hb] at x2
      ((try simp only [S, TY, reduceCtorEq, nq0, nq1, nq2, nq3, nq4, iq0, iq1, iq2, iq3, iq4, iq5, iq6, iq7, iq8, q3, q6, q7, q8, q16, g2, d1, d1', a1, m1, x2]); (try (simp (disch := omega) only [W2, Int.cast_ofNat_Int]; (try simp only [S, TY, reduceCtorEq, nq0, nq1, nq2, nq3, nq4, iq0, iq1, iq2, iq3, iq4, iq5, iq6, iq7, iq8, q3, q6, q7, q8, q16, g2, d1, d1', a1, m1, x2]))))
      refine .go (k + 1) (by omega) ⟨by omega, q6, q7, q8, rfl, ?_, h⟩
      have x3 : IntKind.u32.wrap ((BitVec.ofInt 32 ((z : Int).fdiv (2 ^ min 1 32)) ^^^ BitVec.ofInt 32 (IntKind.u32.wrap (3988292384 * IntKind.u32.wrap ((BitVec.ofInt 32 (z : Int) &&& BitVec.ofInt 32 1).toNat : Nat)))).toNat : Nat) = ((bit z : Nat) : Int) := by
        rw [show min 1 32 = 1 from rfl, d1, a1, m1, x2]
      rw [show bitn (k + 1) y = bit z from by rw [← hz]; rfl]
      exact congrArg (Value.int .u32) x3
    · obtain rfl : k = 8 := by omega
      ((try simp only [S, TY, reduceCtorEq, nq0, nq1, nq2, nq3, nq4, iq0, iq1, iq2, iq3, iq4, iq5, iq6, iq7, iq8, q3, q6, q7, q8, q16, g2]); (try (simp (disch := omega) only [W2, Int.cast_ofNat_Int]; (try simp only [S, TY, reduceCtorEq, nq0, nq1, nq2, nq3, nq4, iq0, iq1, iq2, iq3, iq4, iq5, iq6, iq7, iq8, q3, q6, q7, q8, q16, g2]))))
      refine .go (i + 1) (by omega) ⟨by omega, q6, q7, rfl, ?_, h⟩
      rw [hs, crc_snoc]
      unfold one
      rw [hy]
      exact q3
  · rw [List.take_of_length_le (by omega)] at q3
    have hcr := crc_lt l
    have x1 : IntKind.u32.wrap ((BitVec.ofInt 32 4294967295 ^^^ BitVec.ofInt 32 (crc l : Int)).toNat : Nat) = ((sum l : Nat) : Int) := by
      have := xor32 (show 4294967295 < 4294967296 by decide) hcr
      rw [not32 hcr] at this
      exact this
    have w1 : IntKind.i64.wrap ((sum l : Nat) : Int) = ((sum l : Nat) : Int) := by have := sum_lt l; rw [wrap_id] <;> omega
    ((try simp only [S, TY, reduceCtorEq, nq0, nq1, nq2, nq3, nq4, iq0, iq1, iq2, iq3, iq4, iq5, iq6, iq7, iq8, q3, q6, q7, q8, g1, rd_unOp_xor, rUn_xor_u32, x1, w1]); (try (simp (disch := omega) only [W2, Int.cast_ofNat_Int]; (try simp only [S, TY, reduceCtorEq, nq0, nq1, nq2, nq3, nq4, iq0, iq1, iq2, iq3, iq4, iq5, iq6, iq7, iq8, q3, q6, q7, q8, g1, rd_unOp_xor, rUn_xor_u32, x1, w1]))))
    exact fin_take (B := []) h ⟨rfl, rfl⟩
theorem dSum_ok {G : Hp} {v : Value} {l : List UInt8} (hv : rds G 1 v (bv l)) (hll : l.length ≤ 100000) : Con Try.prog G 66 [v] [] (fun r B => r = .int .i64 (sum l : Nat) ∧ B = []) := by
  obtain ⟨a, n, c, rfl, e1, e2⟩ := hv.slice
  rw [bv_length, Nat.mul_one] at e1
  subst e1
  refine Con.intro Try.func66 rfl (Nat.le_of_ble_eq_true (by kernel_rfl)) (by kernel_rfl) Try.results66 ?_
  intro H h
  ((try simp only [S, TY, reduceCtorEq, nq0, nq1, nq2, nq3, nq4, iq0, iq1, iq2, iq3, iq4, iq5, iq6, iq7, iq8]); (try (simp (disch := omega) only [W2, Int.cast_ofNat_Int]; (try simp only [S, TY, reduceCtorEq, nq0, nq1, nq2, nq3, nq4, iq0, iq1, iq2, iq3, iq4, iq5, iq6, iq7, iq8]))))
  refine cl_loop (fun i e H => i ≤ l.length ∧ e 0 = .slice a l.length c ∧ e 4 = .int .i64 (i : Nat) ∧ e 3 = .int .u32 (crc (l.take i) : Nat) ∧ sg G [] H) (fun i : Nat => l.length - i) 0
    ⟨by omega, rfl, rfl, rfl, h⟩ ?_
  clear h
  rintro i e H ⟨q1, q0, q4, q3, h⟩
  by_cases g1 : (i : Int) < l.length
  · have hi : i < l.length := by omega
    obtain ⟨b, off, rfl, c0⟩ := byte_at h hv hi
    have g0 : (0 : Int) ≤ i ∧ (i : Int) < l.length := ⟨by omega, g1⟩
    have hs : l.take (i + 1) = l.take i ++ [l[i]] := by rw [List.take_add_one, List.getElem?_eq_getElem hi]; rfl
    have hcb := l[i].toNat_lt
    have hcr := crc_lt (l.take i)
    have w1 : IntKind.u32.wrap ((l[i].toNat : Nat) : Int) = ((l[i].toNat : Nat) : Int) := w32 (by omega)
    have x1 := xor32 hcr (show l[i].toNat < 4294967296 by omega)
    have hxl := xor_lt l[i] hcr
    obtain ⟨y, hy⟩ : ∃ y, crc (l.take i) ^^^ l[i].toNat = y := ⟨_, rfl⟩
    rw [hy] at x1 hxl
    ((try simp only [S, TY, reduceCtorEq, nq0, nq1, nq2, nq3, nq4, iq0, iq1, iq2, iq3, iq4, iq5, iq6, iq7, iq8, q0, q3, q4, g1, g0, c0, w1, x1]); (try (simp (disch := omega) only [W2, Int.cast_ofNat_Int]; (try simp only [S, TY, reduceCtorEq, nq0, nq1, nq2, nq3, nq4, iq0, iq1, iq2, iq3, iq4, iq5, iq6, iq7, iq8, q0, q3, q4, g1, g0, c0, w1, x1]))))
    refine cl_loop (fun k e H => k ≤ 8 ∧ e 0 = .slice (some ⟨b, off, none⟩) l.length c ∧ e 4 = .int .i64 (i : Nat) ∧ e 5 = .int .i64 (k : Nat) ∧ e 3 = .int .u32 (bitn k y : Nat) ∧ sg G [] H) (fun k : Nat => 8 - k) 0
      ⟨by omega, q0, q4, rfl, congrArg (Value.int .u32) x1, h⟩ ?_
    clear h q0 q3 q4
    rintro k e H ⟨q2, q0, q4, q5, q3, h⟩
    by_cases g2 : (k : Int) < 8
    · have hb := bitn_lt hxl k
      obtain ⟨z, hz⟩ : ∃ z, bitn k y = z := ⟨_, rfl⟩
      rw [hz] at hb
      rw [hz] at q3
      have n2 : ¬ (2 : Int) = 0 := by decide
      have r1 : (z : Int).tmod 2 = ((z % 2 : Nat) : Int) := by rw [Int.tmod_eq_emod_of_nonneg (by omega)]; omega
      have d1 : IntKind.u32.wrap ((z : Int).tdiv 2) = ((z / 2 : Nat) : Int) := by
        rw [Int.tdiv_eq_ediv_of_nonneg (by omega), wrap_u32]; omega
      have x2 := xor32 (show z / 2 < 4294967296 by omega) (show 3988292384 < 4294967296 by decide)
      by_cases g3 : z % 2 = 1
      · have g4 : ((z % 2 : Nat) : Int) = 1 := by omega
        ((try simp only [S, TY, reduceCtorEq, nq0, nq1, nq2, nq3, nq4, iq0, iq1, iq2, iq3, iq4, iq5, iq6, iq7, iq8, q0, q3, q4, q5, g2, n2, r1, g4, d1, x2]); (try (simp (disch := omega) only [W2, Int.cast_ofNat_Int]; (try simp only [S, TY, reduceCtorEq, nq0, nq1, nq2, nq3, nq4, iq0, iq1, iq2, iq3, iq4, iq5, iq6, iq7, iq8, q0, q3, q4, q5, g2, n2, r1, g4, d1, x2]))))
        refine .go (k + 1) (by omega) ⟨by omega, q0, q4, rfl, ?_, h⟩
        show _ = Value.int .u32 (bit (bitn k y) : Nat)
        rw [hz]; unfold bit; rw [if_pos g3]
        exact congrArg (Value.int .u32) x2
      · have g4 : ¬ ((z % 2 : Nat) : Int) = 1 := by omega
        ((try simp only [S, TY, reduceCtorEq, nq0, nq1, nq2, nq3, nq4, iq0, iq1, iq2, iq3, iq4, iq5, iq6, iq7, iq8, q0, q3, q4, q5, g2, n2, r1, g4, d1]); (try (simp (disch := omega) only [W2, Int.cast_ofNat_Int]; (try simp only [S, TY, reduceCtorEq, nq0, nq1, nq2, nq3, nq4, iq0, iq1, iq2, iq3, iq4, iq5, iq6, iq7, iq8, q0, q3, q4, q5, g2, n2, r1, g4, d1]))))
        refine .go (k + 1) (by omega) ⟨by omega, q0, q4, rfl, ?_, h⟩
        show _ = Value.int .u32 (bit (bitn k y) : Nat)
        rw [hz]; unfold bit; rw [if_neg g3]
        rfl
    · obtain rfl : k = 8 := by omega
      ((try simp only [S, TY, reduceCtorEq, nq0, nq1, nq2, nq3, nq4, iq0, iq1, iq2, iq3, iq4, iq5, iq6, iq7, iq8, q0, q3, q4, q5, g2]); (try (simp (disch := omega) only [W2, Int.cast_ofNat_Int]; (try simp only [S, TY, reduceCtorEq, nq0, nq1, nq2, nq3, nq4, iq0, iq1, iq2, iq3, iq4, iq5, iq6, iq7, iq8, q0, q3, q4, q5, g2]))))
      refine .go (i + 1) (by omega) ⟨by omega, q0, rfl, ?_, h⟩
      rw [hs, crc_snoc]
      unfold one
      rw [hy]
      exact q3
  · rw [List.take_of_length_le (by omega)] at q3
    have hcr := crc_lt l
    have x1 : IntKind.u32.wrap (4294967295 - ((crc l : Nat) : Int)) = ((sum l : Nat) : Int) := by rw [wrap_u32]; unfold sum; omega
    have w1 : IntKind.i64.wrap ((sum l : Nat) : Int) = ((sum l : Nat) : Int) := by have := sum_lt l; rw [wrap_id] <;> omega
    ((try simp only [S, TY, reduceCtorEq, nq0, nq1, nq2, nq3, nq4, iq0, iq1, iq2, iq3, iq4, iq5, iq6, iq7, iq8, q0, q3, q4, g1, x1, w1]); (try (simp (disch := omega) only [W2, Int.cast_ofNat_Int]; (try simp only [S, TY, reduceCtorEq, nq0, nq1, nq2, nq3, nq4, iq0, iq1, iq2, iq3, iq4, iq5, iq6, iq7, iq8, q0, q3, q4, g1, x1, w1]))))
    exact fin_take (B := []) h ⟨rfl, rfl⟩
end Go.Proofs.Ytfjmejideoklpaa.JnS
