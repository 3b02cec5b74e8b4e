/- The check of bytes, in plain Lean. -/
import Derived.Test.YtfdcllpedfifpaaBufP
set_option linter.unusedVariables false
set_option linter.unusedSimpArgs false
namespace Go.Proofs.Ytfdcllpedfifpaa.Inp
open Go Go.Sl Go.Proofs Go.Proofs.Ytfdcllpedfifpaa.Buf Go.Proofs.Ytfdcllpedfifpaa.BufRd Go.Proofs.Ytfdcllpedfifpaa.BufRe Go.Proofs.Ytfdcllpedfifpaa.BufP
/-- The sum of bytes, by twos, from a place on. -/
def wsum : Nat → List UInt8 → Nat
  | _, [] => 0
  | i, c :: l => (if i % 2 = 0 then 256 * c.toNat else c.toNat) + wsum (i + 1) l
theorem wsum_append (i : Nat) (l m : List UInt8) : wsum i (l ++ m) = wsum i l + wsum (i + l.length) m := by
  induction l generalizing i with
  | nil => simp [wsum]
  | cons c l ih =>
    rw [List.cons_append, wsum, wsum, ih (i + 1), List.length_cons]
    rw [show i + 1 + l.length = i + (l.length + 1) by omega]; omega
theorem wsum_snoc (l : List UInt8) (c : UInt8) : wsum 0 (l ++ [c]) = wsum 0 l + if l.length % 2 = 0 then 256 * c.toNat else c.toNat := by
  rw [wsum_append]; simp [wsum]
theorem wsum_le (i : Nat) (l : List UInt8) : wsum i l ≤ 65280 * l.length := by
  induction l generalizing i with
  | nil => simp [wsum]
  | cons c l ih =>
    have := ih (i + 1)
    have := c.toNat_lt
    rw [wsum, List.length_cons]; split <;> omega
def foldN (s : Nat) : Nat := if s ≤ 65535 then s else foldN (s % 65536 + s / 65536)
termination_by s
decreasing_by omega
theorem foldN_le {s : Nat} (h : s ≤ 65535) : foldN s = s := by rw [foldN, if_pos h]
theorem foldN_gt {s : Nat} (h : ¬ s ≤ 65535) : foldN s = foldN (s % 65536 + s / 65536) := by rw [foldN, if_neg h]
theorem foldN_spec : ∀ s : Nat, foldN s ≤ 65535 ∧ foldN s % 65535 = s % 65535 ∧ (0 < s → 0 < foldN s) := by
  intro s
  induction s using Nat.strongRecOn with
  | ind s ih =>
    by_cases h : s ≤ 65535
    · rw [foldN_le h]; exact ⟨h, rfl, id⟩
    · rw [foldN_gt h]
      obtain ⟨h1, h2, h3⟩ := ih (s % 65536 + s / 65536) (by omega)
      exact ⟨h1, by rw [h2]; omega, fun _ => h3 (by omega)⟩
def check (l : List UInt8) : Nat := 65535 - foldN (wsum 0 l)
theorem check_le (l : List UInt8) : check l ≤ 65535 := by unfold check; omega
/-- What is added to a sum makes it whole. -/
theorem whole_sum {s : Nat} (h : 0 < s) : foldN (s + (65535 - foldN s)) = 65535 := by
  obtain ⟨h1, h2, h3⟩ := foldN_spec s
  obtain ⟨g1, g2, g3⟩ := foldN_spec (s + (65535 - foldN s))
  have := h3 h
  have := g3 (by omega)
  omega
theorem wsum_num2 (i x : Nat) (hi : i % 2 = 0) (hx : x ≤ 65535) : wsum i (num 2 x) = x := by
  simp only [num, wsum, UInt8.toNat_ofNat']
  rw [if_pos hi, if_neg (by omega)]
  simp only [Nat.pow_zero, Nat.pow_one, Nat.div_one, Nat.pow_succ, Nat.one_mul]
  omega
theorem and_low {k : Nat} (h : k < 9223372036854775808) : IntKind.i64.wrap ((BitVec.ofInt 64 (k : Int) &&& BitVec.ofInt 64 65535).toNat : Nat) = ((k % 65536 : Nat) : Int) := by
  have e1 : (BitVec.ofInt 64 (k : Int)).toNat = k := by rw [BitVec.toNat_ofInt]; omega
  have e2 : (BitVec.ofInt 64 65535).toNat = 2 ^ 16 - 1 := by decide
  rw [BitVec.toNat_and, e1, e2, Nat.and_two_pow_sub_one_eq_mod]
  exact wrap_id (by omega) (by omega)
theorem xor_low {k : Nat} (h : k ≤ 65535) : IntKind.i64.wrap ((BitVec.ofInt 64 (k : Int) ^^^ BitVec.ofInt 64 65535).toNat : Nat) = ((65535 - k : Nat) : Int) := by
  have e1 : (BitVec.ofInt 64 (k : Int)).toNat = k := by rw [BitVec.toNat_ofInt]; omega
  have e2 : (BitVec.ofInt 64 65535).toNat = 2 ^ 16 - 1 := by decide
  have e3 : k ^^^ (2 ^ 16 - 1) = 2 ^ 16 - (k + 1) := by
    apply Nat.eq_of_testBit_eq
    intro i
    rw [Nat.testBit_xor, Nat.testBit_two_pow_sub_one, Nat.testBit_two_pow_sub_succ (by omega)]
    by_cases hi : i < 16
    · simp [hi]
    · have : k.testBit i = false := Nat.testBit_lt_two_pow (Nat.lt_of_lt_of_le (show k < 2 ^ 16 by omega) (Nat.pow_le_pow_right (by decide) (by omega)))
      simp [hi, this]
  rw [BitVec.toNat_xor, e1, e2, e3, wrap_id (by omega) (by omega)]
  omega
end Go.Proofs.Ytfdcllpedfifpaa.Inp
