/- Records of bodies: their sum. -/
import Derived.Test.YtfjmejideoklpaaBufP
import Derived.Test.YtfjmejideoklpaaBlob
set_option linter.unusedVariables false
set_option linter.unusedSimpArgs false
set_option maxRecDepth 10000
set_option maxHeartbeats 1000000
namespace Go.Proofs.Ytfjmejideoklpaa.Jn
open Go Go.Sl Go.Proofs Go.Proofs.Ytfjmejideoklpaa.Buf Go.Proofs.Ytfjmejideoklpaa.BufRd Go.Proofs.Ytfjmejideoklpaa.BufRe Go.Proofs.Ytfjmejideoklpaa.BufP
def bit (n : Nat) : Nat := if n % 2 = 1 then (n / 2) ^^^ 3988292384 else n / 2
def bitn : Nat → Nat → Nat
  | 0, n => n
  | k + 1, n => bit (bitn k n)
theorem bit_lt {n : Nat} (h : n < 4294967296) : bit n < 4294967296 := by
  unfold bit
  split
  · exact Nat.xor_lt_two_pow (n := 32) (show n / 2 < 2 ^ 32 by omega) (by decide)
  · omega
theorem bitn_lt {n : Nat} (h : n < 4294967296) : ∀ k, bitn k n < 4294967296
  | 0 => h
  | k + 1 => bit_lt (bitn_lt h k)
def one (x : Nat) (c : UInt8) : Nat := bitn 8 (x ^^^ c.toNat)
theorem xor_lt {x : Nat} (c : UInt8) (h : x < 4294967296) : x ^^^ c.toNat < 4294967296 :=
  Nat.xor_lt_two_pow (n := 32) h (by have := c.toNat_lt; omega)
theorem one_lt {x : Nat} (c : UInt8) (h : x < 4294967296) : one x c < 4294967296 := bitn_lt (xor_lt c h) 8
def crc (l : List UInt8) : Nat := l.foldl one 4294967295
theorem fold_lt (l : List UInt8) : ∀ x : Nat, x < 4294967296 → l.foldl one x < 4294967296 := by
  induction l with
  | nil => exact fun x h => h
  | cons c l ih => exact fun x h => ih _ (one_lt c h)
theorem crc_lt (l : List UInt8) : crc l < 4294967296 := fold_lt l _ (by decide)
theorem crc_snoc (l : List UInt8) (c : UInt8) : crc (l ++ [c]) = one (crc l) c := by unfold crc; rw [List.foldl_append]; rfl
def sum (l : List UInt8) : Nat := 4294967295 - crc l
theorem sum_lt (l : List UInt8) : sum l < 4294967296 := by unfold sum; omega
theorem not32 {n : Nat} (h : n < 4294967296) : 4294967295 ^^^ n = 4294967295 - n := by
  have h1 : 4294967295 ^^^ n = (~~~ (BitVec.ofNat 32 n)).toNat := by
    rw [← BitVec.allOnes_xor, BitVec.toNat_xor, BitVec.toNat_allOnes, BitVec.toNat_ofNat, Nat.mod_eq_of_lt h]
  rw [h1, BitVec.toNat_not, BitVec.toNat_ofNat, Nat.mod_eq_of_lt h]
/-- One bit, as the program has it. -/
theorem step32 {n : Nat} (h : n < 4294967296) : (n / 2) ^^^ (3988292384 * (n % 2)) = bit n := by
  unfold bit
  by_cases g : n % 2 = 1
  · rw [if_pos g, g]
  · rw [if_neg g, show n % 2 = 0 by omega, Nat.mul_zero, Nat.xor_zero]
end Go.Proofs.Ytfjmejideoklpaa.Jn
