/- ether.Decode, over the machine. -/
import Derived.Test.YtanhmbdcdbcfmaaEth
set_option linter.unusedVariables false
set_option linter.unusedSimpArgs false
set_option maxRecDepth 10000
namespace Go.Proofs.Ytanhmbdcdbcfmaa.EthD
open Go Go.Sl Go.Proofs Go.Proofs.Ytanhmbdcdbcfmaa.Buf Go.Proofs.Ytanhmbdcdbcfmaa.BufRd Go.Proofs.Ytanhmbdcdbcfmaa.BufRe Go.Proofs.Ytanhmbdcdbcfmaa.BufP Go.Proofs.Ytanhmbdcdbcfmaa.Eth
def hdr (b : List UInt8) : Nat × Nat × Nat := (val (b.take 6), val ((b.drop 6).take 6), val ((b.drop 12).take 2))
theorem hdr_lt (b : List UInt8) : (hdr b).1 < 281474976710656 ∧ (hdr b).2.1 < 281474976710656 ∧ (hdr b).2.2 < 65536 := by
  have h : ∀ (l : List UInt8) (k : Nat), val (l.take k) < 256 ^ k := fun l k => Nat.lt_of_lt_of_le (val_lt _) (Nat.pow_le_pow_right (by decide) (by rw [List.length_take]; omega))
  refine ⟨?_, ?_, ?_⟩
  · exact h b 6
  · exact h (b.drop 6) 6
  · exact h (b.drop 12) 2
def DecR (b : List UInt8) (r : Value) (B : List Asn) : Prop := if 14 ≤ b.length ∧ b.length ≤ 1514 then
  ∃ u, r = .tuple #[frv (hdr b).1 (hdr b).2.1 (hdr b).2.2 u, .int .i64 0] ∧ B = [own 5 1 u (bv (b.drop 14))] else r = .tuple #[frv 0 0 0 (.slice none 0 0), .int .i64 2] ∧ B = []
abbrev frl (d s t : Int) (v : Value) : List Value := [.int .u64 d, .int .u64 s, .int .i64 t, v]
end Go.Proofs.Ytanhmbdcdbcfmaa.EthD
