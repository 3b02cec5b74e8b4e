/- The law on what tables tell. -/
import Derived.Test.YtanhmbdcdbcfmaaFlD
set_option linter.unusedVariables false
set_option linter.unusedSimpArgs false
set_option maxRecDepth 10000
set_option maxHeartbeats 1000000
namespace Go.Proofs.Ytanhmbdcdbcfmaa.FlL
open Go Go.Sl Go.Proofs Go.Proofs.Ytanhmbdcdbcfmaa.So Go.Proofs.Ytanhmbdcdbcfmaa.SoI Go.Proofs.Ytanhmbdcdbcfmaa.SoR Go.Proofs.Ytanhmbdcdbcfmaa.SoM Go.Proofs.Ytanhmbdcdbcfmaa.SoS Go.Proofs.Ytanhmbdcdbcfmaa.Fl Go.Proofs.Ytanhmbdcdbcfmaa.FlT Go.Proofs.Ytanhmbdcdbcfmaa.FlD
theorem hk1 : goes Try.prog 98 = true := by kernel_rfl
theorem hk2 : goes Try.prog 193 = true := by kernel_rfl
theorem NewR_yes {l : List En} (h : l.length ≤ 256) {r : Value} {B : List Asn} (hr : NewR l r B) : ∃ p, r = .tuple #[.pointer (some ⟨p, 0, none⟩), .int .i64 0] ∧ B = [tb p l] := by
  unfold NewR at hr
  rwa [if_pos h] at hr
theorem NewR_no {l : List En} (h : ¬ l.length ≤ 256) {r : Value} {B : List Asn} (hr : NewR l r B) : r = .tuple #[.pointer none, .int .i64 3] ∧ B = [] := by
  unfold NewR at hr
  rwa [if_neg h] at hr
abbrev ea : En := ⟨1, 3, 7, 2, 0, 9, -2, 1, 2, 0, 0⟩
abbrev eb : En := ⟨5, 2, 0, 2, 0, 4, 3, 2, 0, 6, 0⟩
end Go.Proofs.Ytanhmbdcdbcfmaa.FlL
