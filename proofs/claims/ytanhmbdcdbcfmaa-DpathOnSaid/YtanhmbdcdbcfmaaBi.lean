/- Rows bound at a chassis: what a row means; the entries of rows; by the document, too. -/
import Derived.Test.YtanhmbdcdbcfmaaFlL
import Derived.Test.YtanhmbdcdbcfmaaPh
set_option linter.unusedVariables false
set_option linter.unusedSimpArgs false
set_option maxRecDepth 10000
set_option maxHeartbeats 4000000
namespace Go.Proofs.Ytanhmbdcdbcfmaa.Bi
open Go Go.Sl Go.Proofs Go.Proofs.Ytanhmbdcdbcfmaa.So Go.Proofs.Ytanhmbdcdbcfmaa.SoI Go.Proofs.Ytanhmbdcdbcfmaa.SoR Go.Proofs.Ytanhmbdcdbcfmaa.SoM Go.Proofs.Ytanhmbdcdbcfmaa.SoS Go.Proofs.Ytanhmbdcdbcfmaa.Fl Go.Proofs.Ytanhmbdcdbcfmaa.FlT Go.Proofs.Ytanhmbdcdbcfmaa.FlD Go.Proofs.Ytanhmbdcdbcfmaa.Ph
/-- What a row means at a chassis, of a key. -/
def means (r : Rw) (c : Int) (k : Ky) : Ac :=
  if ¬ ((k.in_ = 0 ∧ k.mac = r.mac) ∨ ((k.in_ = 1 ∨ k.in_ = 2) ∧ k.port = r.port)) ∨ r.ph = 3 ∨ r.gen < k.stamp then ⟨0, 0, 0, 0⟩
  else if r.own = c then ⟨1, r.port, c, r.gen⟩
  else if k.in_ = 0 ∨ (k.in_ = 1 ∧ r.ph = 2 ∧ r.old = c ∧ k.origin ≠ r.own) then ⟨2, r.port, r.own, r.gen⟩ else ⟨0, 0, 0, 0⟩
def asked (k : Ky) : Bool := decide ((k.in_ = 0 ∧ k.stamp = 0 ∧ k.origin = -1) ∨ ((k.in_ = 1 ∨ k.in_ = 2) ∧ 0 ≤ k.origin ∧ k.origin ≤ 15 ∧ 0 ≤ k.stamp))
end Go.Proofs.Ytanhmbdcdbcfmaa.Bi
