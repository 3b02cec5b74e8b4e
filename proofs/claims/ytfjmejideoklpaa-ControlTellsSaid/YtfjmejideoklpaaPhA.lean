/- What acts make of rows, in the program. -/
import Derived.Test.YtfjmejideoklpaaPh
set_option linter.unusedVariables false
set_option linter.unusedSimpArgs false
set_option maxRecDepth 10000
set_option maxHeartbeats 1000000
namespace Go.Proofs.Ytfjmejideoklpaa.PhA
open Go Go.Sl Go.Proofs Go.Proofs.Ytfjmejideoklpaa.Ph
abbrev row (p : Nat) (x : Rw) : Asn := ob p (.cells x.l.toArray 25 (0, 0))
abbrev zr : Rw := ⟨0, 0, 0, 0, 0, 0, 0, 0, 0⟩
abbrev pairV (p : Rw × Int) : Value := .tuple #[p.1.v, .int .i64 p.2]
theorem pairV_eq {p : Rw × Int} {r : Rw} {e : Int} (h : p = (r, e)) : Value.tuple #[r.v, .int .i64 e] = pairV p := by subst h; rfl
def _root_.Go.Proofs.Ytfjmejideoklpaa.Ph.Rw.spent (r : Rw) : Bool := decide (4294967296 ≤ r.gen ∨ 1099511627760 < r.ver)
def doR (x : Rw) (now : Int) (wrong : Bool) (a : Rw × Int) : Rw × Int :=
  if wrong = true ∨ x.ok = false ∨ now < 0 ∨ 1099511627776 < now then (zr, 1) else if a.2 ≠ 0 then (zr, a.2) else
  if ({ a.1 with ver := a.1.ver + 1, since := now } : Rw).ok = true then ({ a.1 with ver := a.1.ver + 1, since := now }, 0) else (zr, 1)
end Go.Proofs.Ytfjmejideoklpaa.PhA
