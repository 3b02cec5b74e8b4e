/- AuditTells: what the statement gives, as the walk wants it. -/
import Derived.Test.YtkdcapgjmcjdjaaAuT
import Derived.Test.YtkdcapgjmcjdjaaRow
set_option linter.unusedVariables false
set_option linter.unusedSimpArgs false
set_option maxRecDepth 10000
namespace Go.Proofs.Ytkdcapgjmcjdjaa.AuS
open Go Go.Sl Go.Proofs Go.Proofs.Ytkdcapgjmcjdjaa.Au Go.Proofs.Ytkdcapgjmcjdjaa.AuF Go.Proofs.Ytkdcapgjmcjdjaa.AuL Go.Proofs.Ytkdcapgjmcjdjaa.AuT
abbrev AT : Ty := .st (.pr (.int .i64) (.pr (.int .i64) (.pr (.int .i64) (.pr (.int .i64) (.pr (.int .i64) (.pr (.int .i64) (.pr (.int .i64) (.pr (.int .i64) (.pr (.int .i64) (.pr (.int .i64) (.pr (.int .i64) (.pr (.int .i64) (.pr (.int .i64) .un)))))))))))))
def toEv (x : AT.den) : Ev := ⟨x.1, x.2.1, x.2.2.1, x.2.2.2.1, x.2.2.2.2.1, x.2.2.2.2.2.1, x.2.2.2.2.2.2.1, x.2.2.2.2.2.2.2.1, x.2.2.2.2.2.2.2.2.1, x.2.2.2.2.2.2.2.2.2.1, x.2.2.2.2.2.2.2.2.2.2.1, x.2.2.2.2.2.2.2.2.2.2.2.1, x.2.2.2.2.2.2.2.2.2.2.2.2.1⟩
theorem toEv_l {G : Hp} (cs : List Value) (x : AT.den) (h : AT.R G cs x) : cs = Ev.l (toEv x) := by
  obtain ⟨_, _, rfl, _, ⟨rfl, _⟩, _, _, rfl, _, ⟨rfl, _⟩, _, _, rfl, _, ⟨rfl, _⟩, _, _, rfl, _, ⟨rfl, _⟩, _, _, rfl, _, ⟨rfl, _⟩, _, _, rfl, _, ⟨rfl, _⟩, _, _, rfl, _, ⟨rfl, _⟩, _, _, rfl, _, ⟨rfl, _⟩, _, _, rfl, _, ⟨rfl, _⟩, _, _, rfl, _, ⟨rfl, _⟩, _, _, rfl, _, ⟨rfl, _⟩, _, _, rfl, _, ⟨rfl, _⟩, _, _, rfl, _, ⟨rfl, _⟩, rfl⟩ := h
  rfl
theorem tellsV {G : Hp} {v0 v1 : Value} {y0 : (Ty.sl AT).den} {y1 : (Ty.int .i64).den} (h0 : Ty.V G (.sl AT) v0 y0) (h1 : Ty.V G (.int .i64) v1 y1) :
    Con Try.prog G 3 [v0, v1] [] (fun r B => r = .bool true ∧ B = []) := by
  rcases h0 with ⟨h, _⟩ | ⟨_, w, h0, hv⟩
  · cases h
  rcases h1 with ⟨h, _⟩ | ⟨_, h1, hk⟩
  · cases h
  cases h0; cases h1
  exact tells _ (rdl_map toEv_l hv)
end Go.Proofs.Ytkdcapgjmcjdjaa.AuS
