/- The law on what tables tell: its arguments. -/
import Derived.Test.YtfjmejideoklpaaFlM
set_option linter.unusedVariables false
set_option linter.unusedSimpArgs false
set_option maxRecDepth 10000
set_option maxHeartbeats 2000000
namespace Go.Proofs.Ytfjmejideoklpaa.FlV
open Go Go.Sl Go.Proofs Go.Proofs.Ytfjmejideoklpaa.SoI Go.Proofs.Ytfjmejideoklpaa.Fl Go.Proofs.Ytfjmejideoklpaa.FlT Go.Proofs.Ytfjmejideoklpaa.FlM
abbrev ACT : Ty := .st (.pr (.int .i64) (.pr (.int .i64) (.pr (.int .i64) (.pr (.int .i64) .un))))
abbrev ENT : Ty := .st (.pr (.int .i64) (.pr (.int .i64) (.pr (.int .u64) (.pr (.int .i64) (.pr (.int .i64) (.pr (.int .i64) (.pr (.int .i64) (.pr ACT .un))))))))
abbrev KYT : Ty := .st (.pr (.int .i64) (.pr (.int .u64) (.pr (.int .i64) (.pr (.int .i64) (.pr (.int .i64) .un)))))
def toEn (x : ENT.den) : En := ⟨x.1, x.2.1, x.2.2.1, x.2.2.2.1, x.2.2.2.2.1, x.2.2.2.2.2.1, x.2.2.2.2.2.2.1, x.2.2.2.2.2.2.2.1.1, x.2.2.2.2.2.2.2.1.2.1, x.2.2.2.2.2.2.2.1.2.2.1, x.2.2.2.2.2.2.2.1.2.2.2.1⟩
theorem toEn_l {G : Hp} (cs : List Value) (x : ENT.den) (h : ENT.R G cs x) : cs = En.l (toEn x) := by
  obtain ⟨_, _, rfl, -, ⟨rfl, -⟩, _, _, rfl, -, ⟨rfl, -⟩, _, _, rfl, -, ⟨rfl, -⟩, _, _, rfl, -, ⟨rfl, -⟩, _, _, rfl, -, ⟨rfl, -⟩, _, _, rfl, -, ⟨rfl, -⟩, _, _, rfl, -, ⟨rfl, -⟩, _, _, rfl, -, ⟨_, _, rfl, -, ⟨rfl, -⟩, _, _, rfl, -, ⟨rfl, -⟩, _, _, rfl, -, ⟨rfl, -⟩, _, _, rfl, -, ⟨rfl, -⟩, rfl⟩, rfl⟩ := h
  rfl
theorem kyV {G : Hp} {v : Value} {y : KYT.den} (h : Ty.V G KYT v y) : ∃ k : Ky, v = k.v := by
  rcases h with ⟨_, cs, rfl, h0⟩ | ⟨h, _⟩
  · obtain ⟨_, _, rfl, -, ⟨rfl, -⟩, _, _, rfl, -, ⟨rfl, -⟩, _, _, rfl, -, ⟨rfl, -⟩, _, _, rfl, -, ⟨rfl, -⟩, _, _, rfl, -, ⟨rfl, -⟩, rfl⟩ := h0
    exact ⟨⟨_, _, _, _, _⟩, rfl⟩
  · cases h
theorem tellsV {G : Hp} {v0 v1 : Value} {y0 : (Ty.sl ENT).den} {y1 : KYT.den} (h0 : Ty.V G (.sl ENT) v0 y0) (h1 : Ty.V G KYT v1 y1) :
    Con Try.prog G 6 [v0, v1] [] (fun r B => r = .bool true ∧ B = []) := by
  obtain ⟨k, rfl⟩ := kyV h1
  rcases h0 with ⟨h, _⟩ | ⟨_, w, h, hv⟩
  · cases h
  · cases h
    exact tells k (rdl_map toEn_l hv)
end Go.Proofs.Ytfjmejideoklpaa.FlV
