/- The laws on rows bound at a chassis: their arguments. -/
import Derived.Test.YtfjmejideoklpaaBiL
import Derived.Test.YtfjmejideoklpaaFlV
set_option linter.unusedVariables false
set_option linter.unusedSimpArgs false
set_option maxRecDepth 10000
set_option maxHeartbeats 2000000
namespace Go.Proofs.Ytfjmejideoklpaa.BiV
open Go Go.Sl Go.Proofs Go.Proofs.Ytfjmejideoklpaa.SoI Go.Proofs.Ytfjmejideoklpaa.Fl Go.Proofs.Ytfjmejideoklpaa.FlT Go.Proofs.Ytfjmejideoklpaa.FlV Go.Proofs.Ytfjmejideoklpaa.Ph Go.Proofs.Ytfjmejideoklpaa.Bi Go.Proofs.Ytfjmejideoklpaa.BiC Go.Proofs.Ytfjmejideoklpaa.BiL
abbrev RWT : Ty := .st (.pr (.int .i64) (.pr (.int .u64) (.pr (.int .i64) (.pr (.int .i64) (.pr (.int .i64) (.pr (.int .i64) (.pr (.int .i64) (.pr (.int .i64) (.pr (.int .i64) .un)))))))))
def toRw (x : RWT.den) : Rw := ⟨x.1, x.2.1, x.2.2.1, x.2.2.2.1, x.2.2.2.2.1, x.2.2.2.2.2.1, x.2.2.2.2.2.2.1, x.2.2.2.2.2.2.2.1, x.2.2.2.2.2.2.2.2.1⟩
theorem toRw_l {G : Hp} (cs : List Value) (x : RWT.den) (h : RWT.R G cs x) : cs = Rw.l (toRw x) := by
  obtain ⟨_, _, rfl, -, ⟨rfl, -⟩, _, _, rfl, -, ⟨rfl, -⟩, _, _, rfl, -, ⟨rfl, -⟩, _, _, rfl, -, ⟨rfl, -⟩, _, _, rfl, -, ⟨rfl, -⟩, _, _, rfl, -, ⟨rfl, -⟩, _, _, rfl, -, ⟨rfl, -⟩, _, _, rfl, -, ⟨rfl, -⟩, _, _, rfl, -, ⟨rfl, -⟩, rfl⟩ := h
  rfl
theorem rwV {G : Hp} {v : Value} {y : RWT.den} (h : Ty.V G RWT v y) : ∃ x : Rw, v = x.v := by
  rcases h with ⟨_, cs, rfl, h0⟩ | ⟨h, _⟩
  · exact ⟨toRw y, by rw [toRw_l cs y h0]⟩
  · cases h
theorem meansV {G : Hp} {v0 v1 v2 : Value} {y0 : RWT.den} {y1 : (Ty.int .i64).den} {y2 : KYT.den} (h0 : Ty.V G RWT v0 y0) (h1 : Ty.V G (.int .i64) v1 y1) (h2 : Ty.V G KYT v2 y2) :
    Con Try.prog G 11 [v0, v1, v2] [] (fun r B => r = .bool true ∧ B = []) := by
  obtain ⟨k, rfl⟩ := kyV h2
  obtain ⟨r, rfl⟩ := rwV h0
  rcases h1 with ⟨h, _⟩ | ⟨_, h1, -⟩
  · cases h
  · cases h1
    exact meansLaw r _ k
theorem tableV {G : Hp} {v0 v1 v2 : Value} {y0 : (Ty.sl RWT).den} {y1 : (Ty.int .i64).den} {y2 : KYT.den} (h0 : Ty.V G (.sl RWT) v0 y0) (h1 : Ty.V G (.int .i64) v1 y1) (h2 : Ty.V G KYT v2 y2) :
    Con Try.prog G 12 [v0, v1, v2] [] (fun r B => r = .bool true ∧ B = []) := by
  obtain ⟨k, rfl⟩ := kyV h2
  rcases h0 with ⟨h, _⟩ | ⟨_, w, h, hv⟩
  · cases h
  · cases h
    rcases h1 with ⟨h, _⟩ | ⟨_, h1, -⟩
    · cases h
    · cases h1
      exact tableLaw _ k (rdl_map toRw_l hv)
end Go.Proofs.Ytfjmejideoklpaa.BiV
