/- By rank: the law's arguments. -/
import Derived.Test.YtfjmejideoklpaaFlV
import Derived.Test.YtfjmejideoklpaaFlR
set_option linter.unusedVariables false
set_option linter.unusedSimpArgs false
set_option maxRecDepth 10000
set_option maxHeartbeats 2000000
namespace Go.Proofs.Ytfjmejideoklpaa.FlW
open Go Go.Sl Go.Proofs Go.Proofs.Ytfjmejideoklpaa.SoI Go.Proofs.Ytfjmejideoklpaa.Fl Go.Proofs.Ytfjmejideoklpaa.FlT Go.Proofs.Ytfjmejideoklpaa.FlR Go.Proofs.Ytfjmejideoklpaa.FlV
theorem rankV {G : Hp} {v0 v1 : Value} {y0 : (Ty.sl ENT).den} {y1 : KYT.den} (h0 : Ty.V G (.sl ENT) v0 y0) (h1 : Ty.V G KYT v1 y1) :
    Con Try.prog G 7 [v0, v1] [] (fun r B => r = .bool true ∧ B = []) := by
  obtain ⟨k, rfl⟩ := kyV h1
  rcases h0 with ⟨h, _⟩ | ⟨_, w, h, hv⟩
  · cases h
  · cases h
    exact rank k (rdl_map toEn_l hv)
end Go.Proofs.Ytfjmejideoklpaa.FlW
