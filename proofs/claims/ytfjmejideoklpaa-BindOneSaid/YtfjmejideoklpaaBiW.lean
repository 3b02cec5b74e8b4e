/- The third law on rows bound at a chassis: its arguments. -/
import Derived.Test.YtfjmejideoklpaaBiO
import Derived.Test.YtfjmejideoklpaaBiV
set_option linter.unusedVariables false
set_option linter.unusedSimpArgs false
set_option maxRecDepth 10000
set_option maxHeartbeats 2000000
namespace Go.Proofs.Ytfjmejideoklpaa.BiW
open Go Go.Sl Go.Proofs Go.Proofs.Ytfjmejideoklpaa.SoI Go.Proofs.Ytfjmejideoklpaa.Fl Go.Proofs.Ytfjmejideoklpaa.FlT Go.Proofs.Ytfjmejideoklpaa.FlV Go.Proofs.Ytfjmejideoklpaa.Ph Go.Proofs.Ytfjmejideoklpaa.Bi Go.Proofs.Ytfjmejideoklpaa.BiC Go.Proofs.Ytfjmejideoklpaa.BiO Go.Proofs.Ytfjmejideoklpaa.BiV
theorem oneV {G : Hp} {v0 v1 v2 : Value} {y0 : (Ty.sl RWT).den} {y1 : (Ty.int .u8).den} {y2 : KYT.den} (h0 : Ty.V G (.sl RWT) v0 y0) (h1 : Ty.V G (.int .u8) v1 y1) (h2 : Ty.V G KYT v2 y2) :
    Con Try.prog G 13 [v0, v1, v2] [] (fun r B => r = .bool true ∧ B = []) := by
  obtain ⟨k, rfl⟩ := kyV h2
  rcases h0 with ⟨h, _⟩ | ⟨_, w, h, hv⟩
  · cases h
  · cases h
    rcases h1 with ⟨h, _⟩ | ⟨_, h1, k6⟩
    · cases h
    · cases h1
      simp only [Lit.wf, IntKind.min, IntKind.max, IntKind.signed, IntKind.bits, Bool.and_eq_true, decide_eq_true_eq] at k6
      exact oneLaw _ ⟨by have := k6.1; simpa using this, by have := k6.2; simp at this; exact Int.lt_of_le_of_lt this (by decide)⟩ k (rdl_map toRw_l hv)
end Go.Proofs.Ytfjmejideoklpaa.BiW
