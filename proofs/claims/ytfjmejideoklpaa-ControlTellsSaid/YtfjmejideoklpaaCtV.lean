/- The law on what messages tell: its arguments. -/
import Derived.Test.YtfjmejideoklpaaCtM
set_option linter.unusedVariables false
set_option linter.unusedSimpArgs false
set_option maxRecDepth 10000
set_option maxHeartbeats 4000000
namespace Go.Proofs.Ytfjmejideoklpaa.CtV
open Go Go.Sl Go.Proofs Go.Proofs.Ytfjmejideoklpaa.Buf Go.Proofs.Ytfjmejideoklpaa.BufRd Go.Proofs.Ytfjmejideoklpaa.BufRe Go.Proofs.Ytfjmejideoklpaa.BufP Go.Proofs.Ytfjmejideoklpaa.Wr Go.Proofs.Ytfjmejideoklpaa.Ph Go.Proofs.Ytfjmejideoklpaa.PhA Go.Proofs.Ytfjmejideoklpaa.Ct Go.Proofs.Ytfjmejideoklpaa.CtE Go.Proofs.Ytfjmejideoklpaa.CtF Go.Proofs.Ytfjmejideoklpaa.CtD Go.Proofs.Ytfjmejideoklpaa.CtG Go.Proofs.Ytfjmejideoklpaa.CtP Go.Proofs.Ytfjmejideoklpaa.CtL Go.Proofs.Ytfjmejideoklpaa.CtM
theorem rdl_all {G : Hp} {α : Type} {sz : Nat} {Q : List Value → α → Prop} {p : α → Prop} (h : ∀ cs x, Q cs x → p x) {v : Value} {xs : List α} (k : rdl G sz Q v xs) : ∀ x ∈ xs, p x := by
  obtain ⟨css, -, h1, -, h3⟩ := k
  intro x hx
  obtain ⟨i, hi, rfl⟩ := List.getElem_of_mem hx
  exact h _ _ (h3 i (css[i]'(by omega)) _ (List.getElem?_eq_getElem _) (List.getElem?_eq_getElem _))
abbrev RWT : Ty := .st (.pr (.int .i64) (.pr (.int .u64) (.pr (.int .i64) (.pr (.int .i64) (.pr (.int .i64) (.pr (.int .i64) (.pr (.int .i64) (.pr (.int .i64) (.pr (.int .i64) .un)))))))))
abbrev FLT : Ty := .st (.pr (.int .i64) (.pr (.int .u32) (.pr (.int .u32) (.pr (.int .i64) (.pr (.int .i64) .un)))))
abbrev RCT : Ty := .st (.pr FLT (.pr (.int .i64) .un))
abbrev MGT : Ty := .st (.pr (.int .i64) (.pr RWT (.pr (.int .i64) (.pr (.int .i64) (.pr (.sl RCT) .un)))))
def toRc (x : RCT.den) : Rc := ⟨x.1.1, x.1.2.1, x.1.2.2.1, x.1.2.2.2.1, x.1.2.2.2.2.1, x.2.1⟩
theorem toRc_l {G : Hp} (cs : List Value) (x : RCT.den) (h : RCT.R G cs x) : cs = Rc.l (toRc x) := by
  obtain ⟨_, _, rfl, -, ⟨_, _, rfl, -, ⟨rfl, -⟩, _, _, rfl, -, ⟨rfl, -⟩, _, _, rfl, -, ⟨rfl, -⟩, _, _, rfl, -, ⟨rfl, -⟩, _, _, rfl, -, ⟨rfl, -⟩, rfl⟩, _, _, rfl, -, ⟨rfl, -⟩, rfl⟩ := h
  rfl
theorem toRc_good {G : Hp} (cs : List Value) (x : RCT.den) (h : RCT.R G cs x) : Rc.good (toRc x) := by
  obtain ⟨_, _, rfl, -, ⟨_, _, rfl, -, ⟨rfl, -⟩, _, _, rfl, -, ⟨rfl, k1⟩, _, _, rfl, -, ⟨rfl, k2⟩, _, _, rfl, -, ⟨rfl, -⟩, _, _, rfl, -, ⟨rfl, -⟩, rfl⟩, _, _, rfl, -, ⟨rfl, -⟩, rfl⟩ := h
  simp only [Lit.wf, IntKind.min, IntKind.max, IntKind.signed, IntKind.bits, Bool.and_eq_true, decide_eq_true_eq] at k1 k2
  show (0 ≤ x.1.2.1 ∧ x.1.2.1 < 4294967296) ∧ 0 ≤ x.1.2.2.1 ∧ x.1.2.2.1 < 4294967296
  exact ⟨⟨by have := k1.1; simp at this; exact this, by have := k1.2; simp at this; exact Int.lt_of_le_of_lt this (by decide)⟩, by have := k2.1; simp at this; exact this, by have := k2.2; simp at this; exact Int.lt_of_le_of_lt this (by decide)⟩
theorem msgV {G : Hp} {v : Value} {y : MGT.den} (h : Ty.V G MGT v y) : ∃ (m : Mg) (u : Value), v = m.v u ∧ Mg.good m ∧ rcs G u m.recs := by
  rcases h with ⟨_, cs, rfl, h0⟩ | ⟨h, _⟩
  · obtain ⟨_, _, rfl, -, ⟨rfl, -⟩, _, _, rfl, -, ⟨_, _, rfl, -, ⟨rfl, -⟩, _, _, rfl, -, ⟨rfl, k1⟩, _, _, rfl, -, ⟨rfl, -⟩, _, _, rfl, -, ⟨rfl, -⟩, _, _, rfl, -, ⟨rfl, -⟩, _, _, rfl, -, ⟨rfl, -⟩, _, _, rfl, -, ⟨rfl, -⟩, _, _, rfl, -, ⟨rfl, -⟩, _, _, rfl, -, ⟨rfl, -⟩, rfl⟩, _, _, rfl, -, ⟨rfl, -⟩, _, _, rfl, -, ⟨rfl, -⟩, _, _, rfl, -, ⟨u, rfl, hu⟩, rfl⟩ := h0
    simp only [Lit.wf, IntKind.min, IntKind.max, IntKind.signed, IntKind.bits, Bool.and_eq_true, decide_eq_true_eq] at k1
    refine ⟨⟨_, ⟨_, _, _, _, _, _, _, _, _⟩, _, _, _⟩, u, rfl, ⟨by have := k1.1; simp at this; exact this, ?_⟩, rdl_map toRc_l hu⟩
    intro x hx
    obtain ⟨z, hz, rfl⟩ := List.mem_map.1 hx
    exact rdl_all (p := fun z => Rc.good (toRc z)) toRc_good hu z hz
  · cases h
theorem tellsV {G : Hp} {v0 v1 v2 : Value} {y0 y1 : MGT.den} {y2 : (Ty.int .i64).den} (h0 : Ty.V G MGT v0 y0) (h1 : Ty.V G MGT v1 y1) (h2 : Ty.V G (.int .i64) v2 y2) :
    Con Try.prog G 3 [v0, v1, v2] [] (fun r B => r = .bool true ∧ B = []) := by
  obtain ⟨m, u, rfl, hg, hu⟩ := msgV h0
  obtain ⟨n, w, rfl, -, hw⟩ := msgV h1
  rcases h2 with ⟨h, _⟩ | ⟨_, h2, -⟩
  · cases h
  · cases h2
    exact tells m n _ hg hu hw
end Go.Proofs.Ytfjmejideoklpaa.CtV
