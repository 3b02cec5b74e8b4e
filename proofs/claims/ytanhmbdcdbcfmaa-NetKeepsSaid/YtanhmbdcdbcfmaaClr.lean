/- The rest of a slice, cleared. -/
import Derived.Test.YtanhmbdcdbcfmaaRow
set_option linter.unusedVariables false
set_option linter.unusedSimpArgs false
namespace Go.Sl
open Go
def opClear (P : Program) (G : Hp) (t : TypeId) (v : Value) (H : Hp) (K : Value → Hp → Prop) : Prop := wpH P G (Builtin.clear_ #[t] 0 #[v]) H K (fun _ _ => False)
section
variable {P : Program} {G : Hp} {e : Env} {d : Option Tmp} {ty : TypeId} {p : String} {af : Array Edge} {g : Option (Nat × Bool)}
theorem opV_clear (t : TypeId) (x : Operand) {H : Hp} {K : Value → Hp → Prop} : opV P G (execOp e.ev ⟨d, .call ⟨.builtin .clear, #[x], #[t]⟩, ty, p, af, g⟩) H K = opClear P G t (e.ev x) H K := by
  rw [exec_builtin, map1]
  show wpH P G (do pure (Next.value (← Builtin.clear_ #[t] ty #[e.ev x]))) H _ _ = _
  rw [wpH_bind]; rfl
end
theorem zc_one {z : Value} {sz n : Nat} (hzs : z.cells.size = sz) (h : ∀ v ∈ z.cells.toList, v.oneCell' = true) : ∀ v ∈ (Builtin.zeroCells z.cells n).toList, v.oneCell' = true := by
  intro v hv
  unfold Builtin.zeroCells at hv
  rw [Array.toList_map, List.mem_map] at hv
  obtain ⟨i, hi, rfl⟩ := hv
  have hr : i < n * z.cells.size := by
    rw [Array.mem_toList_iff] at hi
    simpa using hi
  have hp : 0 < z.cells.size := by
    rcases Nat.eq_zero_or_pos z.cells.size with q | q
    · rw [q] at hr; omega
    · exact q
  have hm : i % z.cells.size < z.cells.size := Nat.mod_lt _ hp
  have q : z.cells[i % z.cells.size]! = z.cells[i % z.cells.size]'hm := getElem!_pos z.cells _ hm
  rw [q]
  exact h _ (by simp)
theorem clear_own {P : Program} {G H : Hp} {t e : TypeId} {sz nb : Nat} (ht : apI P t = some (e, sz, nb)) {a : Option Addr} {len cap m : Nat} {xs : List Value} {L : List Asn} {K : Value → Hp → Prop} (hm : m ≤ len)
    (h : sg G (own e sz (.slice a len cap) xs :: L) H) (k : ∀ H', sg G (own e sz (.slice a m cap) (xs.take (m * sz)) :: L) H' → K (.tuple #[]) H') :
    opClear P G t (.slice (if cap = m then a else a.map (·.add (m * sz))) (len - m) (cap - m)) H K := by
  obtain ⟨i, z, a1, a2, a3, a4, rfl, a6, a7, a8, a9⟩ := apI_spec ht
  have hzr : zro P e = some z := by unfold zro; rw [a2]; simp [a3]
  unfold opClear Builtin.clear_
  show wpH P G (underlying t >>= _) H _ _
  rw [wpH_bind, wpH_underlying a1]
  rcases Nat.eq_zero_or_pos (len - m) with hz | hz
  · rw [hz]
    generalize (if cap = m then a else a.map (·.add (m * sz))) = q
    cases q <;> exact k H (own_take h m hm)
  · obtain ⟨n', hn⟩ : ∃ n', len - m = n' + 1 := ⟨len - m - 1, by omega⟩
    obtain ⟨hd, H1, H2, rfl, hd2, ho, hl⟩ := h
    rcases ho with ⟨q, rfl⟩ | ⟨b, off, len', cap', cs, fr, q, g1, g2, g3, g4, g5, g6⟩
    · cases q; omega
    · cases q
      rw [if_neg (by omega), hn]
      show wpH P G (zeroValue e >>= fun z => (storeCells ((⟨b, off, none⟩ : Addr).add (m * sz)) (Builtin.zeroCells z.cells (n' + 1)).toList >>= fun _ => pure (.tuple #[]))) (H1.un H2) K _
      rw [wpH_bind, wpH_zeroValue hzr, wpH_bind, add_mk, wpH_storeCells]
      have hall : sg G (ob b (.cells cs e fr) :: L) (H1.un H2) := ⟨hd, H1, H2, rfl, hd2, g1, hl⟩
      have hzl : (Builtin.zeroCells z.cells (n' + 1)).toList.length = (n' + 1) * sz := by
        unfold Builtin.zeroCells; simp [a6, a4]
      have e1 : (m + (n' + 1)) * sz = len * sz := by congr 1; omega
      rw [Nat.add_mul] at e1
      have e2 : len * sz ≤ cap * sz := Nat.mul_le_mul_right _ g3
      obtain ⟨H', st1, st2⟩ := hall.stl (off := off + m * sz) (Builtin.zeroCells z.cells (n' + 1)).toList g2 (zc_one rfl a9) (by rw [hzl]; omega)
      refine ⟨H', st1, ?_⟩
      refine k _ (st2.open_ (M := [own e sz (.slice (some ⟨b, off, none⟩) m cap) (xs.take (m * sz))]) fun H hd hb => ⟨H, Hp.emp, (Hp.un_emp H).symm, fun b => .inr rfl, ?_, trivial⟩)
      have hms : m * sz ≤ len * sz := Nat.mul_le_mul_right _ hm
      refine .inr ⟨b, off, m, cap, _, fr, rfl, hb, ?_, by omega, ?_, ?_, ?_⟩
      · unfold cold at g2 ⊢; rw [putL_size]; exact g2
      · rw [putL_size]; exact g4
      · rw [List.length_take]; omega
      · intro j hj
        rw [List.length_take] at hj
        rw [putL_get _ _ _ _ (by rw [hzl]; omega), if_neg (by omega), g6 j (by omega), List.getElem?_take_of_lt (by omega)]
end Go.Sl
