/- Rows bound at a chassis: plainly, what a table tells is what the first row means. -/
import Derived.Test.YtanhmbdcdbcfmaaBiC
set_option linter.unusedVariables false
set_option linter.unusedSimpArgs false
set_option maxRecDepth 10000
set_option maxHeartbeats 1000000
namespace Go.Proofs.Ytanhmbdcdbcfmaa.BiP
open Go Go.Sl Go.Proofs Go.Proofs.Ytanhmbdcdbcfmaa.So Go.Proofs.Ytanhmbdcdbcfmaa.SoI Go.Proofs.Ytanhmbdcdbcfmaa.Fl Go.Proofs.Ytanhmbdcdbcfmaa.FlT Go.Proofs.Ytanhmbdcdbcfmaa.Ph Go.Proofs.Ytanhmbdcdbcfmaa.Bi Go.Proofs.Ytanhmbdcdbcfmaa.BiC
theorem fits_i (k : Ky) (r : Rw) (i n x : Int) : fits k (ent r i n x) = decide (((k.in_ = 0 ∧ i % 2 ≠ 0 ∧ r.mac = k.mac) ∨ (k.in_ = 1 ∧ i / 2 % 2 ≠ 0 ∧ r.port = k.port) ∨ (k.in_ = 2 ∧ i / 4 % 2 ≠ 0 ∧ r.port = k.port)) ∧ 0 ≤ k.stamp ∧ k.stamp ≤ r.gen ∧ k.origin ≠ n) := rfl
theorem row_find (c : Int) (k : Ky) (r : Rw) (hk : asked k = true) : ((comp c r).find? (fits k)).map act = if (means r c k).kind ≠ 0 then some (means r c k) else none := by
  unfold asked at hk
  rw [decide_eq_true_eq] at hk
  by_cases h1 : r.ph = 3
  · have : means r c k = ⟨0, 0, 0, 0⟩ := by unfold means; rw [if_pos (.inr (.inl h1))]
    rw [this]
    unfold comp
    rw [if_pos h1]; rfl
  by_cases h0 : ¬ ((k.in_ = 0 ∧ k.mac = r.mac) ∨ ((k.in_ = 1 ∨ k.in_ = 2) ∧ k.port = r.port)) ∨ r.ph = 3 ∨ r.gen < k.stamp
  · have hm : means r c k = ⟨0, 0, 0, 0⟩ := by unfold means; rw [if_pos h0]
    rw [hm]
    have hf : ∀ i n x, fits k (ent r i n x) = false := by
      intro i n x
      rw [fits_i, decide_eq_false_iff_not]
      omega
    unfold comp
    rw [if_neg h1]
    split
    · rw [List.find?_cons_of_neg (by rw [hf]; decide)]; rfl
    · rw [List.find?_cons_of_neg (by rw [hf]; decide)]
      split
      · rw [List.find?_cons_of_neg (by rw [hf]; decide)]; rfl
      · rfl
  by_cases h2 : r.own = c
  · have hm : means r c k = ⟨1, r.port, c, r.gen⟩ := by unfold means; rw [if_neg h0, if_pos h2]
    have hf : fits k (ent r 7 (-2) 1) = true := by
      rw [fits_i, decide_eq_true_eq]
      omega
    unfold comp
    rw [hm, if_neg h1, if_pos h2, List.find?_cons_of_pos hf, ← h2]; rfl
  have hm : means r c k = if k.in_ = 0 ∨ (k.in_ = 1 ∧ r.ph = 2 ∧ r.old = c ∧ k.origin ≠ r.own) then ⟨2, r.port, r.own, r.gen⟩ else ⟨0, 0, 0, 0⟩ := by unfold means; rw [if_neg h0, if_neg h2]
  have yes : (k.in_ = 0 ∨ (k.in_ = 1 ∧ r.ph = 2 ∧ r.old = c ∧ k.origin ≠ r.own)) → means r c k = ⟨2, r.port, r.own, r.gen⟩ := fun h => by rw [hm, if_pos h]
  have no : ¬ (k.in_ = 0 ∨ (k.in_ = 1 ∧ r.ph = 2 ∧ r.old = c ∧ k.origin ≠ r.own)) → means r c k = ⟨0, 0, 0, 0⟩ := fun h => by rw [hm, if_neg h]
  clear hm
  unfold comp
  rw [if_neg h1, if_neg h2]
  by_cases h3 : k.in_ = 0
  · have hf : fits k (ent r 1 (-2) 2) = true := by
      rw [fits_i, decide_eq_true_eq]
      omega
    rw [yes (.inl h3), List.find?_cons_of_pos hf]; rfl
  · have hf : fits k (ent r 1 (-2) 2) = false := by
      rw [fits_i, decide_eq_false_iff_not]
      omega
    rw [List.find?_cons_of_neg (by rw [hf]; decide)]
    by_cases h4 : r.ph = 2 ∧ r.old = c
    · rw [if_pos h4]
      by_cases h5 : k.in_ = 1 ∧ k.origin ≠ r.own
      · have hf : fits k (ent r 2 r.own 2) = true := by
          rw [fits_i, decide_eq_true_eq]
          omega
        rw [yes (.inr ⟨h5.1, h4.1, h4.2, h5.2⟩), List.find?_cons_of_pos hf]; rfl
      · have hf : fits k (ent r 2 r.own 2) = false := by
          rw [fits_i, decide_eq_false_iff_not]
          omega
        rw [no (by omega), List.find?_cons_of_neg (by rw [hf]; decide)]; rfl
    · rw [if_neg h4, no (by omega)]; rfl
/-- What the first row means that means something. -/
def first (l : List Rw) (c : Int) (k : Ky) : Ac × Bool := match l.find? (fun r => decide ((means r c k).kind ≠ 0)) with | some r => (means r c k, true) | none => (⟨0, 0, 0, 0⟩, false)
theorem rows_find (c : Int) (k : Ky) (hk : asked k = true) : ∀ l : List Rw, ((l.flatMap (comp c)).find? (fits k)).map act = (l.find? (fun r => decide ((means r c k).kind ≠ 0))).map fun r => means r c k := by
  intro l
  induction l with
  | nil => rfl
  | cons r l ih =>
    rw [List.flatMap_cons, List.find?_append, List.find?_cons]
    have hr := row_find c k r hk
    by_cases h : (means r c k).kind ≠ 0
    · rw [if_pos h] at hr
      rw [decide_eq_true h]
      cases e : (comp c r).find? (fits k) with
      | none => rw [e] at hr; cases hr
      | some x => rw [e] at hr; exact hr
    · rw [if_neg h] at hr
      rw [decide_eq_false h]
      cases e : (comp c r).find? (fits k) with
      | none => exact ih
      | some x => rw [e] at hr; cases hr
theorem comp_kk (c : Int) (l : List Rw) : ∀ x ∈ l.flatMap (comp c), kk x = -1 := by
  intro x hx
  obtain ⟨r, -, hx⟩ := List.mem_flatMap.1 hx
  unfold comp at hx
  split at hx
  · cases hx
  · split at hx
    · rw [List.mem_singleton] at hx; subst hx; rfl
    · rcases List.mem_cons.1 hx with rfl | hx
      · rfl
      · split at hx
        · rw [List.mem_singleton] at hx; subst hx; rfl
        · cases hx
theorem look_first (c : Int) (k : Ky) (hk : asked k = true) (l : List Rw) : lookT k (l.flatMap (comp c)) = first l c k := by
  have hs : Srt kk (l.flatMap (comp c)) := by
    refine List.pairwise_iff_forall_sublist.2 ?_
    intro x y hxy
    have h1 := comp_kk c l x (hxy.subset (by simp))
    have h2 := comp_kk c l y (hxy.subset (by simp))
    omega
  have hb := best_find (p := fits k) (SE.refl (k := kk) (l.flatMap (comp c))) hs
  have hr := rows_find c k hk l
  unfold lookT first
  rw [← hb]
  cases e : (l.flatMap (comp c)).find? (fits k) with
  | none =>
    rw [e] at hr
    cases e2 : l.find? (fun r => decide ((means r c k).kind ≠ 0)) with
    | none => rfl
    | some r => rw [e2] at hr; cases hr
  | some x =>
    rw [e] at hr
    cases e2 : l.find? (fun r => decide ((means r c k).kind ≠ 0)) with
    | none => rw [e2] at hr; cases hr
    | some r => rw [e2] at hr; simp only [Option.map_some, Option.some.injEq] at hr; simp only [hr]
def Std (l : List Rw) : Prop := (∀ x ∈ l, x.ok = true) ∧ l.Pairwise fun a b => a.port ≠ b.port
instance (l : List Rw) : Decidable (Std l) := by unfold Std; infer_instance
theorem first_some {l : List Rw} {c : Int} {k : Ky} {a : Ac} (h : first l c k = (a, true)) : ∃ r ∈ l, a = means r c k ∧ (means r c k).kind ≠ 0 := by
  unfold first at h
  cases e : l.find? (fun r => decide ((means r c k).kind ≠ 0)) with
  | none => rw [e] at h; simp at h
  | some r =>
    rw [e] at h
    simp only [Prod.mk.injEq, and_true] at h
    refine ⟨r, List.mem_of_find?_eq_some e, h.symm, ?_⟩
    have := List.find?_some e
    simpa using this
theorem first_none {l : List Rw} {c : Int} {k : Ky} {a : Ac} (h : first l c k = (a, false)) : a = ⟨0, 0, 0, 0⟩ := by
  unfold first at h
  split at h
  · simp at h
  · simp only [Prod.mk.injEq, and_true] at h; exact h.symm
/-- What a row means: how it goes. -/
theorem means_law {r : Rw} {c : Int} {k : Ky} (hk : asked k = true) (h : (means r c k).kind ≠ 0) : (means r c k).port = r.port ∧ (means r c k).to = r.own ∧ (means r c k).gen = r.gen ∧ k.stamp ≤ r.gen ∧
    (((means r c k).kind = 1 ∧ r.own = c) ∨ ((means r c k).kind = 2 ∧ r.own ≠ c ∧ k.in_ ≠ 2 ∧ (k.in_ = 1 → r.own ≠ k.origin))) := by
  unfold means at h ⊢
  split at h
  · exact absurd rfl h
  · rename_i h0
    rw [if_neg h0]
    split at h
    · rename_i h2
      rw [if_pos h2]
      refine ⟨rfl, h2.symm, rfl, by omega, .inl ⟨rfl, h2⟩⟩
    · rename_i h2
      rw [if_neg h2]
      split at h
      · rename_i h3
        rw [if_pos h3]
        refine ⟨rfl, rfl, rfl, by omega, .inr ⟨rfl, h2, by omega, by omega⟩⟩
      · exact absurd rfl h
end Go.Proofs.Ytanhmbdcdbcfmaa.BiP
