/- What audit tells, in plain Lean. -/
import Derived.Test.YtkdcapgjmcjdjaaAuV
set_option linter.unusedVariables false
set_option linter.unusedSimpArgs false
namespace Go.Proofs.Ytkdcapgjmcjdjaa.AuP
open Go Go.Sl Go.Proofs Go.Proofs.Ytkdcapgjmcjdjaa.Au Go.Proofs.Ytkdcapgjmcjdjaa.AuF Go.Proofs.Ytkdcapgjmcjdjaa.AuL Go.Proofs.Ytkdcapgjmcjdjaa.AuV
def one (id : Int) (x : Ev) : Int := (if x.id = id ∧ x.does 1 = true then -1 else 0) + (if x.id = id ∧ x.what = 3 then 1 else 0)
def cnt (id : Int) (l : List Ev) : Int := (l.map (one id)).sum
theorem cnt_nil (id : Int) : cnt id [] = 0 := rfl
theorem cnt_snoc (id : Int) (l : List Ev) (x : Ev) : cnt id (l ++ [x]) = cnt id l + one id x := by simp [cnt]
theorem does_what {x : Ev} (h : x.does 1 = true) : x.what ≠ 3 := by
  unfold Ev.does Ev.look at h; grind
structure Good (p : List Ev) (q : List ((Int × Int) × Int) × List (Int × Int)) : Prop where
  at_ : ∀ y ∈ p, y.does 1 = true → mget q.1 (y.port, y.gen) = some y.chassis
  of_ : ∀ k c, mget q.1 k = some c → ∃ y ∈ p, y.does 1 = true ∧ (y.port, y.gen) = k ∧ y.chassis = c
  sp_ : ∀ id, sp q.2 id = cnt id p
  lo : ∀ id, -1 ≤ cnt id p
theorem good_nil : Good [] ([], []) := ⟨by simp, by simp [mget_nil], by intro id; simp [sp, mget_nil, cnt_nil], by intro id; simp [cnt_nil]⟩
theorem fault_give {q : List ((Int × Int) × Int) × List (Int × Int)} {x : Ev} (h : faultS q.1 q.2 x = 0) (hd : x.does 1 = true) : (∀ c, mget q.1 (x.port, x.gen) = some c → c = x.chassis) ∧ 0 ≤ sp q.2 x.id := by
  unfold faultS at h
  constructor
  · intro c hc
    apply Decidable.byContradiction
    intro hne
    rw [if_pos ⟨hd, by rw [hc]; rfl, by rw [hc]; intro e; exact hne (Option.some.inj e)⟩] at h
    cases h
  · apply Decidable.byContradiction
    intro hlt
    split at h
    · cases h
    · rw [if_pos ⟨hd, by omega⟩] at h
      cases h
theorem good_step {p : List Ev} {q : List ((Int × Int) × Int) × List (Int × Int)} {x : Ev} (g : Good p q) (h : faultS q.1 q.2 x = 0) : Good (p ++ [x]) (note q x) := by
  by_cases hd : x.does 1 = true
  · obtain ⟨h1, h2⟩ := fault_give h hd
    have hw := does_what hd
    have hn : note q x = (mput q.1 (x.port, x.gen) x.chassis, mput q.2 x.id (sp q.2 x.id - 1)) := by unfold note; rw [if_pos hd]
    rw [hn]
    have ho : ∀ id, one id x = if x.id = id then -1 else 0 := by intro id; unfold one; simp [hd, hw]
    refine ⟨?_, ?_, ?_, ?_⟩
    · intro y hy hyd
      simp only [mget_mput]
      by_cases e : (y.port, y.gen) = (x.port, x.gen)
      · rw [if_pos e]
        rcases List.mem_append.1 hy with hy | hy
        · have := g.at_ y hy hyd
          rw [e] at this
          rw [h1 _ this]
        · rw [List.mem_singleton.1 hy]
      · rw [if_neg e]
        rcases List.mem_append.1 hy with hy | hy
        · exact g.at_ y hy hyd
        · rw [List.mem_singleton.1 hy] at e; exact absurd rfl e
    · intro k c hk
      simp only [mget_mput] at hk
      by_cases e : k = (x.port, x.gen)
      · rw [if_pos e] at hk
        exact ⟨x, by simp, hd, e.symm, Option.some.inj hk⟩
      · rw [if_neg e] at hk
        obtain ⟨y, hy, q1⟩ := g.of_ k c hk
        exact ⟨y, by simp [hy], q1⟩
    · intro id
      rw [cnt_snoc, ho]
      simp only [sp_put]
      by_cases e : id = x.id
      · rw [if_pos e, if_pos e.symm, g.sp_, e]; omega
      · rw [if_neg e, if_neg (fun q => e q.symm), g.sp_]; omega
    · intro id
      rw [cnt_snoc, ho]
      have := g.lo id
      by_cases e : x.id = id
      · rw [g.sp_, e] at h2
        rw [if_pos e]; omega
      · rw [if_neg e]; omega
  · by_cases hw : x.what = 3
    · have hn : note q x = (q.1, mput q.2 x.id (sp q.2 x.id + 1)) := by unfold note; rw [if_neg hd, if_pos hw]
      rw [hn]
      have ho : ∀ id, one id x = if x.id = id then 1 else 0 := by intro id; unfold one; simp [hd, hw]
      refine ⟨?_, ?_, ?_, ?_⟩
      · intro y hy hyd
        rcases List.mem_append.1 hy with hy | hy
        · exact g.at_ y hy hyd
        · rw [List.mem_singleton.1 hy] at hyd; exact absurd hyd hd
      · intro k c hk
        obtain ⟨y, hy, q1⟩ := g.of_ k c hk
        exact ⟨y, by simp [hy], q1⟩
      · intro id
        rw [cnt_snoc, ho]
        simp only [sp_put]
        by_cases e : id = x.id
        · rw [if_pos e, if_pos e.symm, g.sp_, e]
        · rw [if_neg e, if_neg (fun q => e q.symm), g.sp_]; omega
      · intro id
        rw [cnt_snoc, ho]
        have := g.lo id
        split <;> omega
    · have hn : note q x = q := by unfold note; rw [if_neg hd, if_neg hw]
      rw [hn]
      have ho : ∀ id, one id x = 0 := by intro id; unfold one; simp [hd, hw]
      refine ⟨?_, ?_, ?_, ?_⟩
      · intro y hy hyd
        rcases List.mem_append.1 hy with hy | hy
        · exact g.at_ y hy hyd
        · rw [List.mem_singleton.1 hy] at hyd; exact absurd hyd hd
      · intro k c hk
        obtain ⟨y, hy, q1⟩ := g.of_ k c hk
        exact ⟨y, by simp [hy], q1⟩
      · intro id; rw [cnt_snoc, ho, g.sp_]; omega
      · intro id; rw [cnt_snoc, ho]; have := g.lo id; omega
theorem look_place : ∀ (l : List Ev) (q : List ((Int × Int) × Int) × List (Int × Int)) (i : Int), ((lookS l q i).2 ≠ 0 → i ≤ (lookS l q i).1 ∧ (lookS l q i).1 < i + l.length) ∧ ((lookS l q i).2 = 0 → (lookS l q i).1 = -1)
  | [], q, i => by simp [lookS]
  | x :: l, q, i => by
    rw [lookS]
    by_cases h : faultS q.1 q.2 x = 0
    · rw [if_neg (by simp [h])]
      have := look_place l (note q x) (i + 1)
      simp only [List.length_cons]
      refine ⟨fun h2 => ?_, this.2⟩
      have := this.1 h2
      omega
    · rw [if_pos h]
      simp only [List.length_cons]
      exact ⟨fun _ => by omega, fun h2 => absurd h2 h⟩
theorem look_take : ∀ (l : List Ev) (q : List ((Int × Int) × Int) × List (Int × Int)) (i : Int) (k : Nat), (lookS l q i).2 = 0 → lookS (l.take k) q i = (-1, 0)
  | [], q, i, k, h => by simp [lookS]
  | x :: l, q, i, 0, h => by simp [lookS]
  | x :: l, q, i, k + 1, h => by
    rw [lookS] at h
    by_cases hf : faultS q.1 q.2 x = 0
    · rw [if_neg (by simp [hf])] at h
      rw [List.take_succ_cons, lookS, if_neg (by simp [hf])]
      exact look_take l (note q x) (i + 1) k h
    · rw [if_pos hf] at h; exact absurd h hf
theorem look_good : ∀ (l p : List Ev) (q : List ((Int × Int) × Int) × List (Int × Int)) (i : Int), Good p q → (lookS l q i).2 = 0 → ∃ q', Good (p ++ l) q'
  | [], p, q, i, g, h => ⟨q, by simpa using g⟩
  | x :: l, p, q, i, g, h => by
    rw [lookS] at h
    by_cases hf : faultS q.1 q.2 x = 0
    · rw [if_neg (by simp [hf])] at h
      obtain ⟨q', g'⟩ := look_good l (p ++ [x]) (note q x) (i + 1) (good_step g hf) h
      exact ⟨q', by simpa using g'⟩
    · rw [if_pos hf] at h; exact absurd h hf
/-- If nothing is wrong: one chassis at one place, and no more deliveries than may be. -/
theorem fine {l : List Ev} (h : (lookS l ([], []) 0).2 = 0) : (∀ x ∈ l, ∀ y ∈ l, x.does 1 = true → y.does 1 = true → y.port = x.port → y.gen = x.gen → y.chassis = x.chassis) ∧ ∀ id, 0 ≤ 1 + cnt id l := by
  obtain ⟨q, g⟩ := look_good l [] ([], []) 0 good_nil h
  rw [List.nil_append] at g
  refine ⟨fun x hx y hy dx dy e1 e2 => ?_, fun id => by have := g.lo id; omega⟩
  have h1 := g.at_ x hx dx
  have h2 := g.at_ y hy dy
  rw [e1, e2, h1] at h2
  exact (Option.some.inj h2).symm
end Go.Proofs.Ytkdcapgjmcjdjaa.AuP
