/- Stable sorting, in plain lists: what keeps the order of each key; insertion, merging, blocks; the first of the least key. -/
import Derived.Test.YtanhmbdcdbcfmaaTac
set_option linter.unusedVariables false
set_option linter.unusedSimpArgs false
namespace Go.Proofs.Ytanhmbdcdbcfmaa.So
section
variable {α : Type} (k : α → Int)
/-- The same, key by key, in order. -/
def SE (l m : List α) : Prop := ∀ v : Int, l.filter (fun x => decide (k x = v)) = m.filter (fun x => decide (k x = v))
def Srt (l : List α) : Prop := l.Pairwise fun x y => k x ≤ k y
variable {k}
theorem SE.refl (l : List α) : SE k l l := fun _ => rfl
theorem SE.symm {l m : List α} (h : SE k l m) : SE k m l := fun v => (h v).symm
theorem SE.trans {l m n : List α} (h : SE k l m) (g : SE k m n) : SE k l n := fun v => (h v).trans (g v)
theorem SE.app {a b c d : List α} (h : SE k a b) (g : SE k c d) : SE k (a ++ c) (b ++ d) := fun v => by rw [List.filter_append, List.filter_append, h v, g v]
theorem SE.mem {l m : List α} (h : SE k l m) {x : α} : x ∈ l ↔ x ∈ m := by
  have := h (k x)
  constructor
  · intro hx
    have : x ∈ l.filter (fun y => decide (k y = k x)) := by simp [hx]
    rw [h] at this
    exact (List.mem_filter.1 this).1
  · intro hx
    have : x ∈ m.filter (fun y => decide (k y = k x)) := by simp [hx]
    rw [← h] at this
    exact (List.mem_filter.1 this).1
/-- Two that have no key in common may be turned about. -/
theorem SE.swap {s t : List α} (h : ∀ x ∈ s, ∀ y ∈ t, k x ≠ k y) : SE k (s ++ t) (t ++ s) := by
  intro v
  rw [List.filter_append, List.filter_append]
  by_cases hs : ∃ x ∈ s, k x = v
  · obtain ⟨x, hx, rfl⟩ := hs
    have : t.filter (fun y => decide (k y = k x)) = [] := by
      rw [List.filter_eq_nil_iff]
      intro y hy
      simpa using fun e => h x hx y hy e.symm
    rw [this, List.append_nil, List.nil_append]
  · have : s.filter (fun y => decide (k y = v)) = [] := by
      rw [List.filter_eq_nil_iff]
      intro y hy
      simpa using fun e => hs ⟨y, hy, e⟩
    rw [this, List.append_nil, List.nil_append]
theorem SE.nil {l : List α} (h : SE k [] l) : l = [] := by
  cases l with
  | nil => rfl
  | cons x l => exact absurd (h.mem.2 (List.mem_cons_self ..)) (by simp)
theorem Srt.app {s t : List α} (hs : Srt k s) (ht : Srt k t) (h : ∀ x ∈ s, ∀ y ∈ t, k x ≤ k y) : Srt k (s ++ t) := List.pairwise_append.2 ⟨hs, ht, h⟩
theorem Srt.left {s t : List α} (h : Srt k (s ++ t)) : Srt k s := (List.pairwise_append.1 h).1
theorem Srt.right {s t : List α} (h : Srt k (s ++ t)) : Srt k t := (List.pairwise_append.1 h).2.1
theorem Srt.cross {s t : List α} (h : Srt k (s ++ t)) : ∀ x ∈ s, ∀ y ∈ t, k x ≤ k y := (List.pairwise_append.1 h).2.2
theorem Srt.get {l : List α} (h : Srt k l) {i j : Nat} (hi : i ≤ j) (hj : j < l.length) : k (l[i]'(by omega)) ≤ k l[j] := by
  rcases Nat.lt_or_ge i j with q | q
  · exact List.pairwise_iff_getElem.1 h i j (by omega) hj q
  · obtain rfl : i = j := by omega
    exact Int.le_refl _
theorem SE.len {l : List α} : ∀ {m : List α}, SE k l m → l.length = m.length := by
  induction l with
  | nil => intro m h; rw [h.nil]
  | cons x l ih =>
    intro m h
    -- x is in m, and the first of its key
    have hx : x ∈ m := h.mem.1 (List.mem_cons_self ..)
    have h0 := h (k x)
    rw [List.filter_cons_of_pos (by simp)] at h0
    obtain ⟨a, b, rfl, ha⟩ : ∃ a b, m = a ++ x :: b ∧ ∀ y ∈ a, k y ≠ k x := by
      clear hx h ih
      induction m with
      | nil => simp at h0
      | cons y m ih =>
        by_cases hy : k y = k x
        · rw [List.filter_cons_of_pos (by simpa using hy)] at h0
          obtain rfl : x = y := (List.cons.inj h0).1
          exact ⟨[], m, rfl, by simp⟩
        · rw [List.filter_cons_of_neg (by simpa using hy)] at h0
          obtain ⟨a, b, rfl, ha⟩ := ih h0
          exact ⟨y :: a, b, rfl, by simpa using ⟨hy, ha⟩⟩
    have : SE k l (a ++ b) := by
      intro v
      have := h v
      rw [List.filter_append] at this ⊢
      by_cases hv : k x = v
      · subst hv
        rw [List.filter_cons_of_pos (by simp), List.filter_cons_of_pos (by simp)] at this
        have ea : a.filter (fun y => decide (k y = k x)) = [] := by
          rw [List.filter_eq_nil_iff]
          intro y hy
          simpa using ha y hy
        rw [ea] at this ⊢
        simpa using this
      · rw [List.filter_cons_of_neg (by simpa using hv), List.filter_cons_of_neg (by simpa using hv)] at this
        exact this
    have := ih this
    simp only [List.length_append, List.length_cons] at this ⊢
    omega

/-! ### insertion -/
/-- One that goes down. -/
theorem ins_step {u w o : List α} {x y : α} (h : SE k (u ++ [y] ++ [x] ++ w) o) (hy : k x < k y) : SE k (u ++ [x] ++ ([y] ++ w)) o := by
  refine SE.trans ?_ h
  have : SE k ([x] ++ [y]) ([y] ++ [x]) := SE.swap (by simp; omega)
  have := ((SE.refl (k := k) u).app this).app (SE.refl w)
  simpa [List.append_assoc] using this
theorem ins_end {u w : List α} {x : α} (h : Srt k (u ++ w)) (hw : ∀ y ∈ w, k x < k y) (hu : ∀ y ∈ u, k y ≤ k x) : Srt k (u ++ [x] ++ w) := by
  refine Srt.app (Srt.app h.left (by simp [Srt]) ?_) h.right ?_
  · simpa using hu
  · intro a ha b hb
    rcases List.mem_append.1 ha with ha | ha
    · exact h.cross a ha b hb
    · simp only [List.mem_singleton] at ha
      subst ha
      exact Int.le_of_lt (hw b hb)
theorem last_le {u : List α} {y x : α} (h : Srt k (u ++ [y])) (hy : k y ≤ k x) : ∀ z ∈ u ++ [y], k z ≤ k x := by
  intro z hz
  rcases List.mem_append.1 hz with hz | hz
  · exact Int.le_trans (h.cross z hz y (by simp)) hy
  · simp only [List.mem_singleton] at hz
    subst hz; exact hy

/-! ### merging -/
theorem one_right {x : α} {t1 t2 : List α} (h : Srt k (t1 ++ t2)) (h1 : ∀ y ∈ t1, k y < k x) (h2 : ∀ y ∈ t2, k x ≤ k y) : Srt k (t1 ++ [x] ++ t2) ∧ SE k ([x] ++ (t1 ++ t2)) (t1 ++ [x] ++ t2) := by
  refine ⟨?_, ?_⟩
  · refine Srt.app (Srt.app h.left (by simp [Srt]) ?_) h.right ?_
    · intro a ha b hb
      simp only [List.mem_singleton] at hb
      subst hb
      exact Int.le_of_lt (h1 a ha)
    · intro a ha b hb
      rcases List.mem_append.1 ha with ha | ha
      · exact h.cross a ha b hb
      · simp only [List.mem_singleton] at ha
        subst ha
        exact h2 b hb
  · rw [← List.append_assoc]
    refine (SE.swap ?_).app (SE.refl _)
    intro a ha b hb
    simp only [List.mem_singleton] at ha
    subst ha
    have := h1 b hb
    omega
theorem one_left {y : α} {s1 s2 : List α} (h : Srt k (s1 ++ s2)) (h1 : ∀ x ∈ s1, k x ≤ k y) (h2 : ∀ x ∈ s2, k y < k x) : Srt k (s1 ++ [y] ++ s2) ∧ SE k (s1 ++ s2 ++ [y]) (s1 ++ [y] ++ s2) := by
  refine ⟨ins_end h h2 h1, ?_⟩
  rw [List.append_assoc, List.append_assoc]
  refine (SE.refl _).app (SE.swap ?_)
  intro a ha b hb
  simp only [List.mem_singleton] at hb
  subst hb
  have := h2 a ha
  omega
/-- Two halves, each of which is merged. -/
theorem halves {s1 s2 t1 t2 u v : List α} (hs : Srt k (s1 ++ s2)) (ht : Srt k (t1 ++ t2)) (c1 : ∀ x ∈ s1, ∀ y ∈ t2, k x ≤ k y) (c2 : ∀ x ∈ s2, ∀ y ∈ t1, k y < k x)
    (hu : Srt k u ∧ SE k (s1 ++ t1) u) (hv : Srt k v ∧ SE k (s2 ++ t2) v) : Srt k (u ++ v) ∧ SE k (s1 ++ s2 ++ (t1 ++ t2)) (u ++ v) := by
  refine ⟨Srt.app hu.1 hv.1 ?_, ?_⟩
  · intro x hx y hy
    have hx := List.mem_append.1 (hu.2.mem.2 hx)
    have hy := List.mem_append.1 (hv.2.mem.2 hy)
    rcases hx with hx | hx <;> rcases hy with hy | hy
    · exact hs.cross x hx y hy
    · exact c1 x hx y hy
    · exact Int.le_of_lt (c2 y hy x hx)
    · exact ht.cross x hx y hy
  · refine SE.trans ?_ (hu.2.app hv.2)
    have : SE k (s2 ++ t1) (t1 ++ s2) := SE.swap fun x hx y hy => by have := c2 x hx y hy; omega
    have := ((SE.refl (k := k) s1).app this).app (SE.refl t2)
    simpa [List.append_assoc] using this
theorem nil_left {t : List α} (h : Srt k t) : Srt k t ∧ SE k ([] ++ t) t := ⟨h, SE.refl _⟩
theorem nil_right {t : List α} (h : Srt k t) : Srt k t ∧ SE k (t ++ []) t := ⟨h, by rw [List.append_nil]; exact SE.refl _⟩

/-! ### blocks -/
inductive Blk (k : α → Int) (b : Nat) : List α → Prop
  | one {l : List α} (h : Srt k l) (hl : l.length ≤ b) : Blk k b l
  | more {s l : List α} (h : Srt k s) (hs : s.length = b) (hl : Blk k b l) : Blk k b (s ++ l)
theorem Blk.sorted {b : Nat} {l : List α} (h : Blk k b l) (hl : l.length ≤ b) : Srt k l := by
  cases h with
  | one h _ => exact h
  | more h hs h2 =>
    rename_i s l
    rw [List.length_append] at hl
    obtain rfl : l = [] := List.length_eq_zero_iff.1 (by omega)
    simpa using h
theorem Blk.cut {b : Nat} {l : List α} (h : Blk k b l) (hb : b ≤ l.length) : ∃ s r, l = s ++ r ∧ s.length = b ∧ Srt k s ∧ Blk k b r := by
  cases h with
  | one h h2 => exact ⟨l, [], by simp, by omega, h, .one (by simp [Srt]) (by simp)⟩
  | more h hs h2 => exact ⟨_, _, rfl, hs, h, h2⟩
/-- What stands ahead is in blocks. -/
def Pre (k : α → Int) (b : Nat) (d : List α) : Prop := ∀ r, Blk k b r → Blk k b (d ++ r)
theorem Pre.nil {b : Nat} : Pre k b [] := fun _ h => h
theorem Pre.snoc {b : Nat} {d s : List α} (h : Pre k b d) (hs : Srt k s) (hl : s.length = b) : Pre k b (d ++ s) := fun r hr => by
  rw [List.append_assoc]
  exact h _ (.more hs hl hr)
/-! ### the first that one asks for -/
def best (k : α → Int) (p : α → Bool) : Option α → List α → Option α
  | o, [] => o
  | o, x :: l => best k p (if p x = true ∧ (∀ y, o = some y → k x < k y) then some x else o) l
theorem best_cons {p : α → Bool} {o : Option α} {x : α} {l : List α} : best k p o (x :: l) = best k p (if p x = true ∧ (∀ y, o = some y → k x < k y) then some x else o) l := rfl
/-- The first of the least key. -/
def Fst (k : α → Int) (p : α → Bool) (l : List α) (o : Option α) : Prop := match o with
  | none => ∀ x ∈ l, p x = false
  | some x => (∀ y ∈ l, p y = true → k x ≤ k y) ∧ (l.filter fun y => decide (k y = k x)).find? p = some x
theorem Fst.se {p : α → Bool} {l m : List α} (h : SE k l m) {o : Option α} (g : Fst k p l o) : Fst k p m o := by
  cases o with
  | none => exact fun x hx => g x (h.mem.2 hx)
  | some x => exact ⟨fun y hy => g.1 y (h.mem.2 hy), by rw [← h]; exact g.2⟩
theorem Fst.mem {p : α → Bool} {l : List α} {x : α} (g : Fst k p l (some x)) : x ∈ l ∧ p x = true := by
  have := List.mem_of_find?_eq_some g.2
  exact ⟨(List.mem_filter.1 this).1, List.find?_some g.2⟩
theorem Fst.uniq {p : α → Bool} {l : List α} {o q : Option α} (g : Fst k p l o) (h : Fst k p l q) : o = q := by
  cases o with
  | none =>
    cases q with
    | none => rfl
    | some x => have := h.mem; rw [g x this.1] at this; exact absurd this.2 (by simp)
  | some y =>
    cases q with
    | none => have := g.mem; rw [h y this.1] at this; exact absurd this.2 (by simp)
    | some x =>
      have h1 := g.1 x h.mem.1 h.mem.2
      have h2 := h.1 y g.mem.1 g.mem.2
      have e : k x = k y := by omega
      have := h.2
      rw [e, g.2] at this
      exact this
theorem Fst.find {p : α → Bool} {l : List α} (h : Srt k l) : Fst k p l (l.find? p) := by
  cases e : l.find? p with
  | none =>
    intro x hx
    have := List.find?_eq_none.1 e x hx
    simpa using this
  | some x =>
    obtain ⟨hp, a, b, rfl, ha⟩ := List.find?_eq_some_iff_append.1 e
    refine ⟨?_, ?_⟩
    · intro y hy hpy
      rcases List.mem_append.1 hy with hy | hy
      · have := ha y hy; rw [hpy] at this; cases this
      · rcases List.mem_cons.1 hy with rfl | hy
        · exact Int.le_refl _
        · exact (List.pairwise_cons.1 h.right).1 y hy
    · rw [List.filter_append, List.find?_append, List.filter_cons_of_pos (by simp), List.find?_cons_of_pos hp]
      have : (a.filter fun y => decide (k y = k x)).find? p = none := by
        rw [List.find?_eq_none]
        intro y hy
        have := ha y (List.mem_filter.1 hy).1
        simpa using this
      rw [this]; rfl
theorem best_fst {p : α → Bool} : ∀ (l d : List α) (o : Option α), Fst k p d o → Fst k p (d ++ l) (best k p o l)
  | [], d, o, h => by rw [List.append_nil]; exact h
  | x :: l, d, o, h => by
    rw [best_cons, show d ++ x :: l = (d ++ [x]) ++ l by simp]
    refine best_fst l _ _ ?_
    split
    · rename_i g
      refine ⟨?_, ?_⟩
      · intro y hy hpy
        rcases List.mem_append.1 hy with hy | hy
        · cases o with
          | none => rw [h y hy] at hpy; cases hpy
          | some z => exact Int.le_trans (Int.le_of_lt (g.2 z rfl)) (h.1 y hy hpy)
        · simp only [List.mem_singleton] at hy
          subst hy; exact Int.le_refl _
      · rw [List.filter_append, List.find?_append]
        have : (d.filter fun y => decide (k y = k x)).find? p = none := by
          rw [List.find?_eq_none]
          intro y hy
          obtain ⟨hy, e⟩ := List.mem_filter.1 hy
          simp only [decide_eq_true_eq] at e
          intro hpy
          cases o with
          | none => rw [h y hy] at hpy; cases hpy
          | some z =>
            have h1 := g.2 z rfl
            have h2 := h.1 y hy hpy
            omega
        rw [this]
        simp [g.1]
    · rename_i g
      cases o with
      | none =>
        intro y hy
        rcases List.mem_append.1 hy with hy | hy
        · exact h y hy
        · simp only [List.mem_singleton] at hy
          subst hy
          cases e : p y with
          | false => rfl
          | true => exact absurd ⟨e, by simp⟩ g
      | some z =>
        refine ⟨?_, ?_⟩
        · intro y hy hpy
          rcases List.mem_append.1 hy with hy | hy
          · exact h.1 y hy hpy
          · simp only [List.mem_singleton] at hy
            subst hy
            by_cases q : k y < k z
            · exact absurd ⟨hpy, fun w hw => by cases hw; exact q⟩ g
            · omega
        · rw [List.filter_append, List.find?_append, h.2]; rfl
/-- The first that fits of what is sorted is the best of what it was. -/
theorem best_find {p : α → Bool} {l m : List α} (h : SE k l m) (hm : Srt k m) : m.find? p = best k p none l :=
  (Fst.find hm).uniq ((best_fst l [] none (fun x hx => by simp at hx)).se (by simpa using h))
end
end Go.Proofs.Ytanhmbdcdbcfmaa.So
