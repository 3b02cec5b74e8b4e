/- The orders that a region's edges allow: each is one of all operations, in which nothing comes ahead of what it waits for. And the look at a region that its text's order stands for all. -/
import Derived.Test.YtanhmbdcdbcfmaaOrder
set_option linter.unusedVariables false
set_option linter.unusedSimpArgs false
namespace Go.Sl
open Go

section
variable (m : Region.Mode) (ops : Array Oper)
/-- i waits for j, directly. -/
def waits (i j : Nat) : Bool := match ops[i]? with | some o => o.after.any fun e => Region.binds m e && e.on == j | none => false
theorem ready_iff {listed : Array Bool} (i : Nat) (hi : i < ops.size) :
    ((ops[i]?).map (·.after.all fun e => !Region.binds m e || listed.getD e.on false)).getD false = true ↔ ∀ j, waits m ops i j = true → listed.getD j false = true := by
  rw [Array.getElem?_eq_getElem hi]
  simp only [Option.map_some, Option.getD_some, Array.all_eq_true', Bool.or_eq_true, Bool.not_eq_true']
  unfold waits
  rw [Array.getElem?_eq_getElem hi]
  simp only [Array.any_eq_true', Bool.and_eq_true, beq_iff_eq]
  constructor
  · rintro h j ⟨e, he, h1, rfl⟩
    rcases h e he with q | q
    · rw [h1] at q; cases q
    · exact q
  · intro h e he
    cases hb : Region.binds m e with
    | false => exact .inl rfl
    | true => exact .inr (h _ ⟨e, he, hb, rfl⟩)
/-- A rank that every wait lowers. -/
def Ranked (rank : Nat → Nat) : Prop := ∀ i j, i < ops.size → waits m ops i j = true → j < ops.size ∧ rank j < rank i
theorem go_lin {rank : Nat → Nat} (hr : Ranked m ops rank) : ∀ (fuel t : Nat) (listed : Array Bool) (acc : List Nat), listed.size = ops.size →
    (∀ i, i < ops.size → (listed.getD i true = true ↔ i ∈ acc)) → (∀ i ∈ acc, i < ops.size) → acc.Nodup → acc.length + fuel = ops.size →
    (∀ a ∈ acc, ∀ b, waits m ops a b = true → b ∈ acc) →
    acc.reverse.Pairwise (fun a b => waits m ops a b = false) →
    ((Region.linearise.go m ops fuel t listed acc).Perm (List.range ops.size)) ∧ (Region.linearise.go m ops fuel t listed acc).Pairwise (fun a b => waits m ops a b = false) := by
  intro fuel
  induction fuel with
  | zero =>
    intro t listed acc hs hl hb hn hlen hacc hp
    unfold Region.linearise.go
    refine ⟨?_, hp⟩
    refine (List.reverse_perm acc).trans ?_
    refine (List.perm_ext_iff_of_nodup hn List.nodup_range).2 fun a => ?_
    rw [List.mem_range]
    refine ⟨hb a, fun ha => ?_⟩
    -- as many as there are: all
    refine Classical.byContradiction fun hq => ?_
    have := (List.nodup_cons.2 ⟨hq, hn⟩ : (a :: acc).Nodup).length_le_of_subset (l₂ := List.range ops.size) fun x hx => by
      rcases List.mem_cons.1 hx with rfl | hx
      · exact List.mem_range.2 ha
      · exact List.mem_range.2 (hb x hx)
    simp at this
    omega
  | succ fuel ih =>
    intro t listed acc hs hl hb hn hlen hacc hp
    unfold Region.linearise.go
    simp only
    generalize hrs : ((List.range ops.size).filter fun i => !listed.getD i true && ((ops[i]?).map (·.after.all fun e => !Region.binds m e || listed.getD e.on false)).getD false) = rs
    -- one is ready
    have hne : rs ≠ [] := by
      have hex : ∃ i, i < ops.size ∧ i ∉ acc := by
        refine Classical.byContradiction fun hq => ?_
        have := (List.nodup_range (n := ops.size)).length_le_of_subset (l₂ := acc) fun x hx => Classical.byContradiction fun hx2 => hq ⟨x, List.mem_range.1 hx, hx2⟩
        simp at this
        omega
      -- the least in rank
      have key : ∀ r i, i < ops.size → i ∉ acc → rank i = r → ∃ j, j < ops.size ∧ j ∉ acc ∧ ∀ k, waits m ops j k = true → k ∈ acc := by
        intro r
        induction r using Nat.strongRecOn with
        | _ r ihr =>
          intro i h1 h2 h3
          by_cases hk : ∃ k, waits m ops i k = true ∧ k ∉ acc
          · obtain ⟨k, k1, k2⟩ := hk
            obtain ⟨k3, k4⟩ := hr i k h1 k1
            exact ihr _ (h3 ▸ k4) k k3 k2 rfl
          · exact ⟨i, h1, h2, fun k hk1 => Classical.byContradiction fun hk2 => hk ⟨k, hk1, hk2⟩⟩
      obtain ⟨i, i1, i2⟩ := hex
      obtain ⟨j, j1, j2, j3⟩ := key _ i i1 i2 rfl
      have : j ∈ rs := by
        rw [← hrs, List.mem_filter]
        refine ⟨List.mem_range.2 j1, ?_⟩
        rw [Bool.and_eq_true]
        refine ⟨?_, (ready_iff m ops j j1).2 fun k hk => ?_⟩
        · cases hq : listed.getD j true with
          | false => rfl
          | true => exact absurd ((hl j j1).1 hq) j2
        · have hkn := (hr j k j1 hk).1
          have := (hl k hkn).2 (j3 k hk)
          rw [Array.getD_eq_getD_getElem?, Array.getElem?_eq_getElem (by omega)] at this ⊢
          exact this
      intro q; rw [q] at this; cases this
    have hpos : 0 < rs.length := List.length_pos_iff.2 hne
    have hlt : t % rs.length < rs.length := Nat.mod_lt _ hpos
    rw [List.getElem?_eq_getElem hlt]
    simp only
    generalize hi : rs[t % rs.length] = i
    have him : i ∈ rs := by rw [← hi]; exact List.getElem_mem hlt
    rw [← hrs, List.mem_filter, List.mem_range, Bool.and_eq_true] at him
    obtain ⟨i1, i2, i3⟩ := him
    have i4 : i ∉ acc := by
      intro q
      have := (hl i i1).2 q
      rw [this] at i2; cases i2
    have i5 := (ready_iff m ops i i1).1 i3
    refine ih (t / rs.length) (listed.setIfInBounds i true) (i :: acc) (by simp [hs]) (fun k hk => ?_) (fun k hk => ?_) (List.nodup_cons.2 ⟨i4, hn⟩) (by simp; omega) (fun a ha b hb' => ?_) ?_
    · rw [Array.getD_eq_getD_getElem?, Array.getElem?_setIfInBounds, List.mem_cons]
      by_cases hki : i = k
      · subst hki; simp [hs, i1]
      · rw [if_neg hki]
        have := hl k hk
        rw [Array.getD_eq_getD_getElem?] at this
        rw [this]
        exact ⟨.inr, fun q => q.resolve_left fun z => hki z.symm⟩
    · rw [List.mem_cons] at hk
      rcases hk with rfl | hk
      · exact i1
      · exact hb k hk
    · rw [List.mem_cons] at ha ⊢
      rcases ha with rfl | ha
      · have := i5 b hb'
        have hbn := (hr a b i1 hb').1
        refine .inr ((hl b hbn).1 ?_)
        rw [Array.getD_eq_getD_getElem?, Array.getElem?_eq_getElem (by omega)] at this ⊢
        exact this
      · exact .inr (hacc a ha b hb')
    · rw [List.reverse_cons, List.pairwise_append]
      refine ⟨hp, by simp, fun a ha b hb' => ?_⟩
      simp only [List.mem_singleton] at hb'
      subst hb'
      rw [List.mem_reverse] at ha
      -- a was listed ahead of b: a doesn't wait for b
      cases hq : waits m ops a b with
      | false => rfl
      | true => exact absurd (hacc a ha b hq) i4
theorem linearise_lin {rank : Nat → Nat} (hr : Ranked m ops rank) (t : Nat) :
    ((Region.linearise m ops t).Perm (List.range ops.size)) ∧ (Region.linearise m ops t).Pairwise (fun a b => waits m ops a b = false) := by
  unfold Region.linearise
  refine go_lin m ops hr ops.size t _ [] (by simp) (fun i hi => ?_) (by simp) List.nodup_nil (by simp) (by simp) (by simp)
  simp [hi]
end

/-- The look at a region. -/
def kdOf (ks : List Nat) (i : Nat) : Kd := match ks.getD i 3 with | 0 => .s | 1 => .r | 2 => .n | _ => .x
def ordOf (tab : Array Nat) (i j : Nat) : Bool := (tab.getD j 0).testBit i
def optNe (a b : Option Tmp) : Bool := match a, b with | some x, some y => x != y | _, _ => true
def optOut (a : Option Tmp) (l : List Tmp) : Bool := match a with | some x => !l.contains x | none => true
def apartB (ops : Array Oper) (ks : List Nat) (i j : Nat) : Bool :=
  optNe (opAt ops i).dst (opAt ops j).dst && optOut (opAt ops j).dst (looks ops (opAt ops i)) && optOut (opAt ops i).dst (looks ops (opAt ops j)) &&
  !(kdOf ks i == .x && kdOf ks j == .x) && !(kdOf ks i == .n && kdOf ks j == .x)
def oneB (ops : Array Oper) (ks : List Nat) (i : Nat) : Bool :=
  !(kdOf ks i == .r) || ((opAt ops i).dst.isSome && optOut (opAt ops i).dst (looks ops (opAt ops i)))
def stillB (ops : Array Oper) (ks : List Nat) (k m : Nat) : Bool :=
  !(kdOf ks k == .r) || m == k || (optOut (opAt ops m).dst (looks ops (opAt ops k)) && optNe (opAt ops m).dst (opAt ops k).dst)
def fitB (ops : Array Oper) (ks : List Nat) (tab : Array Nat) : Bool :=
  (List.range ops.size).all fun j =>
    oneB ops ks j &&
    (List.range ops.size).all fun i =>
      ((!ordOf tab i j) || (decide (i < j) && ((opAt ops j).after.any fun e => Region.binds .any e && (e.on == i || ordOf tab i e.on)))) &&
      (decide (j ≤ i) || ordOf tab i j || apartB ops ks i j) &&
      (ordOf tab j i || stillB ops ks i j)
def lowB (tab : Array Nat) (n : Nat) : Bool := decide (tab.size ≤ n) && (List.range n).all fun j => decide (tab.getD j 0 < 2 ^ j)
def rankB (m : Region.Mode) (ops : Array Oper) (rank : List Nat) : Bool :=
  (List.range ops.size).all fun i => (opAt ops i).after.all fun e => !Region.binds m e || (decide (e.on < ops.size) && decide (rank.getD e.on 0 < rank.getD i 0))
def drawB (mixed : Bool) (ops : Array Oper) (ks : List Nat) (gc : List Nat) : Bool :=
  fitB ops ks (Region.before ops) && lowB (Region.before ops) ops.size && rankB .text ops (List.range ops.size) && (rankB .gc ops gc)
theorem opAt_get {ops : Array Oper} {i : Nat} (hi : i < ops.size) : ops[i]? = some (opAt ops i) := by
  unfold opAt
  rw [Array.getD_eq_getD_getElem?, Array.getElem?_eq_getElem hi]
  rfl
theorem optOut_spec {a : Option Tmp} {l : List Tmp} (h : optOut a l = true) : ∀ t, a = some t → t ∉ l := by
  rintro t rfl; simpa [optOut] using h
theorem optNe_spec {a b : Option Tmp} (h : optNe a b = true) : ∀ t, a = some t → b ≠ some t := by
  rintro t rfl rfl; simp [optNe] at h
theorem fit_of {ops : Array Oper} {ks : List Nat} {tab : Array Nat} (h : fitB ops ks tab = true) (hl : lowB tab ops.size = true) : Fit ops (kdOf ks) (ordOf tab) ops.size := by
  unfold fitB at h
  rw [List.all_eq_true] at h
  have H : ∀ i j, i < ops.size → j < ops.size → oneB ops ks j = true ∧
      ((!ordOf tab i j) || (decide (i < j) && ((opAt ops j).after.any fun e => Region.binds .any e && (e.on == i || ordOf tab i e.on)))) = true ∧
      (decide (j ≤ i) || ordOf tab i j || apartB ops ks i j) = true ∧ (ordOf tab j i || stillB ops ks i j) = true := by
    intro i j hi hj
    have h1 := h j (List.mem_range.2 hj)
    rw [Bool.and_eq_true, List.all_eq_true] at h1
    have h2 := h1.2 i (List.mem_range.2 hi)
    rw [Bool.and_eq_true, Bool.and_eq_true] at h2
    exact ⟨h1.1, h2.1.1, h2.1.2, h2.2⟩
  have low : ∀ i j, ordOf tab i j = true → i < j := by
    intro i j hij
    unfold lowB at hl
    rw [Bool.and_eq_true, List.all_eq_true] at hl
    unfold ordOf at hij
    rcases Nat.lt_or_ge j ops.size with hj | hj
    · have := hl.2 j (List.mem_range.2 hj)
      simp only [decide_eq_true_eq] at this
      refine Classical.byContradiction fun hn => ?_
      have h2 : tab.getD j 0 < 2 ^ i := Nat.lt_of_lt_of_le this (Nat.pow_le_pow_right (by omega) (by omega))
      rw [Nat.testBit_lt_two_pow h2] at hij
      cases hij
    · have h3 := hl.1
      simp only [decide_eq_true_eq] at h3
      rw [Array.getD_eq_getD_getElem?, Array.getElem?_eq_none (by omega)] at hij
      simp at hij
  refine ⟨low, ?_, ?_⟩
  · intro i j hij hj ho
    obtain ⟨h1, h2, h3, h4⟩ := H i j (by omega) hj
    obtain ⟨g1, _⟩ := H i i (by omega) (by omega)
    have h3' : apartB ops ks i j = true := by
      simp only [ho, Bool.or_false, Bool.or_eq_true, decide_eq_true_eq] at h3
      rcases h3 with q | q
      · omega
      · exact q
    unfold apartB at h3'
    simp only [Bool.and_eq_true, Bool.not_eq_true', Bool.and_eq_false_iff] at h3'
    obtain ⟨⟨⟨⟨a1, a2⟩, a3⟩, a4⟩, a5⟩ := h3'
    have one : ∀ k, oneB ops ks k = true → kdOf ks k = .r → (opAt ops k).dst.isSome = true ∧ optOut (opAt ops k).dst (looks ops (opAt ops k)) = true := by
      intro k hk hkr
      unfold oneB at hk
      rw [hkr] at hk
      simpa using hk
    refine ⟨ho, ?_, by omega, optNe_spec a1, optOut_spec a2, optOut_spec a3, ⟨?_, ?_⟩, fun q => (one i g1 q).1, fun q => (one j h1 q).1, fun q t ht => usesOf_looks (optOut_spec (one i g1 q).2 t ht), fun q t ht => usesOf_looks (optOut_spec (one j h1 q).2 t ht)⟩
    · cases hq : ordOf tab j i with
      | false => rfl
      | true => have := low _ _ hq; omega
    · rintro ⟨q1, q2⟩; rw [q1, q2] at a4; rcases a4 with z | z <;> exact absurd z (by decide)
    · rintro ⟨q1, q2⟩; rw [q1, q2] at a5; rcases a5 with z | z <;> exact absurd z (by decide)
  · intro k m hk hm hkr hmk ho t ht
    obtain ⟨_, _, _, h4⟩ := H k m hk hm
    rw [ho] at h4
    simp only [Bool.false_or] at h4
    unfold stillB at h4
    rw [hkr] at h4
    have hmk' : (m == k) = false := by simpa using hmk
    rw [hmk'] at h4
    simp only [beq_self_eq_true, Bool.not_true, Bool.or_false, Bool.false_or, Bool.and_eq_true] at h4
    exact ⟨usesOf_looks (optOut_spec h4.1 t ht), fun q => optNe_spec h4.2 t ht q⟩
theorem ranked_of {m : Region.Mode} {ops : Array Oper} {rank : List Nat} (h : rankB m ops rank = true) : Ranked m ops (fun i => rank.getD i 0) := by
  intro i j hi hw
  unfold rankB at h
  rw [List.all_eq_true] at h
  have h1 := h i (List.mem_range.2 hi)
  rw [Array.all_eq_true'] at h1
  unfold waits at hw
  rw [opAt_get hi] at hw
  simp only [Array.any_eq_true', Bool.and_eq_true, beq_iff_eq] at hw
  obtain ⟨e, he, hb, rfl⟩ := hw
  have h2 := h1 e he
  rw [hb] at h2
  simpa using h2
theorem binds_any {m : Region.Mode} {e : Edge} (h : Region.binds .any e = true) : Region.binds m e = true := by
  unfold Region.binds at *
  split at h <;> simp_all
/-- The closure of what is waited for. -/
theorem lin_ord {m : Region.Mode} {ops : Array Oper} {tab : Array Nat} {ks : List Nat} (h : fitB ops ks tab = true) (hl : lowB tab ops.size = true) (hr : rankB .text ops (List.range ops.size) = true)
    {l : List Nat} (hp : l.Perm (List.range ops.size)) (hw : l.Pairwise fun a b => waits m ops a b = false) : Lin (ordOf tab) l := by
  have F := fit_of h hl
  unfold fitB at h
  rw [List.all_eq_true] at h
  have hmem : ∀ i, i ∈ l ↔ i < ops.size := fun i => by rw [hp.mem_iff, List.mem_range]
  have hon : ∀ j, j < ops.size → ∀ e ∈ (opAt ops j).after, Region.binds .any e = true → e.on < j := by
    intro j hj e he hb
    have := ranked_of hr j e.on hj (by
      unfold waits
      rw [opAt_get hj]
      simp only [Array.any_eq_true', Bool.and_eq_true, beq_iff_eq]
      exact ⟨e, he, binds_any hb, rfl⟩)
    simp only [List.getD_eq_getElem?_getD] at this
    rw [List.getElem?_range this.1, List.getElem?_range hj] at this
    exact this.2
  have step : ∀ i j, j < ops.size → ordOf tab i j = true → ∃ k, k < j ∧ waits m ops j k = true ∧ (k = i ∨ ordOf tab i k = true) := by
    intro i j hj ho
    have hi : i < ops.size := by have := F.low _ _ ho; omega
    have h1 := h j (List.mem_range.2 hj)
    rw [Bool.and_eq_true, List.all_eq_true] at h1
    have h2 := h1.2 i (List.mem_range.2 hi)
    rw [Bool.and_eq_true, Bool.and_eq_true, ho] at h2
    have h3 := h2.1.1
    simp only [Bool.not_true, Bool.false_or, Bool.and_eq_true, Array.any_eq_true', Bool.or_eq_true, beq_iff_eq] at h3
    obtain ⟨_, e, he, hb, hk⟩ := h3
    refine ⟨e.on, hon j hj e he hb, ?_, hk⟩
    unfold waits
    rw [opAt_get hj]
    simp only [Array.any_eq_true', Bool.and_eq_true, beq_iff_eq]
    exact ⟨e, he, binds_any hb, rfl⟩
  rw [List.pairwise_iff_getElem] at hw
  unfold Lin
  rw [List.pairwise_iff_getElem]
  have key : ∀ p q (hp : p < l.length) (hq : q < l.length), p < q → ordOf tab l[q] l[p] = false := by
    intro p
    induction p using Nat.strongRecOn with
    | _ p ih =>
      intro q hp1 hq hpq
      cases ho : ordOf tab l[q] l[p] with
      | false => rfl
      | true =>
        exfalso
        have hlp : l[p] < ops.size := (hmem _).1 (List.getElem_mem hp1)
        obtain ⟨k, k1, k2, k3⟩ := step _ _ hlp ho
        rcases k3 with rfl | k3
        · rw [hw p q hp1 hq hpq] at k2; cases k2
        · obtain ⟨r, hr1, rfl⟩ := List.getElem_of_mem ((hmem k).2 (by omega))
          have hrp : r < p := by
            rcases Nat.lt_trichotomy r p with z | z | z
            · exact z
            · subst z; omega
            · rw [hw p r hp1 hr1 z] at k2; cases k2
          rw [ih r hrp q hr1 hq (by omega)] at k3
          cases k3
  exact fun p q hp hq hpq => key p q hp hq hpq
theorem schedule_lin {mixed : Bool} {ops : Array Oper} {ks gc : List Nat} (h : drawB mixed ops ks gc = true) (t : Nat) :
    (Region.schedule mixed ops t).Perm (List.range ops.size) ∧ Lin (ordOf (Region.before ops)) (Region.schedule mixed ops t) := by
  unfold drawB at h
  simp only [Bool.and_eq_true] at h
  obtain ⟨⟨⟨h1, h2⟩, h3⟩, h4⟩ := h
  have any : rankB .any ops (List.range ops.size) = true := by
    unfold rankB at h3 ⊢
    rw [List.all_eq_true] at h3 ⊢
    intro i hi
    have := h3 i hi
    rw [Array.all_eq_true'] at this ⊢
    intro e he
    have h5 := this e he
    cases hb : Region.binds .any e with
    | false => rfl
    | true => rw [binds_any hb] at h5; exact h5
  have go : ∀ m t, rankB m ops (List.range ops.size) = true ∨ rankB m ops gc = true → (Region.linearise m ops t).Perm (List.range ops.size) ∧ Lin (ordOf (Region.before ops)) (Region.linearise m ops t) := by
    intro m t hm
    have : ((Region.linearise m ops t).Perm (List.range ops.size)) ∧ (Region.linearise m ops t).Pairwise (fun a b => waits m ops a b = false) := by
      rcases hm with hm | hm
      · exact linearise_lin m ops (ranked_of hm) t
      · exact linearise_lin m ops (ranked_of hm) t
    exact ⟨this.1, lin_ord h1 h2 h3 this.1 this.2⟩
  unfold Region.schedule
  split
  · exact go _ _ (.inl any)
  · split
    · exact go _ _ (.inl h3)
    · exact go _ _ (.inr h4)

/-! ### the region's own order, with notes -/
/-- A note of an operation: its kind; of a load: the calls that it waits for; of a call: the loads ahead that it doesn't wait for. -/
abbrev Note := Nat × List Nat
def relA (anc : List Nat) : List (Nat × Hp) → List Hp
  | [] => []
  | (j, h) :: t => if anc.contains j then [h] else h :: relA anc t
def qv (P : Program) (G : Hp) (ops : Array Oper) (Q : Post) : List Oper → List Note → Nat → Env → Hp → List (Nat × Hp) → Prop
  | [], _, _, e, H, _ => Q .normal e H
  | o :: l, [], i, e, H, hs => False
  | o :: l, (kd, ns) :: an, i, e, H, hs =>
    if wantE ops e o then
      match kd with
      | 0 => ∃ v, rd P Hp.emp (execOp e.ev o) = some (.value v) ∧ qv P G ops Q l an (i + 1) (e.put o.dst v) H hs
      | 1 => ∃ v, (∀ h ∈ relA ns hs, rd P (h.un G) (execOp e.ev o) = some (.value v)) ∧ qv P G ops Q l an (i + 1) (e.put o.dst v) H hs
      | 2 => ∃ ob f, nw P (execOp e.ev o) = some (ob, f) ∧ ∀ b, H b = none → G b = none → ∃ v, f b = some (.value v) ∧ qv P G ops Q l an (i + 1) (e.put o.dst v) (H.set b ob) hs
      | _ => opV P G (execOp e.ev o) H fun v H' =>
          (∀ k ∈ ns, wantE ops e (opAt ops k) = true → rd P (H'.un G) (execOp e.ev (opAt ops k)) = some (.value (match (opAt ops k).dst with | some d => e d | none => undef))) ∧
          qv P G ops Q l an (i + 1) (e.put o.dst v) H' ((i, H') :: hs)
    else qv P G ops Q l an (i + 1) (e.put o.dst undef) H hs
def noteB (ops : Array Oper) (ks : List Nat) (tab : Array Nat) (an : List Note) : Bool :=
  decide (an.length = ops.size) && (List.range ops.size).all fun i =>
    match an[i]? with
    | none => false
    | some (k, ns) =>
      (match kdOf ks i with
        | .s => k == 0
        | .r => k == 1 && !ns.contains ops.size && (List.range ops.size).all fun j => !(kdOf ks j == .x) || (ns.contains j == ordOf tab j i)
        | .n => k == 2
        | .x => decide (3 ≤ k) && (List.range i).all fun j => !(kdOf ks j == .r) || ordOf tab j i || ns.contains j)
def kinds (an : List Note) : List Nat := an.map (·.1)
theorem relA_eq {ops : Array Oper} {ks : List Nat} {tab : Array Nat} {ns : List Nat} {i : Nat} (hn : ∀ j, j < ops.size → kdOf ks j = .x → ns.contains j = ordOf tab j i) (hlast : ns.contains ops.size = ordOf tab ops.size i ∨ True) :
    ∀ (hs : List (Nat × Hp)), (∀ p ∈ hs, (p.1 < ops.size ∧ kdOf ks p.1 = .x) ∨ ns.contains p.1 = ordOf tab p.1 i) → relA ns hs = relv (ordOf tab) i hs
  | [], _ => rfl
  | (j, h) :: t, hp => by
    have h1 : ns.contains j = ordOf tab j i := by
      rcases hp (j, h) (by simp) with q | q
      · exact hn j q.1 q.2
      · exact q
    unfold relA relv
    rw [h1, relA_eq hn hlast t fun p hq => hp p (by simp [hq])]
theorem pq_of_qv {P : Program} {G : Hp} {ops : Array Oper} {Q : Post} {ks : List Nat} {an : List Note} (F : fitB ops ks (Region.before ops) = true) (L : lowB (Region.before ops) ops.size = true)
    (N : noteB ops ks (Region.before ops) an = true) : ∀ (m i : Nat), i + m = ops.size → ∀ {e : Env} {H : Hp} {hs : List (Nat × Hp)} {rs : Nat → Bool},
    (∀ p ∈ hs, (p.1 < ops.size ∧ kdOf ks p.1 = .x) ∨ p.1 = ops.size) →
    (∀ k, rs k = true → k < i ∧ kdOf ks k = .r ∧ wantE ops e (opAt ops k) = true) →
    qv P G ops Q (ops.toList.drop i) (an.drop i) i e H hs → pq P G ops Q (kdOf ks) (ordOf (Region.before ops)) (List.range' i m) e H hs rs := by
  have FF := fit_of F L
  unfold noteB at N
  rw [Bool.and_eq_true, List.all_eq_true] at N
  obtain ⟨N1, N2⟩ := N
  simp only [decide_eq_true_eq] at N1
  have hself : ∀ k, k < ops.size → kdOf ks k = .r → ∀ t, (opAt ops k).dst = some t → t ∉ looks ops (opAt ops k) := by
    intro k hk hkr
    have F' := F
    unfold fitB at F'
    rw [List.all_eq_true] at F'
    have f1 := F' k (List.mem_range.2 hk)
    rw [Bool.and_eq_true] at f1
    have f2 := f1.1
    unfold oneB at f2
    rw [hkr] at f2
    simp only [beq_self_eq_true, Bool.not_true, Bool.false_or, Bool.and_eq_true] at f2
    exact optOut_spec f2.2
  intro m
  induction m with
  | zero =>
    intro i hi e H hs rs _ _ h
    rw [List.drop_eq_nil_of_le (by simp; omega)] at h
    simp only [List.range'_zero]
    unfold qv at h
    exact h
  | succ m ih =>
    intro i hi e H hs rs hhs hrs h
    have hin : i < ops.size := by omega
    have n1 := N2 i (List.mem_range.2 hin)
    rw [List.getElem?_eq_getElem (by omega)] at n1
    generalize han : an[i]'(by omega) = note at n1
    obtain ⟨k, ns⟩ := note
    have d1 : ops.toList.drop i = opAt ops i :: ops.toList.drop (i + 1) := by
      rw [List.drop_eq_getElem_cons (by simpa using hin)]
      congr 1
      unfold opAt
      rw [Array.getD_eq_getD_getElem?, Array.getElem?_eq_getElem hin]
      simp
    have d2 : an.drop i = (k, ns) :: an.drop (i + 1) := by
      rw [List.drop_eq_getElem_cons (by omega), han]
    rw [d1, d2] at h
    unfold qv at h
    rw [List.range'_succ]
    unfold pq
    -- what was loaded stays
    have keep : ∀ v k, rs k = true → k < i + 1 ∧ kdOf ks k = .r ∧ wantE ops (e.put (opAt ops i).dst v) (opAt ops k) = true := by
      intro v k hk
      obtain ⟨a, b, c⟩ := hrs k hk
      refine ⟨by omega, b, ?_⟩
      rw [want_put]
      · exact c
      · intro t ht
        have ho : ordOf (Region.before ops) i k = false := by
          cases hq : ordOf (Region.before ops) i k with
          | false => rfl
          | true => have := FF.low _ _ hq; omega
        have F' := F
        unfold fitB at F'
        rw [List.all_eq_true] at F'
        have f1 := F' i (List.mem_range.2 hin)
        rw [Bool.and_eq_true, List.all_eq_true] at f1
        have f2 := f1.2 k (List.mem_range.2 (by omega))
        rw [Bool.and_eq_true, ho] at f2
        have f3 := f2.2
        simp only [Bool.false_or] at f3
        unfold stillB at f3
        rw [b] at f3
        have hik : (i == k) = false := by simp; omega
        rw [hik] at f3
        simp only [beq_self_eq_true, Bool.not_true, Bool.or_false, Bool.false_or, Bool.and_eq_true] at f3
        exact optOut_spec f3.1 t ht
    split
    · rename_i hw
      rw [if_pos hw] at h
      cases hk : kdOf ks i with
      | s =>
        rw [hk] at n1
        simp only [beq_iff_eq] at n1
        subst n1
        simp only at h ⊢
        obtain ⟨v, h1, h2⟩ := h
        exact ⟨v, h1, ih (i + 1) (by omega) hhs (keep v) h2⟩
      | r =>
        rw [hk] at n1
        simp only [Bool.and_eq_true, beq_iff_eq, List.all_eq_true, Bool.not_eq_true'] at n1
        obtain ⟨⟨rfl, n0⟩, n2⟩ := n1
        simp only at h ⊢
        obtain ⟨v, h1, h2⟩ := h
        have hrel : relA ns hs = relv (ordOf (Region.before ops)) i hs := by
          refine relA_eq (ops := ops) (ks := ks) (fun j hj hx => ?_) (.inr trivial) hs fun p hp => ?_
          · have := n2 j (List.mem_range.2 hj)
            rw [hx] at this
            simpa using this
          · rcases hhs p hp with q | q
            · exact .inl q
            · refine .inr ?_
              have z : ordOf (Region.before ops) p.1 i = false := by
                cases hq : ordOf (Region.before ops) p.1 i with
                | false => rfl
                | true => have := FF.low _ _ hq; omega
              rw [z, q]
              exact n0
        refine ⟨v, fun q hq => h1 q (by rw [hrel]; exact hq), ih (i + 1) (by omega) hhs (fun k hk' => ?_) h2⟩
        simp only [Bool.or_eq_true, beq_iff_eq] at hk'
        rcases hk' with rfl | hk'
        · refine ⟨by omega, hk, ?_⟩
          rw [want_put]
          · exact hw
          · exact hself k hin hk
        · exact keep v k hk'
      | n =>
        rw [hk] at n1
        simp only [beq_iff_eq] at n1
        subst n1
        simp only at h ⊢
        obtain ⟨ob, f, h1, h2⟩ := h
        refine ⟨ob, f, h1, fun b q1 q2 => ?_⟩
        obtain ⟨v, h3, h4⟩ := h2 b q1 q2
        exact ⟨v, h3, ih (i + 1) (by omega) hhs (keep v) h4⟩
      | x =>
        rw [hk] at n1
        simp only [Bool.and_eq_true, decide_eq_true_eq, List.all_eq_true] at n1
        obtain ⟨n3, n2⟩ := n1
        have h : opV P G (execOp e.ev (opAt ops i)) H fun v H' =>
          (∀ k ∈ ns, wantE ops e (opAt ops k) = true → rd P (H'.un G) (execOp e.ev (opAt ops k)) = some (.value (match (opAt ops k).dst with | some d => e d | none => undef))) ∧
          qv P G ops Q (ops.toList.drop (i + 1)) (an.drop (i + 1)) (i + 1) (e.put (opAt ops i).dst v) H' ((i, H') :: hs) := by
          match k, n3, h with
          | k + 3, _, h => exact h
        simp only
        refine opV_mono h fun v H' ⟨h1, h2⟩ => ⟨fun j hj ho => ?_, ih (i + 1) (by omega) (fun p hp => ?_) (keep v) h2⟩
        · obtain ⟨a, b, c⟩ := hrs j hj
          have := n2 j (List.mem_range.2 a)
          rw [b, ho] at this
          exact h1 j (by simpa using this) c
        · rw [List.mem_cons] at hp
          rcases hp with rfl | hp
          · exact .inl ⟨hin, hk⟩
          · exact hhs p hp
    · rename_i hw
      rw [if_neg hw] at h
      exact ih (i + 1) (by omega) hhs (keep undef) h
/-- THE THEOREM: a region that draws its order, by its own order and its notes. -/
theorem denDraw_of {P : Program} {G : Hp} {ops : Array Oper} {Q : Post} {e : Env} {H : Hp} (an : List Note) (gc : List Nat) (h : drawB (P.follows .mixedOrders) ops (kinds an) gc = true)
    (N : noteB ops (kinds an) (Region.before ops) an = true) (r : Real G H) (k : qv P G ops Q ops.toList an 0 e H [(ops.size, H)]) : denDraw P G ops Q e H := by
  intro t
  have h' := h
  unfold drawB at h'
  simp only [Bool.and_eq_true] at h'
  obtain ⟨⟨⟨h1, h2⟩, h3⟩, h4⟩ := h'
  obtain ⟨s1, s2⟩ := schedule_lin h t
  have k1 : pq P G ops Q (kdOf (kinds an)) (ordOf (Region.before ops)) (List.range' 0 ops.size) e H [(ops.size, H)] (fun _ => false) :=
    pq_of_qv h1 h2 N ops.size 0 (by omega) (by intro p hp; rw [List.mem_singleton] at hp; exact .inr (by rw [hp])) (by intro k hk; cases hk) (by rw [List.drop_zero, List.drop_zero]; exact k)
  rw [← List.range_eq_range'] at k1
  have k2 := pq_sort (fit_of h1 h2) _ r (hs := [(ops.size, H)]) (rs := fun _ => false) (by simp) s1.symm List.pairwise_lt_range (by simp) s2 (by intro k hk; cases hk) k1
  exact denIdx_of_pq (fun i hi => by simpa using s1.mem_iff.1 hi) ⟨_, _, _, rfl, fun _ _ h => h⟩ k2
end Go.Sl
