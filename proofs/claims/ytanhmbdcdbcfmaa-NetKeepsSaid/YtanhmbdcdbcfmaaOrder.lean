/- Regions that draw their order: the theorem. -/
import Derived.Test.YtanhmbdcdbcfmaaDraw
set_option linter.unusedVariables false
set_option linter.unusedSimpArgs false
namespace Go.Sl
open Go

inductive Kd where | s | r | n | x
  deriving DecidableEq

def usesOf (o : Oper) : List Tmp := o.op.operands.toList.filterMap fun | .tmp t => some t | _ => none
/-- What an operation looks at: its operands; its guard's slot. -/
def looks (ops : Array Oper) (o : Oper) : List Tmp :=
  usesOf o ++ (match o.guard with | some (j, _) => ((ops[j]?).bind (·.dst)).toList | none => [])
theorem callee_args {c : Call} {t : Tmp} {x : Operand} (hx : x ∈ c.args.toList) (h : x = .tmp t) : Operand.tmp t ∈ c.operands.toList := by
  subst h; unfold Call.operands; cases c.callee <;> simp_all
/-- An operation hangs on its operands alone. -/
theorem execOp_congr (o : Oper) (ρ ρ' : Operand → Value) (hc : ∀ x, (∀ t, x ≠ .tmp t) → ρ x = ρ' x) (h : ∀ t ∈ usesOf o, ρ (.tmp t) = ρ' (.tmp t)) : execOp ρ o = execOp ρ' o := by
  have H : ∀ x ∈ o.op.operands.toList, ρ x = ρ' x := by
    intro x hx
    cases x with
    | tmp t => exact h t (by unfold usesOf; exact List.mem_filterMap.2 ⟨_, hx, rfl⟩)
    | _ => exact hc _ (by simp)
  have HA : ∀ (xs : Array Operand), (∀ x ∈ xs.toList, x ∈ o.op.operands.toList) → xs.map ρ = xs.map ρ' := by
    intro xs hx
    refine Array.map_congr_left fun a ha => H a (hx a (by simpa using ha))
  have HO : ∀ (xs : Option Operand), (∀ x, xs = some x → x ∈ o.op.operands.toList) → xs.map ρ = xs.map ρ' := by
    intro xs hx
    cases xs with
    | none => rfl
    | some x => simp [H x (hx x rfl)]
  have HP : ∀ (ps : Array (Nat × Operand)), (∀ p ∈ ps.toList, p.2 ∈ o.op.operands.toList) → (ps.map fun (i, x) => (i, ρ x)) = ps.map fun (i, x) => (i, ρ' x) := by
    intro ps hp
    refine Array.map_congr_left fun p hq => ?_
    have h1 := H _ (hp p (by simpa using hq))
    obtain ⟨i, x⟩ := p
    exact congrArg (fun v => (i, v)) h1
  have HC : ∀ (c : Call), (∀ x ∈ c.operands.toList, x ∈ o.op.operands.toList) → resolve ρ c o.type = resolve ρ' c o.type := by
    intro c hcx
    have e1 : c.args.map ρ = c.args.map ρ' := HA _ fun x hx => hcx x (by unfold Call.operands; cases c.callee <;> simp_all)
    unfold resolve
    rw [e1]
    cases hcal : c.callee with
    | builtin b => rfl
    | invoke recv name => simp only; rw [H recv (hcx _ (by unfold Call.operands; rw [hcal]; simp))]
    | value f => simp only; rw [H f (hcx _ (by unfold Call.operands; rw [hcal]; simp))]
  obtain ⟨dst, op, type, pos, after, guard⟩ := o
  cases op with
  | select cs b =>
    simp only [execOp]
    have : (fun s : SelectCase => (do pure { chan := ρ s.chan, send := s.send.map ρ, zero := ← zeroValue s.elem : CommCase } : Sem CommCase)) = fun s => (do pure { chan := ρ s.chan, send := s.send.map ρ, zero := ← zeroValue s.elem : CommCase } : Sem CommCase) := rfl
    have e : ∀ s ∈ cs.toList, (do pure { chan := ρ s.chan, send := s.send.map ρ, zero := ← zeroValue s.elem : CommCase } : Sem CommCase) = (do pure { chan := ρ' s.chan, send := s.send.map ρ', zero := ← zeroValue s.elem : CommCase } : Sem CommCase) := by
      intro s hs
      have h1 : ρ s.chan = ρ' s.chan := H _ (by simp only [Op.operands]; rw [Array.toList_flatMap]; exact List.mem_flatMap.2 ⟨s, hs, by simp⟩)
      have h2 : s.send.map ρ = s.send.map ρ' := HO _ fun x hx => by
        simp only [Op.operands]; rw [Array.toList_flatMap]; exact List.mem_flatMap.2 ⟨s, hs, by simp [hx]⟩
      rw [h1, h2]
    congr 1
    rw [Array.mapM_eq_mapM_toList, Array.mapM_eq_mapM_toList]
    congr 1
    clear this
    generalize cs.toList = l at e
    induction l with
    | nil => rfl
    | cons a l ih => rw [List.mapM_cons, List.mapM_cons, e a (by simp), ih fun s hs => e s (by simp [hs])]
  | call c => simp only [execOp]; rw [HC c (fun x hx => hx)]
  | go c => simp only [execOp]; rw [HC c (fun x hx => hx)]
  | «defer» c => simp only [execOp]; rw [HC c (fun x hx => hx)]
  | build t ps => simp only [execOp]; rw [HP ps (fun p hp => by simp only [Op.operands, Array.toList_map]; simp; exact ⟨p.1, by simpa using hp⟩)]
  | buildSlice t n ps => simp only [execOp]; rw [HP ps (fun p hp => by simp only [Op.operands, Array.toList_map]; simp; exact ⟨p.1, by simpa using hp⟩)]
  | makeFunc f a b => simp only [execOp]; rw [HA a (fun x hx => by simp only [Op.operands]; simp_all), HA b (fun x hx => by simp only [Op.operands]; simp_all)]
  | makeMap t r => simp only [execOp]; rw [HO r (fun x hx => by simp only [Op.operands, hx]; simp)]
  | slice t x l hi m => simp only [execOp]; rw [H x (by simp [Op.operands]), HO l (fun x hx => by simp only [Op.operands, hx]; simp), HO hi (fun x hx => by simp only [Op.operands, hx]; simp), HO m (fun x hx => by simp only [Op.operands, hx]; simp)]
  | ready g => rfl
  | waits g => rfl
  | alloc t => rfl
  | binOp op t x y ty =>
    have h1 : ρ x = ρ' x := H _ (by simp [Op.operands])
    have h2 : ρ y = ρ' y := H _ (by simp [Op.operands])
    simp only [execOp, h1, h2]
  | pick a b c =>
    have h1 : ρ a = ρ' a := H _ (by simp [Op.operands])
    have h2 : ρ b = ρ' b := H _ (by simp [Op.operands])
    have h3 : ρ c = ρ' c := H _ (by simp [Op.operands])
    simp only [execOp, h1, h2, h3]
  | store t a b =>
    have h1 : ρ a = ρ' a := H _ (by simp [Op.operands])
    have h2 : ρ b = ρ' b := H _ (by simp [Op.operands])
    simp only [execOp, h1, h2]
  | makeSlice t a b =>
    have h1 : ρ a = ρ' a := H _ (by simp [Op.operands])
    have h2 : ρ b = ρ' b := H _ (by simp [Op.operands])
    simp only [execOp, h1, h2]
  | indexAddr t a b =>
    have h1 : ρ a = ρ' a := H _ (by simp [Op.operands])
    have h2 : ρ b = ρ' b := H _ (by simp [Op.operands])
    simp only [execOp, h1, h2]
  | index t a b =>
    have h1 : ρ a = ρ' a := H _ (by simp [Op.operands])
    have h2 : ρ b = ρ' b := H _ (by simp [Op.operands])
    simp only [execOp, h1, h2]
  | lookup t a b c =>
    have h1 : ρ a = ρ' a := H _ (by simp [Op.operands])
    have h2 : ρ b = ρ' b := H _ (by simp [Op.operands])
    simp only [execOp, h1, h2]
  | mapEntry t a b =>
    have h1 : ρ a = ρ' a := H _ (by simp [Op.operands])
    have h2 : ρ b = ρ' b := H _ (by simp [Op.operands])
    simp only [execOp, h1, h2]
  | send a b =>
    have h1 : ρ a = ρ' a := H _ (by simp [Op.operands])
    have h2 : ρ b = ρ' b := H _ (by simp [Op.operands])
    simp only [execOp, h1, h2]
  | mapUpdate t a b c =>
    have h1 : ρ a = ρ' a := H _ (by simp [Op.operands])
    have h2 : ρ b = ρ' b := H _ (by simp [Op.operands])
    have h3 : ρ c = ρ' c := H _ (by simp [Op.operands])
    simp only [execOp, h1, h2, h3]
  | insert t a b c =>
    have h1 : ρ a = ρ' a := H _ (by simp [Op.operands])
    have h2 : ρ b = ρ' b := H _ (by simp [Op.operands])
    have h3 : ρ c = ρ' c := H _ (by simp [Op.operands])
    simp only [execOp, h1, h2, h3]
  | entryStore t a b c =>
    have h1 : ρ a = ρ' a := H _ (by simp [Op.operands])
    have h2 : ρ b = ρ' b := H _ (by simp [Op.operands])
    have h3 : ρ c = ρ' c := H _ (by simp [Op.operands])
    simp only [execOp, h1, h2, h3]
  | move x => have h1 : ρ x = ρ' x := H _ (by simp [Op.operands])
              simp only [execOp, h1]
  | assign x => have h1 : ρ x = ρ' x := H _ (by simp [Op.operands])
                simp only [execOp, h1]
  | box t x => have h1 : ρ x = ρ' x := H _ (by simp [Op.operands])
               simp only [execOp, h1]
  | load t x => have h1 : ρ x = ρ' x := H _ (by simp [Op.operands])
                simp only [execOp, h1]
  | nilCheck x => have h1 : ρ x = ρ' x := H _ (by simp [Op.operands])
                  simp only [execOp, h1]
  | unOp u t x => have h1 : ρ x = ρ' x := H _ (by simp [Op.operands])
                  simp only [execOp, h1]
  | convert s d x => have h1 : ρ x = ρ' x := H _ (by simp [Op.operands])
                     simp only [execOp, h1]
  | sliceToArrayPointer d x => have h1 : ρ x = ρ' x := H _ (by simp [Op.operands])
                               simp only [execOp, h1]
  | makeInterface t x => have h1 : ρ x = ρ' x := H _ (by simp [Op.operands])
                         simp only [execOp, h1]
  | makeChan t x => have h1 : ρ x = ρ' x := H _ (by simp [Op.operands])
                    simp only [execOp, h1]
  | fieldAddr t x f => have h1 : ρ x = ρ' x := H _ (by simp [Op.operands])
                       simp only [execOp, h1]
  | field t x f => have h1 : ρ x = ρ' x := H _ (by simp [Op.operands])
                   simp only [execOp, h1]
  | range t x => have h1 : ρ x = ρ' x := H _ (by simp [Op.operands])
                 simp only [execOp, h1]
  | next x b => have h1 : ρ x = ρ' x := H _ (by simp [Op.operands])
                simp only [execOp, h1]
  | entry x => have h1 : ρ x = ρ' x := H _ (by simp [Op.operands])
               simp only [execOp, h1]
  | typeAssert x a b c => have h1 : ρ x = ρ' x := H _ (by simp [Op.operands])
                          simp only [execOp, h1]
  | extract x i => have h1 : ρ x = ρ' x := H _ (by simp [Op.operands])
                   simp only [execOp, h1]
  | panic x => have h1 : ρ x = ρ' x := H _ (by simp [Op.operands])
               simp only [execOp, h1]
  | recv t x b => have h1 : ρ x = ρ' x := H _ (by simp [Op.operands])
                  simp only [execOp, h1]
/-- What is put into another slot is not seen. -/
theorem exec_put (o : Oper) (e : Env) {d : Option Tmp} (v : Value) (h : ∀ t, d = some t → t ∉ usesOf o) : execOp (e.put d v).ev o = execOp e.ev o := by
  refine execOp_congr o _ _ ?_ ?_
  · intro x hx; cases x <;> first | rfl | exact absurd rfl (hx _)
  · intro t ht
    cases d with
    | none => rfl
    | some d =>
      show (if t = d then v else e t) = e t
      rw [if_neg (fun q : t = d => h d rfl (q ▸ ht))]
theorem want_put (ops : Array Oper) (o : Oper) (e : Env) {d : Option Tmp} (v : Value) (h : ∀ t, d = some t → t ∉ looks ops o) : wantE ops (e.put d v) o = wantE ops e o := by
  unfold wantE Region.wanted
  cases hg : o.guard with
  | none => rfl
  | some q =>
    obtain ⟨j, want⟩ := q
    simp only
    have : yieldE ops (e.put d v) j = yieldE ops e j := by
      unfold yieldE
      cases hj : (ops[j]?).bind (·.dst) with
      | none => rfl
      | some t =>
        have : (e.put d v) t = e t := by
          cases d with
          | none => rfl
          | some d =>
            show (if t = d then v else e t) = e t
            rw [if_neg]
            rintro rfl
            refine h t rfl ?_
            unfold looks
            rw [hg]
            simp [hj]
        simp only [this]
    rw [this]
theorem put_comm (e : Env) {d d' : Option Tmp} (v v' : Value) (h : ∀ t, d = some t → d' ≠ some t) : (e.put d v).put d' v' = (e.put d' v').put d v := by
  cases d with
  | none => rfl
  | some d =>
    cases d' with
    | none => rfl
    | some d' =>
      have hne : d ≠ d' := fun q => h d rfl (by rw [q])
      funext t
      show (if t = d' then v' else if t = d then v else e t) = if t = d then v else if t = d' then v' else e t
      by_cases h1 : t = d
      · subst h1; rw [if_neg hne, if_pos rfl, if_pos rfl]
      · rw [if_neg h1, if_neg h1]

section
variable (P : Program) (G : Hp) (ops : Array Oper) (Q : Post) (kd : Nat → Kd) (ord : Nat → Nat → Bool)
/-- The heaps behind the calls ahead that may come behind it as well, and the one ahead of those. -/
def relv (i : Nat) : List (Nat × Hp) → List Hp
  | [] => []
  | (j, h) :: t => if ord j i then [h] else h :: relv i t
def opAt (i : Nat) : Oper := ops.getD i default
/-- The operations in a list's order; hs: the heaps behind the calls till now; rs: which loads were. -/
def pq : List Nat → Env → Hp → List (Nat × Hp) → (Nat → Bool) → Prop
  | [], e, H, _, _ => Q .normal e H
  | i :: l, e, H, hs, rs =>
    if wantE ops e (opAt ops i) then
      match kd i with
      | .s => ∃ v, rd P Hp.emp (execOp e.ev (opAt ops i)) = some (.value v) ∧ pq l (e.put (opAt ops i).dst v) H hs rs
      | .r => ∃ v, (∀ h ∈ relv ord i hs, rd P (h.un G) (execOp e.ev (opAt ops i)) = some (.value v)) ∧ pq l (e.put (opAt ops i).dst v) H hs (fun k => k == i || rs k)
      | .n => ∃ ob f, nw P (execOp e.ev (opAt ops i)) = some (ob, f) ∧ ∀ b, H b = none → G b = none → ∃ v, f b = some (.value v) ∧ pq l (e.put (opAt ops i).dst v) (H.set b ob) hs rs
      | .x => opV P G (execOp e.ev (opAt ops i)) H fun v H' =>
          (∀ k, rs k = true → ord k i = false → rd P (H'.un G) (execOp e.ev (opAt ops k)) = some (.value (match (opAt ops k).dst with | some d => e d | none => undef))) ∧
          pq l (e.put (opAt ops i).dst v) H' ((i, H') :: hs) rs
    else pq l (e.put (opAt ops i).dst undef) H hs rs

/-- i and j may change places, i ahead. -/
structure Apart (i j : Nat) : Prop where
  ij : ord i j = false
  ji : ord j i = false
  ne : i ≠ j
  dst : ∀ t, (opAt ops i).dst = some t → (opAt ops j).dst ≠ some t
  li : ∀ t, (opAt ops j).dst = some t → t ∉ looks ops (opAt ops i)
  lj : ∀ t, (opAt ops i).dst = some t → t ∉ looks ops (opAt ops j)
  may : ¬ (kd i = .x ∧ kd j = .x) ∧ ¬ (kd i = .n ∧ kd j = .x)
  ddi : kd i = .r → (opAt ops i).dst.isSome = true
  ddj : kd j = .r → (opAt ops j).dst.isSome = true
  selfi : kd i = .r → ∀ t, (opAt ops i).dst = some t → t ∉ usesOf (opAt ops i)
  selfj : kd j = .r → ∀ t, (opAt ops j).dst = some t → t ∉ usesOf (opAt ops j)
/-- What a load looked at, and told, stays: nothing that may come behind it writes there. -/
def Still (l : List Nat) (rs : Nat → Bool) : Prop :=
  ∀ k, rs k = true → ∀ i ∈ l, ∀ t, (opAt ops i).dst = some t → t ∉ usesOf (opAt ops k) ∧ (opAt ops k).dst ≠ some t
end
theorem usesOf_looks {ops : Array Oper} {o : Oper} {t : Tmp} (h : t ∉ looks ops o) : t ∉ usesOf o := fun q => h (by unfold looks; simp [q])
theorem put_at_ne {e : Env} {d : Option Tmp} {v : Value} {t : Tmp} (h : d ≠ some t) : (e.put d v) t = e t := by
  cases d with
  | none => rfl
  | some d => show (if t = d then v else e t) = e t; rw [if_neg (fun q => h (by rw [q]))]
theorem put_at {e : Env} {v : Value} {t : Tmp} : (e.put (some t) v) t = v := by show (if t = t then v else e t) = v; simp

theorem pq_mono {P : Program} {G : Hp} {ops : Array Oper} {Q : Post} {kd : Nat → Kd} {ord : Nat → Nat → Bool} {i : Nat} {l l' : List Nat} {e : Env} {H : Hp} {hs : List (Nat × Hp)} {rs : Nat → Bool}
    (h : ∀ e H hs' rs', Real G H → hs' ≠ [] → (∀ k, rs' k = true → rs k = true ∨ (k = i ∧ kd i = .r)) → pq P G ops Q kd ord l e H hs' rs' → pq P G ops Q kd ord l' e H hs' rs') (r : Real G H)
    (hne : hs ≠ []) (k : pq P G ops Q kd ord (i :: l) e H hs rs) : pq P G ops Q kd ord (i :: l') e H hs rs := by
  unfold pq at k ⊢
  split
  · rename_i hw
    rw [if_pos hw] at k
    cases hk : kd i with
    | s => simp only [hk] at k ⊢; obtain ⟨v, h1, h2⟩ := k; exact ⟨v, h1, h _ _ _ _ r hne (fun _ q => .inl q) h2⟩
    | r =>
      simp only [hk] at k ⊢
      obtain ⟨v, h1, h2⟩ := k
      refine ⟨v, h1, h _ _ _ _ r hne (fun k q => ?_) h2⟩
      simp only [Bool.or_eq_true, beq_iff_eq] at q
      rcases q with q | q
      · exact .inr ⟨q, hk⟩
      · exact .inl q
    | n =>
      simp only [hk] at k ⊢
      obtain ⟨ob, f, h1, h2⟩ := k
      refine ⟨ob, f, h1, fun b q1 q2 => ?_⟩
      obtain ⟨v, h3, h4⟩ := h2 b q1 q2
      exact ⟨v, h3, h _ _ _ _ (r.set q1 q2 ob) hne (fun _ q => .inl q) h4⟩
    | x =>
      simp only [hk] at k ⊢
      exact opV_mono (opV_real k r) fun v H' ⟨⟨h1, h2⟩, r'⟩ => ⟨h1, h _ _ _ _ r' (by simp) (fun _ q => .inl q) h2⟩
  · rename_i hw
    rw [if_neg hw] at k
    exact h _ _ _ _ r hne (fun _ q => .inl q) k
theorem Hp.set_comm (H : Hp) {b b' : Nat} (h : b ≠ b') (o o' : Obj) : (H.set b o).set b' o' = (H.set b' o').set b o := by
  funext x
  unfold Hp.set
  by_cases h1 : x = b
  · subst h1; rw [if_neg h, if_pos rfl, if_pos rfl]
  · rw [if_neg h1, if_neg h1]
theorem Hp.set_none {H : Hp} {b x : Nat} {o : Obj} (h : (H.set b o) x = none) : x ≠ b ∧ H x = none := by
  unfold Hp.set at h
  by_cases h1 : x = b
  · rw [if_pos h1] at h; cases h
  · rw [if_neg h1] at h; exact ⟨h1, h⟩
theorem Hp.un_single (H : Hp) {b : Nat} (hb : H b = none) (o : Obj) : H.un (Hp.emp.set b o) = H.set b o := by
  funext x
  unfold Hp.un Hp.set Hp.emp
  by_cases h1 : x = b
  · subst h1; simp [hb]
  · cases H x <;> simp [h1]
theorem Hp.disj_single {H : Hp} {b : Nat} (hb : H b = none) (o : Obj) : H.disj (Hp.emp.set b o) := by
  intro x
  unfold Hp.set Hp.emp
  by_cases h1 : x = b
  · subst h1; exact .inl hb
  · exact .inr (by rw [if_neg h1])

section
variable {P : Program} {G : Hp} {ops : Array Oper} {Q : Post} {kd : Nat → Kd} {ord : Nat → Nat → Bool}
/-- A value that hangs on no heap: a step that only puts it. -/
inductive HsLe (G : Hp) : List (Nat × Hp) → List (Nat × Hp) → Prop where
  | nil : HsLe G [] []
  | cons (i : Nat) {h h' : Hp} {t t' : List (Nat × Hp)} : (h.un G).le (h'.un G) → HsLe G t t' → HsLe G ((i, h) :: t) ((i, h') :: t')
theorem HsLe.refl (G : Hp) : ∀ t, HsLe G t t
  | [] => .nil
  | (i, h) :: t => .cons i (fun _ _ h => h) (HsLe.refl G t)
theorem HsLe.relv {i : Nat} {t t' : List (Nat × Hp)} (h : HsLe G t t') : ∀ q ∈ Sl.relv ord i t', ∃ p ∈ Sl.relv ord i t, (p.un G).le (q.un G) := by
  induction h with
  | nil => intro q hq; simp [Sl.relv] at hq
  | cons j hl ht ih =>
    intro q hq
    unfold Sl.relv at hq ⊢
    split at hq
    · rename_i z
      rw [if_pos z]
      simp only [List.mem_singleton] at hq
      subst hq
      exact ⟨_, by simp, hl⟩
    · rename_i z
      rw [if_neg z]
      simp only [List.mem_cons] at hq
      rcases hq with rfl | hq
      · exact ⟨_, by simp, hl⟩
      · obtain ⟨p, h1, h2⟩ := ih q hq
        exact ⟨p, by simp [h1], h2⟩
theorem pq_grow (l : List Nat) : ∀ {e : Env} {H : Hp} {hs hs' : List (Nat × Hp)} {rs : Nat → Bool}, HsLe G hs hs' → pq P G ops Q kd ord l e H hs rs → pq P G ops Q kd ord l e H hs' rs := by
  induction l with
  | nil => intro e H hs hs' rs _ h; exact h
  | cons i l ih =>
    intro e H hs hs' rs hl h
    unfold pq at h ⊢
    split
    · rename_i hw
      rw [if_pos hw] at h
      cases hk : kd i with
      | s => simp only [hk] at h ⊢; obtain ⟨v, h1, h2⟩ := h; exact ⟨v, h1, ih hl h2⟩
      | r =>
        simp only [hk] at h ⊢
        obtain ⟨v, h1, h2⟩ := h
        refine ⟨v, fun q hq => ?_, ih hl h2⟩
        obtain ⟨p, h3, h4⟩ := hl.relv q hq
        exact rd_mono h4 _ (h1 p h3)
      | n =>
        simp only [hk] at h ⊢
        obtain ⟨ob, f, h1, h2⟩ := h
        refine ⟨ob, f, h1, fun b q1 q2 => ?_⟩
        obtain ⟨v, h3, h4⟩ := h2 b q1 q2
        exact ⟨v, h3, ih hl h4⟩
      | x =>
        simp only [hk] at h ⊢
        exact opV_mono h fun v H' ⟨h1, h2⟩ => ⟨h1, ih (.cons i (fun _ _ h => h) hl) h2⟩
    · rename_i hw
      rw [if_neg hw] at h
      exact ih hl h

theorem opV_nw {s : Sem Next} {H : Hp} {ob : Obj} {f : Nat → Option Next} {K : Value → Hp → Prop} (h : nw P s = some (ob, f))
    (hk : ∀ b, H b = none → G b = none → ∃ v, f b = some (.value v) ∧ K v (H.set b ob)) : opV P G s H K :=
  wpH_nw s h fun b h1 h2 => let ⟨v, h3, h4⟩ := hk b h1 h2; ⟨_, h3, h4⟩
theorem opV_rd {s : Sem Next} {H : Hp} {v : Value} {K : Value → Hp → Prop} (h : rd P (H.un G) s = some (.value v)) (hk : K v H) : opV P G s H K :=
  wpH_rd s h hk
/-- A block more, that is not the operation's. -/
theorem wpH_frame1 {α : Type} (s : Sem α) : ∀ {H : Hp} {K : α → Hp → Prop} {b : Nat} {ob : Obj}, wpH P G s H K (fun _ _ => False) → H b = none → G b = none →
    wpH P G s (H.set b ob) (fun a H' => ∃ H1, H' = H1.set b ob ∧ H1 b = none ∧ K a H1) (fun _ _ => False) := by
  have un_set : ∀ (H : Hp) (b : Nat) (ob : Obj) (x : Nat) (o : Obj), H b = none → G b = none → (H.un G) x = some o → ((H.set b ob).un G) x = some o := by
    intro H b ob x o h1 h2 h
    unfold Hp.un Hp.set at *
    have : x ≠ b := by rintro rfl; rw [h1] at h; simp only at h; rw [h2] at h; cases h
    simp only [if_neg this]
    exact h
  have un_cell : ∀ (H : Hp) (b : Nat) (ob : Obj) (x : Addr) (v : Value), H b = none → G b = none → (H.un G).cell x = some v → ((H.set b ob).un G).cell x = some v := by
    intro H b ob x v h1 h2 h
    exact Hp.le_cell (fun y o hy => un_set H b ob y o h1 h2 hy) h
  have set_ne : ∀ (H : Hp) (b : Nat) (ob : Obj) (x : Nat), x ≠ b → (H.set b ob) x = H x := by
    intro H b ob x h; unfold Hp.set; rw [if_neg h]
  have upd_set : ∀ (H : Hp) (b : Nat) (ob : Obj) (x : Nat) (f : Obj → Obj), x ≠ b → Hp.upd f (H.set b ob) x = (Hp.upd f H x).set b ob := by
    intro H b ob x f h
    funext y
    unfold Hp.upd Hp.set
    by_cases h1 : y = x
    · subst h1; simp [h]
    · simp [h1]
  have upd_none : ∀ (H : Hp) (b : Nat) (x : Nat) (f : Obj → Obj), H b = none → (Hp.upd f H x) b = none := by
    intro H b x f h
    unfold Hp.upd
    split <;> simp [h]
  induction s with
  | pure a => intro H K b ob h h1 h2; exact ⟨H, rfl, h1, h⟩
  | load m x k ih => intro H K b ob h h1 h2; obtain ⟨v, h3, h4⟩ := h; exact ⟨v, un_cell _ _ _ _ _ h1 h2 h3, ih _ h4 h1 h2⟩
  | store m x v k ih =>
    intro H K b ob h h1 h2
    obtain ⟨h3, ⟨old, h4⟩, h5, h6⟩ := h
    have hx : x.block ≠ b := by
      rintro rfl
      unfold Hp.cell at h4
      rw [h1] at h4
      cases h4
    refine ⟨h3, ⟨old, ?_⟩, ?_, ?_⟩
    · unfold Hp.cell at h4 ⊢; rw [set_ne _ _ _ _ hx]; exact h4
    · unfold Hp.cold at h5 ⊢; rw [set_ne _ _ _ _ hx]; exact h5
    · rw [upd_set _ _ _ _ _ hx]; exact ih h6 (upd_none _ _ _ _ h1) h2
  | new o k ih =>
    intro H K b ob h h1 h2 c h3 h4
    obtain ⟨h5, h6⟩ := Hp.set_none h3
    rw [Hp.set_comm _ (fun q => h5 q.symm)]
    exact ih _ (h c h6 h4) (by unfold Hp.set; rw [if_neg (fun q => h5 q.symm)]; exact h1) h2
  | shape x k ih => intro H K b ob h h1 h2; obtain ⟨v, h3, h4⟩ := h; exact ⟨v, un_set _ _ _ _ _ h1 h2 h3, ih _ h4 h1 h2⟩
  | freeze x n k ih =>
    intro H K b ob h h1 h2
    obtain ⟨⟨o, h3⟩, h4⟩ := h
    have hx : x.block ≠ b := by rintro rfl; rw [h1] at h3; cases h3
    refine ⟨⟨o, by rw [set_ne _ _ _ _ hx]; exact h3⟩, ?_⟩
    rw [upd_set _ _ _ _ _ hx]; exact ih h4 (upd_none _ _ _ _ h1) h2
  | frozen x k ih => intro H K b ob h h1 h2; obtain ⟨v, h3, h4⟩ := h; exact ⟨v, un_set _ _ _ _ _ h1 h2 h3, ih _ h4 h1 h2⟩
  | getObj x k ih => intro H K b ob h h1 h2; obtain ⟨v, h3, h5, h4⟩ := h; exact ⟨v, un_set _ _ _ _ _ h1 h2 h3, h5, ih _ h4 h1 h2⟩
  | setObj x o k ih =>
    intro H K b ob h h1 h2
    obtain ⟨⟨o', h3, h5⟩, h4⟩ := h
    have hx : x ≠ b := by rintro rfl; rw [h1] at h3; cases h3
    refine ⟨⟨o', by rw [set_ne _ _ _ _ hx]; exact h3, h5⟩, ?_⟩
    rw [upd_set _ _ _ _ _ hx]; exact ih h4 (upd_none _ _ _ _ h1) h2
  | choose q k ih =>
    intro H K b ob h h1 h2
    unfold wpH at h ⊢
    split
    · rename_i z; rw [if_pos z] at h; exact ih _ h h1 h2
    · rename_i z; rw [if_neg z] at h; exact fun t => ih _ (h t) h1 h2
  | sys c k ih => intro H K b ob h h1 h2; exact h
  | program k ih => intro H K b ob h h1 h2; exact ih _ h h1 h2
  | mark m k ih => intro H K b ob h h1 h2; exact ih h h1 h2
  | halt x => intro H K b ob h h1 h2; cases x <;> exact h.elim
theorem opV_frame1 {s : Sem Next} {H : Hp} {K : Value → Hp → Prop} {b : Nat} {ob : Obj} (h : opV P G s H K) (h1 : H b = none) (h2 : G b = none) :
    opV P G s (H.set b ob) (fun v H' => ∃ H1, H' = H1.set b ob ∧ H1 b = none ∧ K v H1) := by
  refine wpH_mono _ (wpH_frame1 s (ob := ob) h h1 h2) ?_ (fun _ _ h => h)
  rintro nx H' ⟨H1, rfl, h3, hn⟩
  cases nx with
  | value v => exact ⟨H1, rfl, h3, hn⟩
  | skip => exact ⟨H1, rfl, h3, hn⟩
  | enter f args =>
    have := CallsH.frame hn (Hp.disj_single h3 ob)
    rw [Hp.un_single _ h3] at this
    refine CallsH.mono this ?_
    rintro z H'' ⟨H2, rfl, hd, hz⟩
    cases z with
    | returned v =>
      have h4 : H2 b = none := by
        rcases hd b with q | q
        · exact q
        · simp [Hp.set] at q
      exact ⟨H2, Hp.un_single _ h4 ob, h4, hz⟩
    | _ => exact hz
  | round l f tmps as bd =>
    have := NxH.frame hn (Hp.disj_single h3 ob)
    rw [Hp.un_single _ h3] at this
    refine NxH.mono this ?_
    rintro z H'' ⟨H2, rfl, hd, hz⟩
    cases z with
    | returned v =>
      have h4 : H2 b = none := by
        rcases hd b with q | q
        · exact q
        · simp [Hp.set] at q
      exact ⟨H2, Hp.un_single _ h4 ob, h4, hz⟩
    | _ => exact hz
  | row rw args =>
    have := NxH.frame hn (Hp.disj_single h3 ob)
    rw [Hp.un_single _ h3] at this
    refine NxH.mono this ?_
    rintro z H'' ⟨H2, rfl, hd, hz⟩
    cases z with
    | returned v =>
      have h4 : H2 b = none := by
        rcases hd b with q | q
        · exact q
        · simp [Hp.set] at q
      exact ⟨H2, Hp.un_single _ h4 ob, h4, hz⟩
    | _ => exact hz
  | _ => exact hn

/-- Two that are apart may change places. -/
theorem pq_swap {i j : Nat} (A : Apart ops kd ord i j) {l : List Nat} {e : Env} {H : Hp} {hs : List (Nat × Hp)} {rs : Nat → Bool} (r : Real G H)
    (st : Still ops [i, j] rs) (hne : hs ≠ []) (h : pq P G ops Q kd ord (i :: j :: l) e H hs rs) : pq P G ops Q kd ord (j :: i :: l) e H hs rs := by
  have wj : ∀ v, wantE ops (e.put (opAt ops i).dst v) (opAt ops j) = wantE ops e (opAt ops j) := fun v => want_put ops _ e v A.lj
  have wi : ∀ v, wantE ops (e.put (opAt ops j).dst v) (opAt ops i) = wantE ops e (opAt ops i) := fun v => want_put ops _ e v A.li
  have xj : ∀ v, execOp (e.put (opAt ops i).dst v).ev (opAt ops j) = execOp e.ev (opAt ops j) := fun v => exec_put _ e v fun t ht => usesOf_looks (A.lj t ht)
  have xi : ∀ v, execOp (e.put (opAt ops j).dst v).ev (opAt ops i) = execOp e.ev (opAt ops i) := fun v => exec_put _ e v fun t ht => usesOf_looks (A.li t ht)
  have pc : ∀ v v', (e.put (opAt ops i).dst v).put (opAt ops j).dst v' = (e.put (opAt ops j).dst v').put (opAt ops i).dst v := fun v v' => put_comm e v v' A.dst
  have relne : ∀ k, ∃ h t, relv ord k hs = h :: t := by
    intro k
    cases hs with
    | nil => exact absurd rfl hne
    | cons a t => unfold relv; split <;> exact ⟨_, _, rfl⟩
  -- what a load that was sees of a step: nothing
  have keep : ∀ (q : Nat) (hq : q = i ∨ q = j) (v : Value) (e' : Env) (k : Nat), rs k = true →
      execOp (e'.put (opAt ops q).dst v).ev (opAt ops k) = execOp e'.ev (opAt ops k) ∧
      (match (opAt ops k).dst with | some d => (e'.put (opAt ops q).dst v) d | none => undef) = (match (opAt ops k).dst with | some d => e' d | none => undef) := by
    intro q hq v e' k hk
    have hm : q ∈ [i, j] := by rcases hq with rfl | rfl <;> simp
    refine ⟨exec_put _ _ _ fun t ht => (st k hk q hm t ht).1, ?_⟩
    cases hd : (opAt ops k).dst with
    | none => rfl
    | some d =>
      refine put_at_ne fun q' => ?_
      exact (st k hk q hm d q').2 hd
  unfold pq at h
  unfold pq
  by_cases hi : wantE ops e (opAt ops i) = true
  · rw [if_pos hi] at h
    cases ki : kd i with
    | s =>
      simp only [ki] at h
      obtain ⟨v, h1, h2⟩ := h
      unfold pq at h2
      rw [wj] at h2
      by_cases hj : wantE ops e (opAt ops j) = true
      · rw [if_pos hj] at h2 ⊢
        rw [xj] at h2
        cases kj : kd j with
        | s =>
          simp only [kj] at h2 ⊢
          obtain ⟨v', h3, h4⟩ := h2
          refine ⟨v', h3, ?_⟩
          unfold pq; rw [wi, if_pos hi]; simp only [ki]
          exact ⟨v, by rw [xi]; exact h1, by rw [← pc]; exact h4⟩
        | r =>
          simp only [kj] at h2 ⊢
          obtain ⟨v', h3, h4⟩ := h2
          refine ⟨v', h3, ?_⟩
          unfold pq; rw [wi, if_pos hi]; simp only [ki]
          exact ⟨v, by rw [xi]; exact h1, by rw [← pc]; exact h4⟩
        | n =>
          simp only [kj] at h2 ⊢
          obtain ⟨ob, f, h3, h4⟩ := h2
          refine ⟨ob, f, h3, fun b q1 q2 => ?_⟩
          obtain ⟨v', h5, h6⟩ := h4 b q1 q2
          refine ⟨v', h5, ?_⟩
          unfold pq; rw [wi, if_pos hi]; simp only [ki]
          exact ⟨v, by rw [xi]; exact h1, by rw [← pc]; exact h6⟩
        | x =>
          simp only [kj] at h2 ⊢
          refine opV_mono h2 fun v' H' ⟨h3, h4⟩ => ⟨fun k hk ho => ?_, ?_⟩
          · have := h3 k hk ho
            obtain ⟨q1, q2⟩ := keep i (.inl rfl) v e k hk
            rw [q1, q2] at this
            exact this
          · unfold pq; rw [wi, if_pos hi]; simp only [ki]
            exact ⟨v, by rw [xi]; exact h1, by rw [← pc]; exact h4⟩
      · rw [if_neg hj] at h2 ⊢
        unfold pq; rw [wi, if_pos hi]; simp only [ki]
        exact ⟨v, by rw [xi]; exact h1, by rw [← pc]; exact h2⟩
    | r =>
      simp only [ki] at h
      obtain ⟨v, h1, h2⟩ := h
      unfold pq at h2
      rw [wj] at h2
      by_cases hj : wantE ops e (opAt ops j) = true
      · rw [if_pos hj] at h2 ⊢
        rw [xj] at h2
        cases kj : kd j with
        | s =>
          simp only [kj] at h2 ⊢
          obtain ⟨v', h3, h4⟩ := h2
          refine ⟨v', h3, ?_⟩
          unfold pq; rw [wi, if_pos hi]; simp only [ki]
          exact ⟨v, by rw [xi]; exact h1, by rw [← pc]; exact h4⟩
        | r =>
          simp only [kj] at h2 ⊢
          obtain ⟨v', h3, h4⟩ := h2
          refine ⟨v', h3, ?_⟩
          unfold pq; rw [wi, if_pos hi]; simp only [ki]
          refine ⟨v, by rw [xi]; exact h1, ?_⟩
          rw [← pc]
          have : (fun k => k == i || (k == j || rs k)) = (fun k => k == j || (k == i || rs k)) := by
            funext k; cases (k == i) <;> cases (k == j) <;> rfl
          rw [this]; exact h4
        | n =>
          simp only [kj] at h2 ⊢
          obtain ⟨ob, f, h3, h4⟩ := h2
          refine ⟨ob, f, h3, fun b q1 q2 => ?_⟩
          obtain ⟨v', h5, h6⟩ := h4 b q1 q2
          refine ⟨v', h5, ?_⟩
          unfold pq; rw [wi, if_pos hi]; simp only [ki]
          exact ⟨v, by rw [xi]; exact h1, by rw [← pc]; exact h6⟩
        | x =>
          simp only [kj] at h2 ⊢
          have hd : ∃ d, (opAt ops i).dst = some d := Option.isSome_iff_exists.1 (A.ddi ki)
          obtain ⟨d, hd⟩ := hd
          refine opV_mono h2 fun v' H' ⟨h3, h4⟩ => ⟨fun k hk ho => ?_, ?_⟩
          · have := h3 k (by simp [hk]) ho
            obtain ⟨q1, q2⟩ := keep i (.inl rfl) v e k hk
            rw [q1, q2] at this
            exact this
          · unfold pq; rw [wi, if_pos hi]; simp only [ki]
            refine ⟨v, ?_, by rw [← pc]; exact h4⟩
            rw [xi]
            intro hp hm
            unfold relv at hm
            rw [A.ji] at hm
            simp only [Bool.false_eq_true, if_false, List.mem_cons] at hm
            rcases hm with rfl | hm
            · have := h3 i (by simp) A.ij
              have q : execOp (e.put (opAt ops i).dst v).ev (opAt ops i) = execOp e.ev (opAt ops i) ∨ True := .inr trivial
              -- the load itself looks at nothing that it writes
              rw [hd] at this
              simp only [put_at] at this
              rw [← hd] at this
              have self : execOp (e.put (opAt ops i).dst v).ev (opAt ops i) = execOp e.ev (opAt ops i) := by
                refine exec_put _ e v fun t ht => ?_
                exact A.selfi ki t ht
              rw [self] at this
              exact this
            · exact h1 hp hm
      · rw [if_neg hj] at h2 ⊢
        unfold pq; rw [wi, if_pos hi]; simp only [ki]
        exact ⟨v, by rw [xi]; exact h1, by rw [← pc]; exact h2⟩
    | n =>
      simp only [ki] at h
      obtain ⟨ob, f, h1, h2⟩ := h
      by_cases hj : wantE ops e (opAt ops j) = true
      · rw [if_pos hj]
        obtain ⟨b0, f1, f2⟩ := r.fresh
        cases kj : kd j with
        | s =>
          simp only
          have hx : ∃ v', rd P Hp.emp (execOp e.ev (opAt ops j)) = some (.value v') := by
            obtain ⟨v, _, h4⟩ := h2 b0 f1 f2
            unfold pq at h4; rw [wj, if_pos hj] at h4; simp only [kj] at h4
            obtain ⟨v', h5, _⟩ := h4
            exact ⟨v', by rw [← xj]; exact h5⟩
          obtain ⟨v', hv'⟩ := hx
          refine ⟨v', hv', ?_⟩
          unfold pq; rw [wi, if_pos hi]; simp only [ki]
          refine ⟨ob, f, by rw [xi]; exact h1, fun b q1 q2 => ?_⟩
          obtain ⟨v, h3, h4⟩ := h2 b q1 q2
          refine ⟨v, h3, ?_⟩
          unfold pq at h4; rw [wj, if_pos hj] at h4; simp only [kj] at h4
          obtain ⟨v'', h5, h6⟩ := h4
          rw [xj, hv'] at h5
          cases h5
          rw [← pc]; exact h6
        | r =>
          simp only
          have hx : ∃ v', ∀ h ∈ relv ord j hs, rd P (h.un G) (execOp e.ev (opAt ops j)) = some (.value v') := by
            obtain ⟨v, _, h4⟩ := h2 b0 f1 f2
            unfold pq at h4; rw [wj, if_pos hj] at h4; simp only [kj] at h4
            obtain ⟨v', h5, _⟩ := h4
            exact ⟨v', fun h hm => by rw [← xj]; exact h5 h hm⟩
          obtain ⟨v', hv'⟩ := hx
          refine ⟨v', hv', ?_⟩
          unfold pq; rw [wi, if_pos hi]; simp only [ki]
          refine ⟨ob, f, by rw [xi]; exact h1, fun b q1 q2 => ?_⟩
          obtain ⟨v, h3, h4⟩ := h2 b q1 q2
          refine ⟨v, h3, ?_⟩
          unfold pq at h4; rw [wj, if_pos hj] at h4; simp only [kj] at h4
          obtain ⟨v'', h5, h6⟩ := h4
          obtain ⟨h0, t0, hrel⟩ := relne j
          have e1 := h5 h0 (by rw [hrel]; simp)
          have e2 := hv' h0 (by rw [hrel]; simp)
          rw [xj, e2] at e1
          cases e1
          rw [← pc]; exact h6
        | n =>
          simp only
          have hx : ∃ ob' f', nw P (execOp e.ev (opAt ops j)) = some (ob', f') := by
            obtain ⟨v, _, h4⟩ := h2 b0 f1 f2
            unfold pq at h4; rw [wj, if_pos hj] at h4; simp only [kj] at h4
            obtain ⟨ob', f', h5, _⟩ := h4
            exact ⟨ob', f', by rw [← xj]; exact h5⟩
          obtain ⟨ob', f', hv'⟩ := hx
          refine ⟨ob', f', hv', fun b' q1 q2 => ?_⟩
          -- the other's block, another one
          have hb : ∃ b, H b = none ∧ G b = none ∧ b ≠ b' := by
            obtain ⟨b, z1, z2⟩ := (r.set q1 q2 ob').fresh
            obtain ⟨z3, z4⟩ := Hp.set_none z1
            exact ⟨b, z4, z2, z3⟩
          have two : ∀ b, H b = none → G b = none → b ≠ b' → ∃ v v', f b = some (.value v) ∧ f' b' = some (.value v') ∧ pq P G ops Q kd ord l ((e.put (opAt ops i).dst v).put (opAt ops j).dst v') ((H.set b ob).set b' ob') hs rs := by
            intro b z1 z2 z3
            obtain ⟨v, h3, h4⟩ := h2 b z1 z2
            unfold pq at h4; rw [wj, if_pos hj] at h4; simp only [kj] at h4
            obtain ⟨ob'', f'', h5, h6⟩ := h4
            rw [xj, hv'] at h5
            cases h5
            obtain ⟨v', h7, h8⟩ := h6 b' (by unfold Hp.set; rw [if_neg (fun q => z3 q.symm)]; exact q1) q2
            exact ⟨v, v', h3, h7, h8⟩
          obtain ⟨b, z1, z2, z3⟩ := hb
          obtain ⟨_, v', _, h7, _⟩ := two b z1 z2 z3
          refine ⟨v', h7, ?_⟩
          unfold pq; rw [wi, if_pos hi]; simp only [ki]
          refine ⟨ob, f, by rw [xi]; exact h1, fun c y1 y2 => ?_⟩
          obtain ⟨y3, y4⟩ := Hp.set_none y1
          obtain ⟨v, v'', h3, h8, h9⟩ := two c y4 y2 y3
          rw [h7] at h8
          cases h8
          refine ⟨v, h3, ?_⟩
          rw [← pc, Hp.set_comm _ (fun q => y3 q.symm)]; exact h9
        | x => exact absurd ⟨ki, kj⟩ A.may.2
      · rw [if_neg hj]
        unfold pq; rw [wi, if_pos hi]; simp only [ki]
        refine ⟨ob, f, by rw [xi]; exact h1, fun b q1 q2 => ?_⟩
        obtain ⟨v, h3, h4⟩ := h2 b q1 q2
        refine ⟨v, h3, ?_⟩
        unfold pq at h4; rw [wj, if_neg hj] at h4
        rw [← pc]; exact h4
    | x =>
      simp only [ki] at h
      by_cases hj : wantE ops e (opAt ops j) = true
      · rw [if_pos hj]
        cases kj : kd j with
        | s =>
          simp only
          have hx : ∃ v', rd P Hp.emp (execOp e.ev (opAt ops j)) = some (.value v') := by
            refine Classical.byContradiction fun hn => opV_strict r (opV_mono h fun v H' ⟨_, h4⟩ => ?_)
            unfold pq at h4; rw [wj, if_pos hj] at h4; simp only [kj] at h4
            obtain ⟨v', h5, _⟩ := h4
            exact hn ⟨v', by rw [← xj]; exact h5⟩
          obtain ⟨v', hv'⟩ := hx
          refine ⟨v', hv', ?_⟩
          unfold pq; rw [wi, if_pos hi]; simp only [ki]
          rw [xi]
          refine opV_mono h fun v H' ⟨h3, h4⟩ => ⟨fun k hk ho => ?_, ?_⟩
          · obtain ⟨q1, q2⟩ := keep j (.inr rfl) v' e k hk
            rw [q1, q2]; exact h3 k hk ho
          · unfold pq at h4; rw [wj, if_pos hj] at h4; simp only [kj] at h4
            obtain ⟨v'', h5, h6⟩ := h4
            rw [xj, hv'] at h5
            cases h5
            rw [← pc]; exact h6
        | r =>
          simp only
          have hd : ∃ d, (opAt ops j).dst = some d := Option.isSome_iff_exists.1 (A.ddj kj)
          obtain ⟨d, hd⟩ := hd
          have hrel : ∀ H', relv ord j ((i, H') :: hs) = H' :: relv ord j hs := by
            intro H'
            show (if ord i j then [H'] else H' :: relv ord j hs) = _
            rw [A.ij]; rfl
          have hx : ∃ v', ∀ h ∈ relv ord j hs, rd P (h.un G) (execOp e.ev (opAt ops j)) = some (.value v') := by
            refine Classical.byContradiction fun hn => opV_strict r (opV_mono h fun v H' ⟨_, h4⟩ => ?_)
            unfold pq at h4; rw [wj, if_pos hj] at h4; simp only [kj] at h4
            obtain ⟨v', h5, _⟩ := h4
            exact hn ⟨v', fun h hm => by rw [← xj]; exact h5 h (by rw [hrel]; simp [hm])⟩
          obtain ⟨v', hv'⟩ := hx
          refine ⟨v', hv', ?_⟩
          unfold pq; rw [wi, if_pos hi]; simp only [ki]
          rw [xi]
          refine opV_mono h fun v H' ⟨h3, h4⟩ => ?_
          unfold pq at h4; rw [wj, if_pos hj] at h4; simp only [kj] at h4
          obtain ⟨v'', h5, h6⟩ := h4
          rw [hrel] at h5
          obtain ⟨h0, t0, hr0⟩ := relne j
          have e1 := h5 h0 (by rw [hr0]; simp)
          have e2 := hv' h0 (by rw [hr0]; simp)
          rw [xj, e2] at e1
          cases e1
          refine ⟨fun k hk ho => ?_, by rw [← pc]; exact h6⟩
          simp only [Bool.or_eq_true, beq_iff_eq] at hk
          rcases hk with rfl | hk
          · have e3 := h5 H' (by simp)
            rw [xj] at e3
            rw [hd]
            simp only [put_at]
            rw [← hd, exec_put _ e v' fun t ht => A.selfj kj t ht]
            exact e3
          · obtain ⟨q1, q2⟩ := keep j (.inr rfl) v' e k hk
            rw [q1, q2]; exact h3 k hk ho
        | n =>
          simp only
          have hx : ∃ ob' f', nw P (execOp e.ev (opAt ops j)) = some (ob', f') := by
            refine Classical.byContradiction fun hn => opV_strict r (opV_mono h fun v H' ⟨_, h4⟩ => ?_)
            unfold pq at h4; rw [wj, if_pos hj] at h4; simp only [kj] at h4
            obtain ⟨ob', f', h5, _⟩ := h4
            exact hn ⟨ob', f', by rw [← xj]; exact h5⟩
          obtain ⟨ob', f', hv'⟩ := hx
          refine ⟨ob', f', hv', fun b q1 q2 => ?_⟩
          have hf := opV_frame1 (ob := ob') (opV_real h r) q1 q2
          have step : ∀ v H1, H1 b = none → (pq P G ops Q kd ord (j :: l) (e.put (opAt ops i).dst v) H1 ((i, H1) :: hs) rs) → ∃ v', f' b = some (.value v') ∧ pq P G ops Q kd ord l ((e.put (opAt ops i).dst v).put (opAt ops j).dst v') (H1.set b ob') ((i, H1) :: hs) rs := by
            intro v H1 hb h4
            unfold pq at h4; rw [wj, if_pos hj] at h4; simp only [kj] at h4
            obtain ⟨ob'', f'', h5, h6⟩ := h4
            rw [xj, hv'] at h5
            cases h5
            exact h6 b hb q2
          have hx : ∃ v', f' b = some (.value v') := by
            refine Classical.byContradiction fun hn => opV_strict (r.set q1 q2 ob') (opV_mono hf fun v H' ⟨H1, _, hb, ⟨_, h4⟩, _⟩ => ?_)
            obtain ⟨v', z, _⟩ := step v H1 hb h4
            exact hn ⟨v', z⟩
          obtain ⟨v', hz⟩ := hx
          refine ⟨v', hz, ?_⟩
          unfold pq; rw [wi, if_pos hi]; simp only [ki]
          rw [xi]
          refine opV_mono hf fun v H' ⟨H1, e1, hb, ⟨h3, h4⟩, _⟩ => ?_
          subst e1
          obtain ⟨v'', z, h6⟩ := step v H1 hb h4
          rw [hz] at z
          cases z
          have le : (H1.un G).le ((H1.set b ob').un G) := by
            intro x o hx
            unfold Hp.un Hp.set at *
            have : x ≠ b := by rintro rfl; rw [hb] at hx; simp only at hx; rw [q2] at hx; cases hx
            simp only [if_neg this]
            exact hx
          refine ⟨fun k hk ho => ?_, ?_⟩
          · obtain ⟨w1, w2⟩ := keep j (.inr rfl) v' e k hk
            rw [w1, w2]; exact rd_mono le _ (h3 k hk ho)
          · rw [← pc]
            exact pq_grow _ (.cons i le (.refl G hs)) h6
        | x => exact absurd ⟨ki, kj⟩ A.may.1
      · rw [if_neg hj]
        unfold pq; rw [wi, if_pos hi]; simp only [ki]
        rw [xi]
        refine opV_mono h fun v H' ⟨h3, h4⟩ => ⟨fun k hk ho => ?_, ?_⟩
        · obtain ⟨q1, q2⟩ := keep j (.inr rfl) undef e k hk
          rw [q1, q2]; exact h3 k hk ho
        · unfold pq at h4; rw [wj, if_neg hj] at h4
          rw [← pc]; exact h4
  · rw [if_neg hi] at h
    unfold pq at h
    rw [wj] at h
    by_cases hj : wantE ops e (opAt ops j) = true
    · rw [if_pos hj] at h ⊢
      rw [xj] at h
      cases kj : kd j with
      | s =>
        simp only [kj] at h ⊢
        obtain ⟨v', h3, h4⟩ := h
        refine ⟨v', h3, ?_⟩
        unfold pq; rw [wi, if_neg hi]
        rw [← pc]; exact h4
      | r =>
        simp only [kj] at h ⊢
        obtain ⟨v', h3, h4⟩ := h
        refine ⟨v', h3, ?_⟩
        unfold pq; rw [wi, if_neg hi]
        rw [← pc]; exact h4
      | n =>
        simp only [kj] at h ⊢
        obtain ⟨ob, f, h3, h4⟩ := h
        refine ⟨ob, f, h3, fun b q1 q2 => ?_⟩
        obtain ⟨v', h5, h6⟩ := h4 b q1 q2
        refine ⟨v', h5, ?_⟩
        unfold pq; rw [wi, if_neg hi]
        rw [← pc]; exact h6
      | x =>
        simp only [kj] at h ⊢
        refine opV_mono h fun v' H' ⟨h3, h4⟩ => ⟨fun k hk ho => ?_, ?_⟩
        · have := h3 k hk ho
          obtain ⟨q1, q2⟩ := keep i (.inl rfl) undef e k hk
          rw [q1, q2] at this
          exact this
        · unfold pq; rw [wi, if_neg hi]
          rw [← pc]; exact h4
    · rw [if_neg hj] at h ⊢
      unfold pq; rw [wi, if_neg hi]
      rw [← pc]; exact h

/-- What a look at the region alone shows. -/
structure Fit (ops : Array Oper) (kd : Nat → Kd) (ord : Nat → Nat → Bool) (n : Nat) : Prop where
  low : ∀ i j, ord i j = true → i < j
  apart : ∀ i j, i < j → j < n → ord i j = false → Apart ops kd ord i j
  still : ∀ k m, k < n → m < n → kd k = .r → m ≠ k → ord m k = false → ∀ t, (opAt ops m).dst = some t → t ∉ usesOf (opAt ops k) ∧ (opAt ops k).dst ≠ some t
theorem pq_front {n : Nat} (F : Fit ops kd ord n) {j : Nat} {post : List Nat} (pre : List Nat) : ∀ {e : Env} {H : Hp} {hs : List (Nat × Hp)} {rs : Nat → Bool}, Real G H → hs ≠ [] →
    (∀ i ∈ pre, i < j ∧ ord i j = false) → j < n → pre.Pairwise (· < ·) → (∀ k, rs k = true → kd k = .r ∧ k < n ∧ ∀ m ∈ pre ++ [j], m ≠ k ∧ ord m k = false) →
    pq P G ops Q kd ord (pre ++ j :: post) e H hs rs → pq P G ops Q kd ord (j :: (pre ++ post)) e H hs rs := by
  induction pre with
  | nil => intro e H hs rs r hne _ _ _ _ h; exact h
  | cons i pre ih =>
    intro e H hs rs r hne hp hj hs1 hrs h
    have hi := hp i (by simp)
    rw [List.pairwise_cons] at hs1
    have hin : i < n := by omega
    have h1 : pq P G ops Q kd ord (i :: j :: (pre ++ post)) e H hs rs := by
      refine pq_mono (fun e H hs' rs' r' hne' hrs' k => ?_) r hne h
      refine ih r' hne' (fun q hq => hp q (by simp [hq])) hj hs1.2 (fun k hk => ?_) k
      rcases hrs' k hk with q | ⟨rfl, q⟩
      · obtain ⟨a, b, c⟩ := hrs k q
        exact ⟨a, b, fun m hm => c m (by simp at hm ⊢; grind)⟩
      · refine ⟨q, hin, fun m hm => ?_⟩
        have : k < m := by
          simp only [List.mem_append, List.mem_singleton] at hm
          rcases hm with hm | rfl
          · exact hs1.1 m hm
          · exact hi.1
        refine ⟨by omega, ?_⟩
        cases hq : ord m k with
        | false => rfl
        | true => have := F.low _ _ hq; omega
    refine pq_swap (F.apart i j hi.1 hj hi.2) r ?_ hne h1
    intro k hk m hm t ht
    obtain ⟨a, b, c⟩ := hrs k hk
    have hm' : m ∈ i :: pre ++ [j] := by simp at hm ⊢; grind
    have hmn : m < n := by simp at hm; rcases hm with rfl | rfl <;> omega
    exact F.still k m b hmn a (c m hm').1 (c m hm').2 t ht
/-- A list in which nothing comes ahead of what it waits for. -/
def Lin (ord : Nat → Nat → Bool) (l : List Nat) : Prop := l.Pairwise fun a b => ord b a = false
theorem pq_sort {n : Nat} (F : Fit ops kd ord n) (l : List Nat) : ∀ {L : List Nat} {e : Env} {H : Hp} {hs : List (Nat × Hp)} {rs : Nat → Bool}, Real G H → hs ≠ [] →
    L.Perm l → L.Pairwise (· < ·) → (∀ i ∈ L, i < n) → Lin ord l → (∀ k, rs k = true → kd k = .r ∧ k < n ∧ ∀ m ∈ L, m ≠ k ∧ ord m k = false) →
    pq P G ops Q kd ord L e H hs rs → pq P G ops Q kd ord l e H hs rs := by
  induction l with
  | nil => intro L e H hs rs _ _ hp _ _ _ _ h; rw [List.perm_nil.1 hp] at h; exact h
  | cons x l ih =>
    intro L e H hs rs r hne hp hs1 hn hlin hrs h
    have hx : x ∈ L := hp.mem_iff.2 (by simp)
    obtain ⟨pre, post, rfl⟩ := List.append_of_mem hx
    have hp2 : (pre ++ post).Perm l := (List.perm_cons x).1 (List.perm_middle.symm.trans hp)
    unfold Lin at hlin
    rw [List.pairwise_cons] at hlin
    rw [List.pairwise_append] at hs1
    obtain ⟨s1, s2, s3⟩ := hs1
    rw [List.pairwise_cons] at s2
    have hpre : ∀ i ∈ pre, i < x ∧ ord i x = false := by
      intro i hi
      refine ⟨s3 i hi x (by simp), ?_⟩
      exact hlin.1 i (hp2.mem_iff.1 (by simp [hi]))
    have h1 := pq_front F pre r hne hpre (hn x hx) s1 (fun k hk => by
      obtain ⟨a, b, c⟩ := hrs k hk
      exact ⟨a, b, fun m hm => c m (by simp at hm ⊢; grind)⟩) h
    refine pq_mono (fun e H hs' rs' r' hne' hrs' k => ?_) r hne h1
    refine ih r' hne' hp2 ?_ (fun i hi => hn i (by simp at hi ⊢; grind)) hlin.2 (fun k hk => ?_) k
    · rw [List.pairwise_append]
      exact ⟨s1, s2.2, fun a ha b hb => s3 a ha b (by simp [hb])⟩
    · rcases hrs' k hk with q | ⟨rfl, q⟩
      · obtain ⟨a, b, c⟩ := hrs k q
        exact ⟨a, b, fun m hm => c m (by simp at hm ⊢; grind)⟩
      · refine ⟨q, hn k hx, fun m hm => ⟨?_, hlin.1 m (hp2.mem_iff.1 hm)⟩⟩
        rintro rfl
        simp only [List.mem_append] at hm
        rcases hm with hm | hm
        · have := s3 m hm m (by simp); omega
        · have := s2.1 m hm; omega
/-- What was shown of a list's order holds of it. -/
theorem denIdx_of_pq {l : List Nat} : ∀ {e : Env} {H : Hp} {hs : List (Nat × Hp)} {rs : Nat → Bool}, (∀ i ∈ l, i < ops.size) → (∃ j h t, hs = (j, h) :: t ∧ (h.un G).le (H.un G)) →
    pq P G ops Q kd ord l e H hs rs → denIdx P G ops Q l e H := by
  induction l with
  | nil => intro e H hs rs _ _ h; exact h
  | cons i l ih =>
    intro e H hs rs hn hh h
    have hi : i < ops.size := hn i (by simp)
    have ho : ops[i]? = some (opAt ops i) := by
      unfold opAt
      rw [Array.getD_eq_getD_getElem?, Array.getElem?_eq_getElem hi]
      rfl
    have hn' : ∀ i ∈ l, i < ops.size := fun k hk => hn k (by simp [hk])
    unfold pq at h
    unfold denIdx
    rw [ho]
    simp only
    split
    · rename_i hw
      rw [if_pos hw] at h
      refine denOp_of_opV ?_
      obtain ⟨j, h0, t, rfl, hle⟩ := hh
      cases hk : kd i with
      | s =>
        simp only [hk] at h
        obtain ⟨v, h1, h2⟩ := h
        exact opV_rd (rd_mono (Hp.emp_le _) _ h1) (ih hn' ⟨j, h0, t, rfl, hle⟩ h2)
      | r =>
        simp only [hk] at h
        obtain ⟨v, h1, h2⟩ := h
        refine opV_rd (rd_mono hle _ (h1 h0 ?_)) (ih hn' ⟨j, h0, t, rfl, hle⟩ h2)
        unfold relv
        split <;> simp
      | n =>
        simp only [hk] at h
        obtain ⟨ob, f, h1, h2⟩ := h
        refine opV_nw h1 fun b q1 q2 => ?_
        obtain ⟨v, h3, h4⟩ := h2 b q1 q2
        refine ⟨v, h3, ih hn' ⟨j, h0, t, rfl, fun x o hx => ?_⟩ h4⟩
        have := hle x o hx
        unfold Hp.un at this ⊢
        by_cases hxb : x = b
        · subst hxb; rw [q1] at this; simp only at this; rw [q2] at this; cases this
        · have z : (H.set b ob) x = H x := by unfold Hp.set; rw [if_neg hxb]
          rw [z]; exact this
      | x =>
        simp only [hk] at h
        exact opV_mono h fun v H' ⟨h1, h2⟩ => ih hn' ⟨i, H', (j, h0) :: t, rfl, fun _ _ h => h⟩ h2
    · rename_i hw
      rw [if_neg hw] at h
      exact ih hn' hh h
end
end Go.Sl
