/- The small heap of a call: what a call owns, beside what it only reads; a predicate transformer over the model's operations and code, and its soundness over the machine's calls. -/
import Derived.Tactics
import Derived.Below
set_option linter.unusedVariables false
set_option linter.unusedSimpArgs false
namespace Go.Sl
open Go

abbrev Hp := Nat → Option Obj
namespace Hp
def sub (H : Hp) (w : World) : Prop := ∀ b o, H b = some o → w.heap[b]? = some o
def emp : Hp := fun _ => none
def set (H : Hp) (b : Nat) (o : Obj) : Hp := fun x => if x = b then some o else H x
def un (H F : Hp) : Hp := fun b => match H b with | some o => some o | none => F b
def disj (H F : Hp) : Prop := ∀ b, H b = none ∨ F b = none
def cell (H : Hp) (a : Addr) : Option Value :=
  match H a.block with
  | some (.cells c _ _) => if a.spot.isSome then none else c[a.off]?
  | _ => none
def cold (H : Hp) (a : Addr) : Bool :=
  match H a.block with
  | some (.cells _ _ (lo, hi)) => !(lo ≤ a.off && a.off < hi)
  | _ => false
def upd (f : Obj → Obj) (H : Hp) (b : Nat) : Hp := fun x => if x = b then (H x).map f else H x
def setc (a : Addr) (v : Value) : Obj → Obj
  | .cells c elem frozen => .cells (if a.spot.isSome then c else c.setIfInBounds a.off v) elem frozen
  | o => o
def frz (a : Addr) (n : Nat) : Obj → Obj
  | .cells c elem (lo, hi) => .cells c elem (if n = 0 then (lo, hi) else if lo == hi then (a.off, a.off + n) else (min lo a.off, max hi (a.off + n)))
  | o => o
end Hp
def Obj.shp : Obj → Option (TypeId × Nat)
  | .cells c e _ => some (e, c.size)
  | _ => none
def Obj.isCells : Obj → Bool
  | .cells .. => true
  | _ => false
def Obj.fro (off : Nat) : Obj → Bool
  | .cells _ _ (lo, hi) => lo ≤ off && off < hi
  | _ => false

/-- What a call holds: its own blocks H, apart from those that it only reads, G. -/
structure Ok (G H : Hp) (w : World) : Prop where
  own : H.sub w
  ro : G.sub w
  dj : H.disj G
/-- What became of the rest of memory: nothing. -/
structure Ext (H H' : Hp) (w w' : World) : Prop where
  os : w'.os = w.os
  tape : w'.tape = w.tape
  output : w'.output = w.output
  size : w.heap.size ≤ w'.heap.size
  keep : ∀ b, b < w.heap.size → H b = none → w'.heap[b]? = w.heap[b]?
  dom : ∀ b, H' b ≠ none → H b ≠ none ∨ w.heap.size ≤ b
theorem Ext.refl (H : Hp) (w : World) : Ext H H w w := ⟨rfl, rfl, rfl, Nat.le_refl _, fun _ _ _ => rfl, fun _ h => .inl h⟩
theorem Ext.trans {H H1 H2 : Hp} {w w1 w2 : World} (h : Ext H H1 w w1) (k : Ext H1 H2 w1 w2) : Ext H H2 w w2 where
  os := k.os.trans h.os
  tape := k.tape.trans h.tape
  output := k.output.trans h.output
  size := Nat.le_trans h.size k.size
  keep b hb hn := by
    have h1 : H1 b = none := by
      cases e : H1 b with
      | none => rfl
      | some o => rcases h.dom b (by simp [e]) with q | q
                  · exact absurd hn q
                  · omega
    rw [k.keep b (Nat.lt_of_lt_of_le hb h.size) h1, h.keep b hb hn]
  dom b hb := by
    rcases k.dom b hb with q | q
    · exact h.dom b q
    · exact .inr (Nat.le_trans h.size q)
theorem Ok.lt {G H : Hp} {w : World} (h : Ok G H w) {b : Nat} {o : Obj} (hb : H b = some o) : b < w.heap.size := by
  have := h.own b o hb
  exact (Array.getElem?_eq_some_iff.1 this).1
theorem Ok.new {G H : Hp} {w : World} (h : Ok G H w) : H w.heap.size = none ∧ G w.heap.size = none := by
  constructor
  · cases e : H w.heap.size with
    | none => rfl
    | some o => have := h.lt e; omega
  · cases e : G w.heap.size with
    | none => rfl
    | some o => have := (Array.getElem?_eq_some_iff.1 (h.ro _ _ e)).1; omega
theorem Ok.at_ {G H : Hp} {w : World} (h : Ok G H w) {b : Nat} {o : Obj} (hb : (H.un G) b = some o) : w.heap[b]? = some o := by
  unfold Hp.un at hb
  cases e : H b with
  | some o' => rw [e] at hb; cases hb; exact h.own _ _ e
  | none => rw [e] at hb; exact h.ro _ _ hb
theorem Ok.cell {G H : Hp} {w : World} (h : Ok G H w) {a : Addr} {v : Value} (hb : (H.un G).cell a = some v) : w.cell? a = some v := by
  unfold Hp.cell at hb
  unfold World.cell?
  cases e : (H.un G) a.block with
  | none => rw [e] at hb; cases hb
  | some o => rw [e] at hb; rw [h.at_ e]; cases o <;> simp_all
theorem Ok.alloc {G H : Hp} {w : World} (h : Ok G H w) (o : Obj) : Ok G (H.set w.heap.size o) { w with heap := w.heap.push o } where
  own b o' hb := by
    show (w.heap.push o)[b]? = _
    unfold Hp.set at hb
    split at hb
    · rename_i e; subst e; cases hb; simp
    · have := h.lt hb
      rw [Array.getElem?_push, if_neg (by omega)]
      exact h.own _ _ hb
  ro b o' hb := by
    show (w.heap.push o)[b]? = _
    have := (Array.getElem?_eq_some_iff.1 (h.ro _ _ hb)).1
    rw [Array.getElem?_push, if_neg (by omega)]
    exact h.ro _ _ hb
  dj b := by
    unfold Hp.set
    split
    · rename_i e; subst e; exact .inr h.new.2
    · exact h.dj b
theorem Ext.alloc {G H : Hp} {w : World} (o : Obj) : Ext H (H.set w.heap.size o) w { w with heap := w.heap.push o } where
  os := rfl
  tape := rfl
  output := rfl
  size := by simp
  keep b hb hn := by
    show (w.heap.push o)[b]? = _
    rw [Array.getElem?_push, if_neg (by omega)]
  dom b hb := by
    unfold Hp.set at hb
    split at hb
    · rename_i e; subst e; exact .inr (Nat.le_refl _)
    · exact .inl hb
theorem Ok.upd {G H : Hp} {w : World} (h : Ok G H w) {b : Nat} {o : Obj} (f : Obj → Obj) (hb : H b = some o) {w' : World}
    (h1 : w'.heap = w.heap.modify b f) : Ok G (Hp.upd f H b) w' where
  own x o' hx := by
    rw [h1, Array.getElem?_modify]
    unfold Hp.upd at hx
    split at hx
    · rename_i e; subst e; rw [hb] at hx; cases hx; rw [if_pos rfl, h.own _ _ hb]; rfl
    · rename_i e; rw [if_neg (fun q => e q.symm)]; exact h.own _ _ hx
  ro x o' hx := by
    rw [h1, Array.getElem?_modify]
    have : b ≠ x := by
      rintro rfl
      rcases h.dj b with q | q
      · rw [hb] at q; cases q
      · rw [hx] at q; cases q
    rw [if_neg this]; exact h.ro _ _ hx
  dj x := by
    rcases h.dj x with q | q
    · refine .inl ?_
      unfold Hp.upd
      split <;> simp [q]
    · exact .inr q
theorem Ext.upd {G H : Hp} {w : World} (h : Ok G H w) {b : Nat} {o : Obj} (f : Obj → Obj) (hb : H b = some o) {w' : World}
    (h1 : w'.heap = w.heap.modify b f) (h2 : w'.os = w.os) (h3 : w'.tape = w.tape) (h4 : w'.output = w.output) : Ext H (Hp.upd f H b) w w' where
  os := h2
  tape := h3
  output := h4
  size := by rw [h1]; simp
  keep x hx hn := by
    rw [h1, Array.getElem?_modify]
    have : b ≠ x := by rintro rfl; rw [hb] at hn; cases hn
    rw [if_neg this]
  dom x hx := by
    refine .inl ?_
    unfold Hp.upd at hx
    split at hx
    · rename_i e; subst e; rw [hb]; simp
    · exact hx

/-- What a run of an operation does to the small heap. -/
def wpH {α : Type} (P : Program) (G : Hp) : Sem α → Hp → (α → Hp → Prop) → (Value → Hp → Prop) → Prop
  | .pure a, H, K, _ => K a H
  | .load _ a k, H, K, E => ∃ v, (H.un G).cell a = some v ∧ wpH P G (k v) H K E
  | .store _ a v k, H, K, E => v.oneCell' = true ∧ (∃ old, H.cell a = some old) ∧ H.cold a = true ∧ wpH P G k (Hp.upd (Hp.setc a v) H a.block) K E
  | .new o k, H, K, E => ∀ b, H b = none → G b = none → wpH P G (k b) (H.set b o) K E
  | .shape r k, H, K, E => ∃ o, (H.un G) r = some o ∧ wpH P G (k (Obj.shp o)) H K E
  | .freeze a n k, H, K, E => (∃ o, H a.block = some o) ∧ wpH P G k (Hp.upd (Hp.frz a n) H a.block) K E
  | .frozen a k, H, K, E => ∃ o, (H.un G) a.block = some o ∧ wpH P G (k (Obj.fro a.off o)) H K E
  | .getObj r k, H, K, E => ∃ o, (H.un G) r = some o ∧ Obj.isCells o = false ∧ wpH P G (k o) H K E
  | .setObj r o k, H, K, E => (∃ o', H r = some o' ∧ Obj.isCells o' = false) ∧ wpH P G k (Hp.upd (fun _ => o) H r) K E
  | .choose q k, H, K, E => if q.forced then wpH P G (k 0) H K E else ∀ t : Nat, wpH P G (k (q.cut t)) H K E
  | .sys _ _, _, _, _ => False
  | .program k, H, K, E => wpH P G (k P) H K E
  | .mark _ k, H, K, E => wpH P G k H K E
  | .halt (.panic v), H, _, E => E v H
  | .halt _, _, _, _ => False

def Fine {α : Type} (G H : Hp) (w : World) (K : α → Hp → Prop) (E : Value → Hp → Prop) : Result α → Prop
  | .ok a w' => ∃ H', K a H' ∧ Ok G H' w' ∧ Ext H H' w w'
  | .halt (.panic v) w' => ∃ H', E v H' ∧ Ok G H' w' ∧ Ext H H' w w'
  | .halt _ _ => False
theorem Fine.step {α : Type} {G H H1 : Hp} {w w1 : World} {K : α → Hp → Prop} {E : Value → Hp → Prop} {r : Result α} (h : Ext H H1 w w1) (k : Fine G H1 w1 K E r) : Fine G H w K E r := by
  unfold Fine at *
  split at k
  · obtain ⟨H', a, b, c⟩ := k; exact ⟨H', a, b, h.trans c⟩
  · obtain ⟨H', a, b, c⟩ := k; exact ⟨H', a, b, h.trans c⟩
  · exact k

theorem wpH_sound {α : Type} (P : Program) (G : Hp) (s : Sem α) : ∀ (H : Hp) (K : α → Hp → Prop) (E : Value → Hp → Prop) (w : World),
    wpH P G s H K E → Ok G H w → Fine G H w K E (s.run P w) := by
  induction s with
  | pure a => intro H K E w h o; exact ⟨H, h, o, .refl _ _⟩
  | load m a k ih =>
    intro H K E w h o
    obtain ⟨v, hv, h⟩ := h
    simp only [Sem.run, o.cell hv]
    exact ih v H K E w h o
  | store m a v k ih =>
    intro H K E w h o
    obtain ⟨h1, ⟨old, h2⟩, h3, h⟩ := h
    obtain ⟨ob, hob⟩ : ∃ ob, H a.block = some ob := by
      unfold Hp.cell at h2
      cases e : H a.block with
      | none => rw [e] at h2; cases h2
      | some x => exact ⟨x, rfl⟩
    have hc : w.cell? a = some old := by
      refine o.cell ?_
      unfold Hp.cell at h2 ⊢
      unfold Hp.un
      rw [hob] at h2 ⊢
      exact h2
    have hf : w.frozen? a = false := by
      unfold Hp.cold at h3
      unfold World.frozen?
      rw [hob] at h3
      rw [o.own _ _ hob]
      cases ob <;> simp_all
      omega
    have hw : (w.setCell a v).heap = w.heap.modify a.block (Hp.setc a v) := by
      unfold World.setCell
      simp only
      congr 1
    have hrun : (Sem.store m a v k).run P w = k.run P (w.setCell a v) := by
      cases v <;> simp_all [Sem.run, Value.oneCell']
    rw [hrun]
    exact Fine.step (Ext.upd o _ hob hw rfl rfl rfl) (ih _ K E _ h (o.upd _ hob hw))
  | new ob k ih =>
    intro H K E w h o
    simp only [Sem.run]
    obtain ⟨a, b⟩ := o.new
    exact Fine.step (Ext.alloc (G := G) ob) (ih _ _ K E _ (h _ a b) (o.alloc ob))
  | shape r k ih =>
    intro H K E w h o
    obtain ⟨ob, hb, h⟩ := h
    simp only [Sem.run]
    have : w.shape? r = Obj.shp ob := by
      unfold World.shape?
      rw [o.at_ hb]
      cases ob <;> rfl
    rw [this]
    exact ih _ H K E w h o
  | freeze a n k ih =>
    intro H K E w h o
    obtain ⟨⟨ob, hb⟩, h⟩ := h
    simp only [Sem.run]
    have hw : (w.freeze a n).heap = w.heap.modify a.block (Hp.frz a n) := by
      unfold World.freeze
      by_cases hn : n = 0
      · subst hn
        simp only [if_true]
        refine Array.ext_getElem? fun i => ?_
        rw [Array.getElem?_modify]
        split
        · cases e : w.heap[i]? with
          | none => rfl
          | some x => cases x <;> simp [Hp.frz]
        · rfl
      · simp only [hn, if_false]
        congr 1
        funext x
        cases x <;> simp [Hp.frz, hn]
    have e1 : (w.freeze a n).os = w.os := by unfold World.freeze; split <;> rfl
    have e2 : (w.freeze a n).tape = w.tape := by unfold World.freeze; split <;> rfl
    have e3 : (w.freeze a n).output = w.output := by unfold World.freeze; split <;> rfl
    exact Fine.step (Ext.upd o _ hb hw e1 e2 e3) (ih _ K E _ h (o.upd _ hb hw))
  | frozen a k ih =>
    intro H K E w h o
    obtain ⟨ob, hb, h⟩ := h
    simp only [Sem.run]
    have : w.frozen? a = Obj.fro a.off ob := by
      unfold World.frozen?
      rw [o.at_ hb]
      cases ob <;> rfl
    rw [this]
    exact ih _ H K E w h o
  | getObj r k ih =>
    intro H K E w h o
    obtain ⟨ob, hb, hc, h⟩ := h
    have : (Sem.getObj r k).run P w = (k ob).run P w := by
      simp only [Sem.run, o.at_ hb]
      cases ob <;> simp_all [Obj.isCells]
    rw [this]
    exact ih _ H K E w h o
  | setObj r ob k ih =>
    intro H K E w h o
    obtain ⟨⟨o', hb, hc⟩, h⟩ := h
    have : (Sem.setObj r ob k).run P w = k.run P { w with heap := w.heap.setIfInBounds r ob } := by
      simp only [Sem.run, o.own _ _ hb]
      cases o' <;> simp_all [Obj.isCells]
    rw [this]
    have hw : ({ w with heap := w.heap.setIfInBounds r ob } : World).heap = w.heap.modify r (fun _ => ob) := by
      refine Array.ext_getElem? fun i => ?_
      show (w.heap.setIfInBounds r ob)[i]? = _
      rw [Array.getElem?_modify, Array.getElem?_setIfInBounds]
      have := o.lt hb
      by_cases e : r = i
      · subst e; simp [this]
      · simp [e]
    exact Fine.step (Ext.upd o _ hb hw rfl rfl rfl) (ih _ K E _ h (o.upd _ hb hw))
  | choose q k ih =>
    intro H K E w h o
    unfold wpH at h
    simp only [Sem.run]
    split
    · rename_i e; rw [if_pos e] at h; exact ih _ H K E w h o
    · rename_i e
      rw [if_neg e] at h
      have o' : Ok G H { w with drawn := w.drawn + 1 } := ⟨o.own, o.ro, o.dj⟩
      exact Fine.step (H1 := H) (w1 := { w with drawn := w.drawn + 1 }) ⟨rfl, rfl, rfl, Nat.le_refl _, fun _ _ _ => rfl, fun _ h => .inl h⟩ (ih _ H K E _ (h _) o')
  | sys c k ih => intro H K E w h o; exact h.elim
  | program k ih => intro H K E w h o; exact ih _ H K E w h o
  | mark m k ih => intro H K E w h o; exact ih H K E w h o
  | halt x =>
    intro H K E w h o
    cases x <;> first | exact ⟨H, h, o, .refl _ _⟩ | exact h.elim
end Go.Sl
