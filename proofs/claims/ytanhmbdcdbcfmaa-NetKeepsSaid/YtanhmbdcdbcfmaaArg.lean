/- What a call is given, as the statement reads it: plain Lean values. -/
import Derived.Test.YtanhmbdcdbcfmaaTac
import Derived.OpenShut
import Derived.Below
set_option linter.unusedVariables false
set_option linter.unusedSimpArgs false
namespace Go.Sl
open Go
inductive Ty where
  | int (k : IntKind) | bool | str | bytes
  | sl (t : Ty) | st (t : Ty) | arr (n : Nat) (t : Ty)
  | un | pr (a b : Ty)
abbrev Ty.den : Ty → Type
  | .int _ => Int | .bool => Bool | .str => List UInt8 | .bytes => List UInt8
  | .sl t => List t.den | .st t => t.den | .arr _ t => List t.den | .un => Unit | .pr a b => a.den × b.den
def Ty.size : Ty → Nat
  | .int _ | .bool | .str | .bytes | .sl _ => 1
  | .st t => t.size | .arr n t => n * t.size | .un => 0 | .pr a b => a.size + b.size
def RL {α : Type} (sz : Nat) (Q : List Value → α → Prop) (css : List (List Value)) (xs : List α) : Prop :=
  css.length = xs.length ∧ (∀ c ∈ css, c.length = sz) ∧ ∀ (i : Nat) (c : List Value) (x : α), css[i]? = some c → xs[i]? = some x → Q c x
def rdl (G : Hp) {α : Type} (sz : Nat) (Q : List Value → α → Prop) (v : Value) (xs : List α) : Prop := ∃ css, rds G sz v (css.flatMap id) ∧ RL sz Q css xs
/-- So these cells read, in what is only read. -/
def Ty.R (G : Hp) : (t : Ty) → List Value → t.den → Prop
  | .int k, cs, n => cs = [.int k n] ∧ (Lit.int k n).wf = true
  | .bool, cs, b => cs = [.bool b]
  | .str, cs, s => cs = [.string (bs s)] ∧ s.length ≤ maxLen
  | .bytes, cs, l => ∃ v, cs = [v] ∧ rds G 1 v (bv l)
  | .sl t, cs, xs => ∃ v, cs = [v] ∧ rdl G t.size (Ty.R G t) v xs
  | .st t, cs, x => Ty.R G t cs x
  | .arr n t, cs, xs => ∃ css : List (List Value), cs = css.flatMap id ∧ css.length = n ∧ RL t.size (Ty.R G t) css xs
  | .un, cs, _ => cs = []
  | .pr a b, cs, x => ∃ c1 c2, cs = c1 ++ c2 ∧ c1.length = a.size ∧ Ty.R G a c1 x.1 ∧ Ty.R G b c2 x.2
def Ty.leaf : Ty → Bool
  | .un | .pr _ _ => false
  | _ => true
/-- Does a type of the program fit? -/
def Ty.fit (P : Program) : Ty → TypeId → List Field → Nat → Bool
  | .int k, t, _, _ => match P.underlying t with | some (.int k') => k' == k | _ => false
  | .bool, t, _, _ => match P.underlying t with | some .bool => true | _ => false
  | .str, t, _, _ => match P.underlying t with | some .string => true | _ => false
  | .bytes, t, _, _ => match P.underlying t with | some (.slice e) => (match P.underlying e with | some (.int .u8) => P.cellsOf e == 1 | _ => false) | _ => false
  | .sl a, t, _, _ => match P.underlying t with | some (.slice e) => P.cellsOf e == a.size && Nat.blt 0 a.size && a.leaf && a.fit P e [] 0 | _ => false
  | .arr n a, t, _, _ => match P.underlying t with | some (.array m e) => m == n && P.cellsOf e == a.size && P.cellsOf t == n * a.size && a.leaf && a.fit P e [] 0 | _ => false
  | .st a, t, _, _ => match P.underlying t with | some (.struct fs) => P.cellsOf t == a.size && !a.leaf && a.fit P 0 fs.toList 0 | _ => false
  | .un, _, fs, _ => fs.isEmpty
  | .pr a b, _, fs, off => match fs with | f :: fs => f.offset == off && P.cellsOf f.type == a.size && a.leaf && !b.leaf && a.fit P f.type [] 0 && b.fit P 0 fs (off + a.size) | [] => false
def whole (w : World) : Hp := fun b => w.heap[b]?
theorem whole_cell (w : World) (a : Addr) : (whole w).cell a = w.cell? a := rfl
theorem whole_ok (w : World) : Ok (whole w) Hp.emp w where
  own b o h := by cases h
  ro b o h := h
  dj b := .inl rfl
section
variable {H : Type} {enc : TypeId × Value → H} {P : Program} {w : World} {base : Nat} {spare : Nat → Bool} {held : Bool}
theorem choose_list {α β : Type} {Q : α → β → Prop} : ∀ {l : List α}, (∀ a ∈ l, ∃ b, Q a b) → ∃ m : List β, m.length = l.length ∧ ∀ (i : Nat) (a : α) (b : β), l[i]? = some a → m[i]? = some b → Q a b
  | [], _ => ⟨[], rfl, fun i a b h => by simp at h⟩
  | a :: l, h => by
    obtain ⟨b, hb⟩ := h a (by simp)
    obtain ⟨m, h1, h2⟩ := choose_list (l := l) (fun a ha => h a (by simp [ha]))
    refine ⟨b :: m, by simp [h1], fun i x y hx hy => ?_⟩
    cases i with
    | zero => simp at hx hy; subst hx; subst hy; exact hb
    | succ i => simp at hx hy; exact h2 i x y hx hy
theorem flat_chunk {css : List (List Value)} {sz : Nat} (h : ∀ c ∈ css, c.length = sz) : (css.flatMap id).length = css.length * sz := by
  induction css with
  | nil => simp
  | cons c css ih => simp only [List.flatMap_cons, List.length_append, List.length_cons, id]; rw [h c (by simp), ih (fun c hc => h c (by simp [hc])), Nat.add_mul]; omega
theorem flat_get {css : List (List Value)} {sz : Nat} : ∀ (h : ∀ c ∈ css, c.length = sz) (i k : Nat) (c : List Value), css[i]? = some c → k < sz → (css.flatMap id)[i * sz + k]? = c[k]? := by
  induction css with
  | nil => intro h i k c hc; simp at hc
  | cons d css ih =>
    intro h i k c hc hk
    have hd := h d (by simp)
    cases i with
    | zero =>
      simp at hc; subst hc
      simp only [List.flatMap_cons, id, Nat.zero_mul, Nat.zero_add]
      rw [List.getElem?_append_left (by omega)]
    | succ i =>
      simp at hc
      simp only [List.flatMap_cons, id]
      rw [List.getElem?_append_right (by rw [hd, Nat.add_mul]; omega), hd]
      have e : (i + 1) * sz + k - sz = i * sz + k := by rw [Nat.add_mul]; omega
      rw [e]
      exact ih (fun c hc => h c (by simp [hc])) i k c hc hk
/-- The cells of a slice's elements. -/
theorem open_sl {t e : TypeId} {sz : Nat} (hs : P.underlying t = some (.slice e)) (hz : P.cellsOf e = sz) (hpos : 0 < sz) {fuel : Nat} {cs : List Value} {x : DataW H × List MemPlace}
    (h : DataW.trod enc P w base spare held fuel t cs = some x) :
    ∃ (v : Value) (css : List (List Value)), cs = [v] ∧ rds (whole w) sz v (css.flatMap id) ∧ (∀ c ∈ css, c.length = sz) ∧ ∀ c ∈ css, ∃ m y, DataW.trod enc P w base spare held m e c = some y := by
  rcases DataW.trod_slice hs h with ⟨rfl, _⟩ | ⟨a, len, cap, elems, rest, n, _, rfl, rfl, hb, hl, hm, hlen, hel, hsp, hns⟩
  · exact ⟨_, [], rfl, ⟨none, 0, 0, rfl, by simp, Nat.le_refl _, .inl rfl⟩, by simp, by simp⟩
  · have each : ∀ i, i < len → ∃ c : List Value, c.length = sz ∧ (∀ k, k < sz → w.cell? ((a.add (i * sz)).add k) = c[k]?) ∧ ∃ m y, DataW.trod enc P w base spare held m e c = some y := by
      intro i hi
      have h1 := hel i hi
      rw [hz] at h1
      have hi' : i < elems.length := by omega
      rw [List.getElem?_eq_getElem hi', Option.bind_eq_some_iff] at h1
      obtain ⟨c, hc, hy⟩ := h1
      obtain ⟨_, h2, h3⟩ := World.cells?_some hc
      exact ⟨c, h2, fun k hk => h3 k hk, n, _, hy⟩
    obtain ⟨css, h1, h2⟩ := choose_list (l := List.range len) (fun i hi => each i (List.mem_range.1 hi))
    rw [List.length_range] at h1
    have hmem : ∀ c ∈ css, ∃ i, i < len ∧ css[i]? = some c := by
      intro c hc
      obtain ⟨i, hi⟩ := List.getElem?_of_mem hc
      exact ⟨i, by have := (List.getElem?_eq_some_iff.1 hi).1; omega, hi⟩
    have hq : ∀ i c, css[i]? = some c → c.length = sz ∧ (∀ k, k < sz → w.cell? ((a.add (i * sz)).add k) = c[k]?) ∧ ∃ m y, DataW.trod enc P w base spare held m e c = some y := by
      intro i c hc
      have hi : i < len := by have := (List.getElem?_eq_some_iff.1 hc).1; omega
      exact h2 i i c (by simp [hi]) hc
    have hlen2 : ∀ c ∈ css, c.length = sz := fun c hc => by obtain ⟨i, _, hi⟩ := hmem c hc; exact (hq i c hi).1
    refine ⟨_, css, rfl, ⟨some a, len, cap, rfl, by rw [flat_chunk hlen2, h1], hl, ?_⟩, hlen2, fun c hc => by obtain ⟨i, _, hi⟩ := hmem c hc; exact (hq i c hi).2.2⟩
    by_cases h0 : len = 0
    · left
      subst h0
      rw [List.eq_nil_of_length_eq_zero h1]; rfl
    · right
      obtain ⟨b, off, sp⟩ := a
      have hsp0 : sp = none := by
        obtain ⟨c, hc⟩ : ∃ c, css[0]? = some c := ⟨_, List.getElem?_eq_getElem (by omega)⟩
        obtain ⟨g1, g2, _⟩ := hq _ c hc
        have g3 := g2 0 hpos
        rw [List.getElem?_eq_getElem (by omega)] at g3
        have g4 : ((⟨b, off, sp⟩ : Addr).add (0 * sz)).add 0 = ⟨b, off, sp⟩ := by simp [Addr.add]
        rw [g4] at g3
        unfold World.cell? at g3
        cases sp with
        | none => rfl
        | some z => simp at g3; split at g3 <;> simp at g3
      subst hsp0
      refine ⟨b, off, rfl, fun j hj => ?_⟩
      rw [flat_chunk hlen2, h1] at hj
      have hdm := Nat.div_add_mod j sz
      have hml := Nat.mod_lt j hpos
      have hdl : j / sz < len := Nat.div_lt_of_lt_mul (by rw [Nat.mul_comm]; exact hj)
      obtain ⟨c, hc⟩ : ∃ c, css[j / sz]? = some c := ⟨_, List.getElem?_eq_getElem (by omega)⟩
      have e1 := (hq _ c hc).2.1 (j % sz) hml
      rw [Nat.mul_comm] at hdm
      rw [addr_mk, addr_mk, Nat.add_assoc, hdm] at e1
      rw [whole_cell, e1]
      have e2 := flat_get hlen2 (j / sz) (j % sz) c hc hml
      rw [hdm] at e2
      exact e2.symm
theorem RL_choose {α : Type} {sz : Nat} {Q : List Value → α → Prop} {css : List (List Value)} (h : ∀ c ∈ css, c.length = sz) (k : ∀ c ∈ css, ∃ x, Q c x) : ∃ xs, RL sz Q css xs := by
  obtain ⟨xs, h1, h2⟩ := choose_list k
  exact ⟨xs, h1.symm, h, h2⟩
theorem bytes_of {css : List (List Value)} (h : ∀ c ∈ css, ∃ n : Int, c = [.int .u8 n] ∧ (Lit.int .u8 n).wf = true) : ∃ l : List UInt8, css.flatMap id = bv l := by
  induction css with
  | nil => exact ⟨[], rfl⟩
  | cons c css ih =>
    obtain ⟨n, rfl, hn⟩ := h c (by simp)
    obtain ⟨l, hl⟩ := ih fun c hc => h c (by simp [hc])
    refine ⟨UInt8.ofNat n.toNat :: l, ?_⟩
    simp only [List.flatMap_cons, id, hl]
    unfold bv
    simp only [List.map_cons, List.singleton_append]
    congr 2
    simp [Lit.wf, IntKind.min, IntKind.max, IntKind.signed, IntKind.bits] at hn
    simp
    omega
def Opens (P : Program) (enc : TypeId × Value → H) (w : World) (base : Nat) (spare : Nat → Bool) (held : Bool) (T : Ty) (t : TypeId) : Prop :=
  ∀ {fuel : Nat} {cs : List Value} {x : DataW H × List MemPlace}, DataW.trod enc P w base spare held fuel t cs = some x → cs.length = T.size ∧ ∃ y, T.R (whole w) cs y
def OpensF (P : Program) (enc : TypeId × Value → H) (w : World) (base : Nat) (spare : Nat → Bool) (held : Bool) (T : Ty) (fs : List Field) (off : Nat) : Prop :=
  ∀ cs : List Value, cs.length = off + T.size → (∀ f ∈ fs, ∃ m y, DataW.trod enc P w base spare held m f.type ((cs.drop f.offset).take (P.cellsOf f.type)) = some y) → ∃ y, T.R (whole w) (cs.drop off) y
theorem fit_open (T : Ty) : ∀ {t : TypeId} {fs : List Field} {off : Nat}, T.fit P t fs off = true → if T.leaf then Opens P enc w base spare held T t else OpensF P enc w base spare held T fs off := by
  induction T with
  | int k =>
    intro t fs off h fuel cs x ht
    unfold Ty.fit at h
    split at h
    · rename_i k' hk
      simp only [beq_iff_eq] at h; subst h
      obtain ⟨n, rfl, _, hw⟩ := DataW.trod_int hk ht
      exact ⟨rfl, n, rfl, hw⟩
    · cases h
  | bool =>
    intro t fs off h fuel cs x ht
    unfold Ty.fit at h
    split at h
    · rename_i hk
      obtain ⟨n, rfl, _⟩ := DataW.trod_bool hk ht
      exact ⟨rfl, n, rfl⟩
    · cases h
  | str =>
    intro t fs off h fuel cs x ht
    unfold Ty.fit at h
    split at h
    · rename_i hk
      obtain ⟨s, rfl, _, hm⟩ := DataW.trod_string hk ht
      exact ⟨rfl, s.data.toList, by simp [bs], by simpa using hm⟩
    · cases h
  | bytes =>
    intro t fs off h fuel cs x ht
    unfold Ty.fit at h
    split at h
    · rename_i e hk
      split at h
      · rename_i hk2
        simp only [beq_iff_eq] at h
        obtain ⟨v, css, rfl, h1, h2, h3⟩ := open_sl hk h (by omega) ht
        obtain ⟨l, hl⟩ := bytes_of (css := css) fun c hc => by
          obtain ⟨m, y, hy⟩ := h3 c hc
          obtain ⟨n, e1, _, e2⟩ := DataW.trod_int hk2 hy
          exact ⟨n, e1, e2⟩
        rw [hl] at h1
        exact ⟨rfl, l, v, rfl, h1⟩
      · cases h
    · cases h
  | sl T ih =>
    intro t fs off h fuel cs x ht
    unfold Ty.fit at h
    split at h
    · rename_i e hk
      simp only [Bool.and_eq_true, beq_iff_eq, Nat.blt_eq] at h
      obtain ⟨⟨⟨h1, h2⟩, h3⟩, h4⟩ := h
      have hi := ih h4
      rw [if_pos h3] at hi
      obtain ⟨v, css, rfl, g1, g2, g3⟩ := open_sl hk h1 h2 ht
      obtain ⟨xs, hx⟩ := RL_choose (Q := Ty.R (whole w) T) g2 fun c hc => by
        obtain ⟨m, y, hy⟩ := g3 c hc
        exact (hi hy).2
      exact ⟨rfl, xs, v, rfl, css, g1, hx⟩
    · cases h
  | st T ih =>
    intro t fs off h fuel cs x ht
    unfold Ty.fit at h
    split at h
    · rename_i fs hk
      simp only [Bool.and_eq_true, beq_iff_eq, Bool.not_eq_true'] at h
      obtain ⟨⟨h1, h2⟩, h3⟩ := h
      have hi := ih h3
      rw [if_neg (by rw [h2]; decide)] at hi
      obtain ⟨xs, n, rfl, _, hl, hxl, hf⟩ := DataW.trod_struct hk ht
      obtain ⟨y, hy⟩ := hi cs (by omega) fun f hfm => by
        obtain ⟨i, hi⟩ := List.getElem?_of_mem hfm
        rw [Array.getElem?_toList] at hi
        have := hf i f hi
        have hlt : i < xs.length := by
          have := (Array.getElem?_eq_some_iff.1 hi).1
          omega
        rw [List.getElem?_eq_getElem hlt] at this
        exact ⟨n, _, this⟩
      exact ⟨by rw [hl, h1]; rfl, y, hy⟩
    · cases h
  | arr n T ih =>
    intro t fs off h fuel cs x ht
    unfold Ty.fit at h
    split at h
    · rename_i m e hk
      simp only [Bool.and_eq_true, beq_iff_eq] at h
      obtain ⟨⟨⟨⟨rfl, h1⟩, h2⟩, h3⟩, h4⟩ := h
      have hi := ih h4
      rw [if_pos h3] at hi
      obtain ⟨xs, k, rfl, _, hl, hxl, hf⟩ := DataW.trod_array hk ht
      rw [h1] at hf
      have hch : ∀ (cs : List Value) (q : Nat), cs.length = q * T.size → cs = ((List.range q).map fun i => (cs.drop (i * T.size)).take T.size).flatMap id := by
        intro cs q
        induction q generalizing cs with
        | zero => intro hq; simp at hq; simp [hq]
        | succ q ihq =>
          intro hq
          rw [List.range_succ_eq_map, List.map_cons, List.flatMap_cons, List.map_map]
          simp only [Nat.zero_mul, List.drop_zero, id]
          have := ihq (cs.drop T.size) (by rw [List.length_drop, hq, Nat.add_mul]; omega)
          have e2 : ((fun i => (cs.drop (i * T.size)).take T.size) ∘ Nat.succ) = fun i => ((cs.drop T.size).drop (i * T.size)).take T.size := by
            funext i
            simp only [Function.comp, List.drop_drop]
            congr 2
            rw [Nat.succ_mul, Nat.add_comm]
          rw [e2, ← this, List.take_append_drop]
      have hcs := hch cs m (by rw [hl, h2])
      obtain ⟨ys, hy⟩ := RL_choose (Q := Ty.R (whole w) T) (sz := T.size) (css := (List.range m).map fun i => (cs.drop (i * T.size)).take T.size)
        (by
          intro c hc
          simp only [List.mem_map, List.mem_range] at hc
          obtain ⟨i, hi, rfl⟩ := hc
          rw [List.length_take, List.length_drop, hl, h2]
          have : i * T.size + T.size ≤ m * T.size := by rw [← Nat.succ_mul]; exact Nat.mul_le_mul_right _ hi
          omega) fun c hc => by
        simp only [List.mem_map, List.mem_range] at hc
        obtain ⟨i, hi', rfl⟩ := hc
        have := hf i hi'
        rw [List.getElem?_eq_getElem (by omega)] at this
        exact (hi this).2
      exact ⟨by rw [hl, h2]; rfl, ys, _, hcs, by simp, hy⟩
    · cases h
  | un =>
    intro t fs off h cs hl _
    exact ⟨(), List.drop_eq_nil_of_le (by rw [hl]; exact Nat.le_refl _)⟩
  | pr a b iha ihb =>
    intro t fs off h
    unfold Ty.fit at h
    cases fs with
    | nil => cases h
    | cons f fs =>
      simp only [Bool.and_eq_true, beq_iff_eq, Bool.not_eq_true'] at h
      obtain ⟨⟨⟨⟨⟨h1, h2⟩, h3⟩, h4⟩, h5⟩, h6⟩ := h
      have ha := iha h5
      have hb := ihb h6
      rw [if_pos h3] at ha
      rw [if_neg (by rw [h4]; decide)] at hb
      intro cs hl hf
      obtain ⟨m, y, hy⟩ := hf f (by simp)
      rw [h1, h2] at hy
      obtain ⟨q1, ya, q2⟩ := ha hy
      obtain ⟨yb, q3⟩ := hb cs (by rw [hl]; simp [Ty.size]; omega) fun f hfm => hf f (by simp [hfm])
      refine ⟨(ya, yb), (cs.drop off).take a.size, cs.drop (off + a.size), ?_, q1, q2, q3⟩
      rw [← List.drop_drop, List.take_append_drop]
/-- An argument, opened. -/
theorem openArg (T : Ty) {t : TypeId} {v : Value} {d : DataW H} {ps : List MemPlace} (hl : T.leaf = true) (h : T.fit P t [] 0 = true) (k : DataW.Trod enc P w base spare held t v d ps) :
    ∃ y, T.R (whole w) v.cells.toList y := by
  obtain ⟨fuel, hf⟩ := k
  have := fit_open (enc := enc) (w := w) (base := base) (spare := spare) (held := held) T h
  rw [if_pos hl] at this
  exact (this hf).2
end
/-! ### elements of what is read -/
theorem rdl.mono {R S : Hp} {α : Type} {sz : Nat} {Q : List Value → α → Prop} {v : Value} {xs : List α} (h : rdl R sz Q v xs) (k : R.le S) : rdl S sz Q v xs := by
  obtain ⟨css, h1, h2⟩ := h
  exact ⟨css, h1.mono k, h2⟩
theorem rdl.shape {R : Hp} {α : Type} {sz : Nat} {Q : List Value → α → Prop} {v : Value} {xs : List α} (h : rdl R sz Q v xs) (hs : 0 < sz) : ∃ a n c, v = .slice a n c ∧ xs.length = n ∧ n ≤ c := by
  obtain ⟨css, h1, h2, h3, h4⟩ := h
  obtain ⟨a, n, c, rfl, e1, e2⟩ := h1.slice
  rw [flat_chunk h3] at e1
  exact ⟨a, n, c, rfl, by rw [← h2]; exact Nat.eq_of_mul_eq_mul_right hs e1, e2⟩
theorem rdl.at {R : Hp} {α : Type} {sz : Nat} {Q : List Value → α → Prop} {a : Option Addr} {n c : Nat} {xs : List α} (h : rdl R sz Q (.slice a n c) xs) (hs : 0 < sz) {i : Nat} (hi : i < n) :
    ∃ b off cs, ∃ hl : i < xs.length, a = some ⟨b, off, none⟩ ∧ Q cs xs[i] ∧ cs.length = sz ∧ (∀ k, k < sz → R.cell ⟨b, off + i * sz + k, none⟩ = cs[k]?) ∧ ldl R ⟨b, off + i * sz, none⟩ 0 sz = some cs := by
  obtain ⟨a', n', c', q1, q2, q3⟩ := h.shape hs
  cases q1
  obtain ⟨css, h1, h2, h3, h4⟩ := h
  have hl : i < css.length := by omega
  obtain ⟨b, off, e1, e2, e3⟩ := h1.at hi hs
  have e4 : ((css.flatMap id).drop (i * sz)).take sz = css[i] := by
    refine List.ext_getElem? fun k => ?_
    rw [List.getElem?_take]
    have hc := h3 css[i] (List.getElem_mem hl)
    split
    · rename_i hk
      rw [List.getElem?_drop]
      exact flat_get h3 i k _ (List.getElem?_eq_getElem hl) hk
    · rename_i hk
      exact (List.getElem?_eq_none (by omega)).symm
  have hc := h3 css[i] (List.getElem_mem hl)
  refine ⟨b, off, css[i], by omega, e1, h4 i _ _ (List.getElem?_eq_getElem hl) (List.getElem?_eq_getElem (by omega)), hc, fun k hk => ?_, by rw [e3, e4]⟩
  rw [e2 k hk]
  exact flat_get h3 i k _ (List.getElem?_eq_getElem hl) hk
theorem sg.rol {G H : Hp} {L : List Asn} (h : sg G L H) {α : Type} {sz : Nat} {Q : List Value → α → Prop} {v : Value} {xs : List α} (r : rdl G sz Q v xs) : rdl (H.un G) sz Q v xs := r.mono (un_le_r h.1)
theorem rds.take {R : Hp} {sz : Nat} {a : Option Addr} {n c : Nat} {xs : List Value} (h : rds R sz (.slice a n c) xs) {m : Nat} (hm : m ≤ n) : rds R sz (.slice a m c) (xs.take (m * sz)) := by
  obtain ⟨a', n', c', h1, h2, h3, h4⟩ := h
  cases h1
  have hms : m * sz ≤ n * sz := Nat.mul_le_mul_right _ hm
  refine ⟨a, m, c, rfl, by rw [List.length_take]; omega, by omega, ?_⟩
  rcases h4 with rfl | ⟨b, off, rfl, h5⟩
  · left; simp
  · right
    refine ⟨b, off, rfl, fun j hj => ?_⟩
    rw [List.length_take] at hj
    rw [h5 j (by omega), List.getElem?_take_of_lt (by omega)]
theorem rds.drop {R : Hp} {sz : Nat} {a : Option Addr} {n c : Nat} {xs : List Value} (h : rds R sz (.slice a n c) xs) {m : Nat} (hm : m ≤ n) :
    rds R sz (.slice (if c = m then a else a.map (·.add (m * sz))) (n - m) (c - m)) (xs.drop (m * sz)) := by
  obtain ⟨a', n', c', h1, h2, h3, h4⟩ := h
  cases h1
  obtain ⟨l', rfl⟩ : ∃ l', n = m + l' := ⟨n - m, by omega⟩
  rw [Nat.add_mul] at h2
  refine ⟨_, _, _, rfl, by rw [List.length_drop, Nat.add_sub_cancel_left]; omega, by omega, ?_⟩
  rcases h4 with rfl | ⟨b, off, rfl, h5⟩
  · left; simp
  · by_cases hc : c = m
    · left
      have : l' = 0 := by omega
      subst this
      exact List.drop_eq_nil_of_le (by omega)
    · right
      rw [if_neg hc]
      refine ⟨b, off + m * sz, by simp [add_mk], fun j hj => ?_⟩
      rw [List.length_drop] at hj
      rw [List.getElem?_drop, Nat.add_assoc]
      exact h5 _ (by omega)
theorem rds.none_ {R : Hp} {sz n c : Nat} {xs : List Value} (h : rds R sz (.slice none n c) xs) : xs = [] := by
  obtain ⟨a', n', c', h1, h2, h3, h4⟩ := h
  cases h1
  rcases h4 with h4 | ⟨b, off, h4, _⟩
  · exact h4
  · cases h4
theorem bv_nil_iff {l : List UInt8} : bv l = [] ↔ l = [] := by simp [bv]
theorem rds.cut {R : Hp} {sz : Nat} {a : Option Addr} {n c : Nat} {xs : List Value} (h : rds R sz (.slice a n c) xs) {m c' : Nat} (hm : m ≤ n) (hc : m ≤ c') : rds R sz (.slice a m c') (xs.take (m * sz)) := by
  obtain ⟨a', n', c2, h1, h2, h3, h4⟩ := h.take hm
  cases h1
  exact ⟨a, m, c', rfl, h2, hc, h4⟩
/-- []byte of a []byte: the same one. -/
theorem opConv_mark {P : Program} {G H : Hp} {t e : TypeId} {sz : Nat} {a : Addr} {n c : Nat} {xs : List Value} {L : List Asn} {K : Value → Hp → Prop} (hb : bySl P t = true) (h0 : c ≠ 0)
    (h : sg G (own e sz (.slice (some a) n c) xs :: L) H) (k : ∀ H', sg G (own e sz (.slice (some a) n c) xs :: L) H' → K (.slice (some a) n c) H') : opConv P G t t (.slice (some a) n c) H K := by
  obtain ⟨e', h1, h2⟩ := bySl_eq hb
  obtain ⟨hd, H1, H2, rfl, hd2, ho, hL⟩ := h
  rcases ho with ⟨q, _⟩ | ⟨b, off, len', cap', cs, fr, q, g1, g2, g3, g4, g5, g6⟩
  · cases q
  · cases q
    have hall : sg G (ob b (.cells cs e fr) :: L) (H1.un H2) := ⟨hd, H1, H2, rfl, hd2, g1, hL⟩
    have hbk : (H1.un H2) b = some (.cells cs e fr) := un_of g1
    unfold opConv convert
    rw [wpH_bind, wpH_underlying h1]
    try simp only []
    rw [wpH_bind, wpH_underlying h1]
    try simp only []
    rw [wpH_bind, wpH_underlying h2]
    simp only [beq_self_eq_true]
    rw [wpH_bind]
    show wpH P G (markStringish ⟨b, off, none⟩) _ _ _
    unfold markStringish
    rw [wpH_bind]
    refine ⟨.cells cs e fr, un_of hbk, ?_⟩
    show wpH P G (freeze ⟨b, cs.size, none⟩ 1) _ _ _
    refine ⟨⟨_, hbk⟩, ?_⟩
    have hup := hall.upd (Hp.frz ⟨b, cs.size, none⟩ 1)
    refine k _ (hup.open_ (M := [own e sz (.slice (some ⟨b, off, none⟩) n c) xs]) fun H hd hb => ⟨H, Hp.emp, (Hp.un_emp H).symm, fun b => .inr rfl, ?_, trivial⟩)
    refine .inr ⟨b, off, n, c, cs, _, rfl, hb, ?_, g3, g4, g5, g6⟩
    obtain ⟨lo, hi⟩ := fr
    unfold cold at g2 ⊢
    simp only at g2 ⊢
    rw [if_neg (by decide)]
    by_cases q : lo = hi
    · rw [if_pos (by simpa using q)]; right; exact Nat.le_refl _
    · rw [if_neg (by simpa using q)]
      right
      rcases g2 with g2 | g2
      · exact absurd g2 q
      · simp only; omega
/-- Numbers, as cells. -/
theorem rdl_ints {G : Hp} {k : IntKind} {v : Value} {xs : List Int} (h : rdl G 1 (Ty.R G (.int k)) v xs) : rds G 1 v (xs.map fun x => .int k x) ∧ ∀ x ∈ xs, (Lit.int k x).wf = true := by
  obtain ⟨css, h1, h2, h3, h4⟩ := h
  have e : css = xs.map fun x => [.int k x] := by
    refine List.ext_getElem? fun i => ?_
    rw [List.getElem?_map]
    cases hx : xs[i]? with
    | none => rw [List.getElem?_eq_none_iff] at hx; exact List.getElem?_eq_none (by omega)
    | some x =>
      have hi : i < css.length := by have := (List.getElem?_eq_some_iff.1 hx).1; omega
      rw [List.getElem?_eq_getElem hi]
      have := (h4 i _ x (List.getElem?_eq_getElem hi) hx).1
      rw [this]; rfl
  refine ⟨?_, fun x hx => ?_⟩
  · have : css.flatMap id = xs.map fun x => .int k x := by
      rw [e]
      clear e h1 h2 h3 h4
      induction xs with
      | nil => rfl
      | cons x xs ih => simp only [List.map_cons, List.flatMap_cons, id, ih, List.singleton_append]
    rw [← this]; exact h1
  · obtain ⟨i, hi⟩ := List.getElem?_of_mem hx
    have hl : i < css.length := by have := (List.getElem?_eq_some_iff.1 hi).1; omega
    exact (h4 i _ x (List.getElem?_eq_getElem hl) hi).2
/-- A list that reads as structs, as one row of cells. -/
theorem rdl_map {G : Hp} {α β : Type} {sz : Nat} {Q : List Value → α → Prop} {enc : β → List Value} {f : α → β} (h : ∀ cs x, Q cs x → cs = enc (f x)) {v : Value} {xs : List α} (k : rdl G sz Q v xs) : rds G sz v ((xs.map f).flatMap enc) := by
  obtain ⟨css, h1, h2, h3, h4⟩ := k
  have : css = (xs.map f).map enc := by
    refine List.ext_getElem? fun i => ?_
    rw [List.getElem?_map, List.getElem?_map]
    by_cases hi : i < css.length
    · have hj : i < xs.length := by omega
      rw [List.getElem?_eq_getElem hi, List.getElem?_eq_getElem hj]
      simp only [Option.map_some, Option.some.injEq]
      exact h _ _ (h4 i _ _ (List.getElem?_eq_getElem hi) (List.getElem?_eq_getElem hj))
    · rw [List.getElem?_eq_none (by omega), List.getElem?_eq_none (by omega)]; rfl
  rw [this, List.flatMap_map] at h1
  exact h1
end Go.Sl
