/- Values put together out of parts. -/
import Derived.Test.YtanhmbdcdbcfmaaOps2
set_option linter.unusedVariables false
set_option linter.unusedSimpArgs false
namespace Go.Sl
open Go
section
variable {P : Program} {R G : Hp} {e : Env} {d : Option Tmp} {ty : TypeId} {p : String} {af : Array Edge} {g : Option (Nat × Bool)}
def splice (cells : List Value) (off : Nat) (vs : List Value) : List Value := cells.take off ++ (vs ++ cells.drop (off + vs.length))
def fillL (pl : List (Nat × Nat)) (cells : List Value) : List (Nat × Value) → Option (List Value)
  | [] => some cells
  | (i, v) :: rest =>
    match pl[i]? with
    | none => none
    | some (off, size) => if v.cells.toList.length = size ∧ off + size ≤ cells.length then fillL pl (splice cells off v.cells.toList) rest else none
theorem foldl_set (vs : List Value) : ∀ (cells : Array Value) (off k : Nat), off + k + vs.length ≤ cells.size →
    ((vs.zipIdx k).foldl (fun cs (c, j) => cs.setIfInBounds (off + j) c) cells).toList = splice cells.toList (off + k) vs := by
  induction vs with
  | nil => intro cells off k h; simp [splice]
  | cons v vs ih =>
    intro cells off k h
    simp only [List.length_cons] at h
    rw [List.zipIdx_cons, List.foldl_cons, ih _ off (k + 1) (by simp; omega)]
    unfold splice
    simp only [Array.toList_setIfInBounds]
    have h1 : off + k < cells.toList.length := by simp; omega
    rw [List.take_set, List.drop_set]
    refine List.ext_getElem? fun j => ?_
    simp only [List.getElem?_append, List.length_append, List.length_cons, List.length_take, List.length_set, List.getElem?_set, List.getElem?_take, List.getElem?_drop, List.getElem?_cons]
    grind
theorem fill_eq (pl : Array (Nat × Nat)) : ∀ (ps : List (Nat × Value)) (cells : Array Value), Instr.fill (pl[·]?) cells ps = (fillL pl.toList cells.toList ps).map List.toArray
  | [], cells => by simp [Instr.fill, fillL]
  | (i, v) :: rest, cells => by
    unfold Instr.fill fillL
    rw [Array.getElem?_toList]
    cases pl[i]? with
    | none => rfl
    | some q =>
      obtain ⟨off, size⟩ := q
      simp only
      by_cases h1 : v.cells.size = size
      · by_cases h2 : off + size ≤ cells.size
        · rw [if_neg (by simp [h1]; omega), if_pos (by simp [h1]; exact h2), fill_eq pl rest]
          congr 2
          have := foldl_set v.cells.toList cells off 0 (by simp [h1]; omega)
          rw [Nat.add_zero] at this
          rw [← this]
          congr 1
          rw [← Array.foldl_toList, Array.toList_zipIdx]
        · rw [if_pos (by simp [h1]; omega), if_neg (by simp [h1]; omega)]; rfl
      · rw [if_pos (by simp [h1]), if_neg (by simp [h1])]; rfl
def plcs (P : Program) (t : TypeId) : List (Nat × Nat) := match P.underlying t with | some (.struct fs) => fs.toList.map fun f => (f.offset, (csz P f.type).getD 0) | _ => []
def zcs (P : Program) (t : TypeId) : List Value := match zro P t with | some v => v.cells.toList | none => []
def bIs (P : Program) (t : TypeId) : Bool := match P.underlying t with | some (.struct fs) => (zro P t).isSome && fs.toList.all fun f => (csz P f.type).isSome | _ => false
def rBuild (P : Program) (R : Hp) (t : TypeId) (ps : List (Nat × Value)) : Option Next := vl (rd P R (Instr.build t ps.toArray))
theorem rd_build (t : TypeId) (ps : List (Nat × Operand)) : rd P R (execOp e.ev ⟨d, .build t ps.toArray, ty, p, af, g⟩) = rBuild P R t (ps.map fun q => (q.1, e.ev q.2)) := by
  show rd P R (do pure (Next.value (← Instr.build t (ps.toArray.map fun (i, x) => (i, e.ev x))))) = _
  rw [rd_vl]
  unfold rBuild
  congr 3
  simp
theorem rd_mapM {α β : Type} (f : α → Sem β) (h : α → β) (l : List α) (hf : ∀ a ∈ l, rd P R (f a) = some (h a)) : rd P R (l.mapM f) = some (l.map h) := by
  induction l with
  | nil => rfl
  | cons a l ih =>
    rw [List.mapM_cons, rd_bind, hf a (by simp)]
    simp only [Option.bind_some]
    rw [rd_bind, ih fun b hb => hf b (by simp [hb])]
    rfl
theorem rBuild_struct {t : TypeId} {ps : List (Nat × Value)} (h : bIs P t = true) : rBuild P R t ps = vl ((fillL (plcs P t) (zcs P t) ps).map fun l => .agg l.toArray) := by
  unfold bIs at h
  unfold plcs zcs rBuild Instr.build
  rw [rd_bind, rd_zeroValue]
  cases hs : P.underlying t with
  | none => rw [hs] at h; cases h
  | some x =>
    rw [hs] at h
    cases x with
    | struct fs =>
      simp only [Bool.and_eq_true, List.all_eq_true] at h
      obtain ⟨h1, h2⟩ := h
      obtain ⟨z, hz⟩ := Option.isSome_iff_exists.1 h1
      rw [hz]
      simp only [Option.bind_some]
      rw [rd_bind, rd_underlying, hs]
      simp only [Option.bind_some]
      rw [rd_bind]
      have hm : rd P R (fs.mapM fun f => do pure (f.offset, ← sizeOf f.type)) = some (fs.toList.map fun f => (f.offset, (csz P f.type).getD 0)).toArray := by
        rw [Array.mapM_eq_mapM_toList, map_eq_pure_bind, rd_bind, rd_mapM (h := fun f : Field => (f.offset, (csz P f.type).getD 0))]
        · rfl
        · intro f hf
          obtain ⟨n, hn⟩ := Option.isSome_iff_exists.1 (h2 f hf)
          rw [rd_bind, rd_sizeOf, hn]; rfl
      rw [hm]
      simp only [Option.bind_some]
      rw [fill_eq]
      simp only
      cases fillL (fs.toList.map fun f => (f.offset, (csz P f.type).getD 0)) z.cells.toList ps with
      | none => rfl
      | some l => rfl
    | _ => cases h
def fill1 (o : Option (Nat × Nat)) (pl : List (Nat × Nat)) (cells : List Value) (v : Value) (rest : List (Nat × Value)) : Option (List Value) := match o with
  | none => none
  | some (off, size) => if v.cells.toList.length = size ∧ off + size ≤ cells.length then fillL pl (splice cells off v.cells.toList) rest else none
theorem fillL_nil {pl : List (Nat × Nat)} {cells : List Value} : fillL pl cells [] = some cells := (rfl)
theorem fillL_cons {pl : List (Nat × Nat)} {cells : List Value} {i : Nat} {v : Value} {rest : List (Nat × Value)} : fillL pl cells ((i, v) :: rest) = fill1 (pl[i]?) pl cells v rest := (rfl)
theorem fill1_some {off size : Nat} {pl : List (Nat × Nat)} {cells : List Value} {v : Value} {rest : List (Nat × Value)} : fill1 (some (off, size)) pl cells v rest = if v.cells.toList.length = size ∧ off + size ≤ cells.length then fillL pl (splice cells off v.cells.toList) rest else none := (rfl)
theorem splice_eq {cells : List Value} {off : Nat} {vs : List Value} : splice cells off vs = cells.take off ++ (vs ++ cells.drop (off + vs.length)) := (rfl)
end
end Go.Sl
