/- From a walk of the law to the statement's row. -/
import Derived.Test.YtanhmbdcdbcfmaaArg
import Derived.WalkKit
import Derived.ProofKit
import Derived.ShutString
import Derived.ChangeOld
import Derived.Carry
import Derived.SizedLaws
set_option linter.unusedVariables false
set_option linter.unusedSimpArgs false
namespace Go.Sl
open Go Go.WideShapes Go.ChangeAt Go.RowKit
def Ty.agg : Ty → Bool
  | .st _ | .arr _ _ => true
  | _ => false
/-- So an argument reads. -/
def Ty.V (G : Hp) (T : Ty) (v : Value) (y : T.den) : Prop := (T.agg = true ∧ ∃ cs : List Value, v = .agg cs.toArray ∧ T.R G cs y) ∨ (T.agg = false ∧ T.R G [v] y)
section
variable {H : Type} {enc : TypeId × Value → H} {P : Program} {w : World} {base : Nat} {spare : Nat → Bool} {held : Bool}
theorem openV (T : Ty) {r : Reach} {b0 : Nat} {t : TypeId} {v : Value} {d : DataW H} {ps : List MemPlace} (hl : T.leaf = true) (h : T.fit P t [] 0 = true) (hval : Value.okWide P w r b0 t v)
    (k : DataW.Trod enc P w base spare held t v d ps) : ∃ y, T.V (whole w) v y := by
  obtain ⟨y, hy⟩ := openArg T hl h k
  refine ⟨y, ?_⟩
  unfold Ty.V
  cases T with
  | un => cases hl
  | pr a b => cases hl
  | st T =>
    unfold Ty.fit at h
    split at h
    · rename_i fs hk
      unfold Value.okWide at hval
      rw [hk] at hval
      obtain ⟨cs, rfl, _⟩ := hval
      exact .inl ⟨rfl, cs.toList, rfl, hy⟩
    · cases h
  | arr n T =>
    unfold Ty.fit at h
    split at h
    · rename_i m e hk
      unfold Value.okWide at hval
      rw [hk] at hval
      obtain ⟨cs, rfl, _⟩ := hval
      exact .inl ⟨rfl, cs.toList, rfl, hy⟩
    · cases h
  | int q =>
    unfold Ty.fit at h
    split at h
    · rename_i k' hk
      obtain ⟨n, rfl⟩ := okWide_int hk hval
      exact .inr ⟨rfl, hy⟩
    · cases h
  | bool =>
    unfold Ty.fit at h
    split at h
    · rename_i hk
      obtain ⟨n, rfl⟩ := okWide_bool hk hval
      exact .inr ⟨rfl, hy⟩
    · cases h
  | str =>
    unfold Ty.fit at h
    split at h
    · rename_i hk
      obtain ⟨n, rfl⟩ := okWide_string hk hval
      exact .inr ⟨rfl, hy⟩
    · cases h
  | bytes =>
    unfold Ty.fit at h
    split at h
    · rename_i e hk
      obtain ⟨a, n, c, rfl⟩ := okWide_slice hk hval
      exact .inr ⟨rfl, hy⟩
    · cases h
  | sl T =>
    unfold Ty.fit at h
    split at h
    · rename_i e hk
      obtain ⟨a, n, c, rfl⟩ := okWide_slice hk hval
      exact .inr ⟨rfl, hy⟩
    · cases h
end
theorem walked {P : Program} {f : FuncId} {args : List Value} {W : World} (h : Con P (whole W) f args [] (fun v B => v = .bool true ∧ B = [])) :
    Calls P f args.toArray W fun e W' => e = .returned (.bool true) ∧ Below W.heap.size W W' := by
  refine (h Hp.emp ⟨fun b => .inl rfl, trivial⟩ W (whole_ok W)).mono ?_
  rintro e W' ⟨H', ⟨v, B, rfl, ⟨rfl, rfl⟩, _⟩, o, x⟩
  exact ⟨rfl, x.os, x.tape, x.output, x.size, fun k hk => x.keep k hk rfl⟩
end Go.Sl
