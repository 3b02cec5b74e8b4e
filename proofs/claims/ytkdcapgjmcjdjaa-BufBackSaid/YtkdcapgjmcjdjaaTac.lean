/- Small tactics. -/
import Derived.Test.YtkdcapgjmcjdjaaSimS
namespace Go.Sl
open Go
theorem putL_cons {cs : List Value} {off : Nat} {v : Value} {l : List Value} : putL cs.toArray off (v :: l) = putL (cs.set off v).toArray (off + 1) l := by
  rw [← List.setIfInBounds_toArray]; rfl
theorem putL_nil {cs : Array Value} {off : Nat} : putL cs off [] = cs := rfl
theorem front_eq {l : List Asn} {i : Nat} : front l i = match l[i]? with | some A => A :: l.eraseIdx i | none => l := rfl
theorem fronts_nil {l : List Asn} : fronts l [] = l := rfl
theorem fronts_cons {l : List Asn} {i : Nat} {is : List Nat} : fronts l (i :: is) = match l[i]? with | some A => A :: fronts (l.eraseIdx i) is | none => l := rfl
/-- A new row of cells, as a slice. -/
theorem sg.newsl {G H : Hp} {L : List Asn} (h : sg G L H) {b : Nat} (hb : H b = none) (hg : G b = none) {e : TypeId} {sz n : Nat} {xs : List Value} (hx : xs.length = n * sz) :
    sg G (own e sz (.slice (some ⟨b, 0, none⟩) n n) xs :: L) (H.set b (.cells xs.toArray e (0, 0))) :=
  (h.new hb hg _).open_ (M := [own e sz (.slice (some ⟨b, 0, none⟩) n n) xs]) fun H hd ho => ⟨H, Hp.emp, (Hp.un_emp H).symm, fun b => .inr rfl,
    .inr ⟨b, 0, n, n, _, (0, 0), rfl, ho, .inl rfl, Nat.le_refl _, by simp [hx], hx, fun j hj => by simp⟩, trivial⟩
/-- The first piece alone. -/
theorem sg.take1 {G H : Hp} {A : Asn} {L : List Asn} (h : sg G (A :: L) H) : sg G [A] H := ⟨h.1, seps_take (B := [A]) h.2⟩
theorem sg.pair {G H : Hp} {A B : Asn} {L : List Asn} (h : sg G (A :: B :: L) H) : sg G [A, B] H := ⟨h.1, seps_take (B := [A, B]) h.2⟩
theorem sg.three {G H : Hp} {A B C : Asn} {L : List Asn} (h : sg G (A :: B :: C :: L) H) : sg G [A, B, C] H := ⟨h.1, seps_take (B := [A, B, C]) h.2⟩
theorem sg.four {G H : Hp} {A B C D : Asn} {L : List Asn} (h : sg G (A :: B :: C :: D :: L) H) : sg G [A, B, C, D] H := ⟨h.1, seps_take (B := [A, B, C, D]) h.2⟩
end Go.Sl
