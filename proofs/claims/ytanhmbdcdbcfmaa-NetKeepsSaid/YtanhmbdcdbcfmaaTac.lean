/- Small tactics. -/
import Derived.Test.YtanhmbdcdbcfmaaSimS
set_option linter.unusedVariables false
set_option linter.unusedSimpArgs false
namespace Go.Sl
open Go
theorem putL_cons {cs : List Value} {off : Nat} {v : Value} {l : List Value} : putL cs.toArray off (v :: l) = putL (cs.set off v).toArray (off + 1) l := by
  rw [← List.setIfInBounds_toArray]; rfl
theorem putL_nil {cs : Array Value} {off : Nat} : putL cs off [] = cs := rfl
theorem front_eq {l : List Asn} {i : Nat} : front l i = match l[i]? with | some A => A :: l.eraseIdx i | none => l := rfl
theorem fronts_nil {l : List Asn} : fronts l [] = l := rfl
theorem fronts_cons {l : List Asn} {i : Nat} {is : List Nat} : fronts l (i :: is) = match l[i]? with | some A => A :: fronts (l.eraseIdx i) is | none => l := rfl
/-- A new row of cells, as a slice. -/
theorem sg.newsl {G H : Hp} {L : List Asn} (h : sg G L H) {b : Nat} (hb : H b = none) (hg : G b = none) {e : TypeId} {sz n : Nat} {xs : List Value} (hx : xs.length = n * sz) :
    sg G (own e sz (.slice (some ⟨b, 0, none⟩) n n) xs :: L) (H.set b (.cells xs.toArray e (0, 0))) :=
  (h.new hb hg _).open_ (M := [own e sz (.slice (some ⟨b, 0, none⟩) n n) xs]) fun H hd ho => ⟨H, Hp.emp, (Hp.un_emp H).symm, fun b => .inr rfl,
    .inr ⟨b, 0, n, n, _, (0, 0), rfl, ho, .inl rfl, Nat.le_refl _, by simp [hx], hx, fun j hj => by simp⟩, trivial⟩
/-- The first piece alone. -/
theorem sg.take1 {G H : Hp} {A : Asn} {L : List Asn} (h : sg G (A :: L) H) : sg G [A] H := ⟨h.1, seps_take (B := [A]) h.2⟩
theorem sg.pair {G H : Hp} {A B : Asn} {L : List Asn} (h : sg G (A :: B :: L) H) : sg G [A, B] H := ⟨h.1, seps_take (B := [A, B]) h.2⟩
theorem sg.three {G H : Hp} {A B C : Asn} {L : List Asn} (h : sg G (A :: B :: C :: L) H) : sg G [A, B, C] H := ⟨h.1, seps_take (B := [A, B, C]) h.2⟩
theorem sg.four {G H : Hp} {A B C D : Asn} {L : List Asn} (h : sg G (A :: B :: C :: D :: L) H) : sg G [A, B, C, D] H := ⟨h.1, seps_take (B := [A, B, C, D]) h.2⟩
/-- A whole block of cells, loaded. -/
theorem sg.ld {G H : Hp} {L : List Asn} {b : Nat} {l : List Value} {t : TypeId} {fr : Nat × Nat} (h : sg G (ob b (.cells l.toArray t fr) :: L) H) : ldl (H.un G) ⟨b, 0, none⟩ 0 l.length = some l := by
  have := ldl_of (R := H.un G) (b := b) (off := 0) (xs := l) (fun j hj => by rw [Nat.zero_add, h.c0 j]; simp) l.length 0 (by omega)
  simpa using this
theorem putL_all {l vs : List Value} (h : vs.length = l.length) : putL l.toArray 0 vs = vs.toArray := by
  apply Array.ext_getElem?
  intro j
  rw [putL_get vs l.toArray 0 j (by simp; omega)]
  simp only [Nat.zero_le, true_and, Nat.zero_add, Nat.sub_zero, List.getElem?_toArray]
  split
  · rfl
  · rw [List.getElem?_eq_none (by omega), List.getElem?_eq_none (by omega)]
/-- A whole block of cells, stored. -/
theorem sg.stAll {G H : Hp} {L : List Asn} {b : Nat} {cs : List Value} {t : TypeId} {vs : List Value} (h : sg G (ob b (.cells cs.toArray t (0, 0)) :: L) H) (h1 : vs.all Value.oneCell' = true) (h2 : vs.length = cs.length)
    {K : Hp → Prop} (k : ∀ H', sg G (ob b (.cells vs.toArray t (0, 0)) :: L) H' → K H') : St (H.stl ⟨b, 0, none⟩ 0 vs) K :=
  sg.st h h1 (by simp; omega) fun H' h' => k H' (by rw [putL_all h2] at h'; exact h')
theorem ldl_mono {R T : Hp} (h : R.le T) {a : Addr} : ∀ {n i : Nat} {l : List Value}, ldl R a i n = some l → ldl T a i n = some l
  | 0, i, l, k => k
  | n + 1, i, l, k => by
    unfold ldl at k ⊢
    cases hc : R.cell (a.add i) with
    | none => rw [hc] at k; cases k
    | some v =>
      rw [hc] at k
      rw [Hp.le_cell h hc]
      simp only at k ⊢
      cases hr : ldl R a (i + 1) n with
      | none => rw [hr] at k; cases k
      | some m => rw [hr] at k; rw [ldl_mono h hr]; exact k
theorem sg.rold {G H : Hp} {L : List Asn} (h : sg G L H) {a : Addr} {n i : Nat} {l : List Value} (k : ldl G a i n = some l) : ldl (H.un G) a i n = some l := ldl_mono (un_le_r h.1) k
theorem bb {a b : Bool} (h : a = true ↔ b = true) : Value.bool a = Value.bool b := congrArg Value.bool (Bool.eq_iff_iff.2 h)
/-- A cut between two parts of a body: what is kept of the first. -/
theorem cl_cut {P : Program} {G : Hp} {x y : Code} {Q : Post} {e : Env} {H : Hp} (I : Env → Hp → Prop) (h : ∀ J : Env → Hp → Prop, (∀ e H, I e H → J e H) → cl P G x (thenH J Q) e H) (k : ∀ e H, I e H → cl P G y Q e H) : cl P G (.seq x y) Q e H := by
  rw [cl_seq]
  refine den_mono ?_ (h I fun _ _ h => h)
  intro o e' H' ho
  cases o with
  | normal => exact k e' H' ho
  | _ => exact ho
/-! ### steps of a walk that need no thought -/
/-- A new block, as a piece. -/
theorem New_ob {G H : Hp} {L : List Asn} (h : sg G L H) {K : Value → Hp → Prop} {f : Nat → Value} {o : Obj} (k : ∀ b H', sg G (ob b o :: L) H' → K (f b) H') : New H G (nwK K H f o) :=
  fun b hb hg => k b _ (h.new hb hg o)
theorem New_sl {G H : Hp} {L : List Asn} (h : sg G L H) {K : Value → Hp → Prop} {n : Nat} {xs : List Value} {e : TypeId} (sz : Nat) (hx : xs.length = n * sz)
    (k : ∀ b H', sg G (own e sz (.slice (some ⟨b, 0, none⟩) n n) xs :: L) H' → K (.slice (some ⟨b, 0, none⟩) n n) H') : New H G (nwK K H (fun b => .slice (some ⟨b, 0, none⟩) n n) (.cells xs.toArray e (0, 0))) :=
  fun b hb hg => k b _ (h.newsl hb hg hx)
theorem New_qob {P : Program} {G H : Hp} {L : List Asn} {ops : Array Oper} {Q : Post} {l : List Oper} {an : List Note} {i : Nat} {e : Env} {d : Option Tmp} {hs : List (Nat × Hp)} {o : Obj} {f : Nat → Option Next} (h : sg G L H)
    (k : ∀ b H', sg G (ob b o :: L) H' → Ex (f b) (qK P G ops Q l an i e d H' hs)) : New H G (qN P G ops Q l an i e d H hs o f) :=
  fun b hb hg => k b _ (h.new hb hg o)
theorem New_qsl {P : Program} {G H : Hp} {L : List Asn} {ops : Array Oper} {Q : Post} {l : List Oper} {an : List Note} {i : Nat} {e : Env} {d : Option Tmp} {hs : List (Nat × Hp)} {f : Nat → Option Next} {n : Nat} {xs : List Value} {t : TypeId} (h : sg G L H) (sz : Nat)
    (hx : xs.length = n * sz) (hf : ∀ b, f b = some (.value (.slice (some ⟨b, 0, none⟩) n n)))
    (k : ∀ b H', sg G (own t sz (.slice (some ⟨b, 0, none⟩) n n) xs :: L) H' → Ex (some (.value (.slice (some ⟨b, 0, none⟩) n n))) (qK P G ops Q l an i e d H' hs)) : New H G (qN P G ops Q l an i e d H hs (.cells xs.toArray t (0, 0)) f) :=
  fun b hb hg => by
    show Ex (f b) _
    rw [hf]
    exact k b _ (h.newsl hb hg hx)
/-- Cells of a block, loaded. -/
theorem sg.ldn {G H : Hp} {L : List Asn} {b : Nat} {l : List Value} {t : TypeId} {fr : Nat × Nat} (h : sg G (ob b (.cells l.toArray t fr) :: L) H) (i n : Nat) (hn : Nat.ble (i + n) l.length = true) :
    ldl (H.un G) ⟨b, i, none⟩ 0 n = some ((l.drop i).take n) := by
  have hn := Nat.le_of_ble_eq_true hn
  refine (ldl_of (R := H.un G) (b := b) (off := i) (xs := (l.drop i).take n) (fun j hj => ?_) n 0 (by rw [List.length_take, List.length_drop]; omega)).trans ?_
  · rw [List.length_take, List.length_drop] at hj
    rw [h.c0 (i + j), List.getElem?_take_of_lt (by omega), List.getElem?_drop]; simp
  · rw [List.drop_zero, List.take_take, Nat.min_self]
/-- What is read of the i-th piece, a block of cells. -/
theorem sg.ci {G H : Hp} {L : List Asn} (h : sg G L H) (i : Nat) {b : Nat} {cs : Array Value} {t : TypeId} {fr : Nat × Nat} (hi : L[i]? = some (ob b (.cells cs t fr))) (off : Nat) : (H.un G).cell ⟨b, off, none⟩ = cs[off]? :=
  ucell_of (h.at_ i hi) off
theorem sg.li {G H : Hp} {L : List Asn} (h : sg G L H) (i : Nat) {b : Nat} {l : List Value} {t : TypeId} {fr : Nat × Nat} (hi : L[i]? = some (ob b (.cells l.toArray t fr))) (j n : Nat) (hn : Nat.ble (j + n) l.length = true) :
    ldl (H.un G) ⟨b, j, none⟩ 0 n = some ((l.drop j).take n) := by
  have h1 := h.front i
  unfold Sl.front at h1
  rw [hi] at h1
  exact h1.ldn j n hn
/-- Pieces as one. -/
def bun (l : List Asn) : Asn := seps l
theorem sg.bun {G H : Hp} {M L : List Asn} (h : sg G (M ++ L) H) : sg G (Sl.bun M :: L) H := h.shut M fun H _ h => h
theorem sg.unbun {G H : Hp} {M L : List Asn} (h : sg G (Sl.bun M :: L) H) : sg G (M ++ L) H := h.open_ fun H _ h => h
theorem seps_bun {a : Asn} {M : List Asn} {H : Hp} (h : seps (a :: M) H) : seps [a, bun M] H := by
  obtain ⟨H1, H2, rfl, hd, h1, h2⟩ := h
  exact ⟨H1, H2, rfl, hd, h1, H2, Hp.emp, (Hp.un_emp H2).symm, fun b => .inr rfl, h2, trivial⟩
theorem seps_unbun {a : Asn} {M : List Asn} {H : Hp} (h : seps [a, bun M] H) : seps (a :: M) H := by
  obtain ⟨H1, H2, rfl, hd, h1, H3, H4, rfl, hd2, h3, _⟩ := h
  refine ⟨H1, H3.un H4, rfl, hd, h1, ?_⟩
  rw [Hp.un_comm hd2]
  exact seps_more (Hp.disj_symm hd2) h3
theorem Con.bun {P : Program} {G : Hp} {k : FuncId} {args : List Value} {a a' : Asn} {M : List Asn} {R : Value → Prop} (s : Con P G k args (a :: M) (fun v B => R v ∧ B = a' :: M)) :
    Con P G k args [a, Sl.bun M] (fun v B => R v ∧ B = [a', Sl.bun M]) := by
  intro H h
  refine (s H ⟨h.1, seps_unbun h.2⟩).mono ?_
  rintro z H' ⟨v, B, rfl, ⟨hR, rfl⟩, hB⟩
  exact ⟨v, _, rfl, ⟨hR, rfl⟩, seps_bun hB⟩
theorem Con.more {P : Program} {G : Hp} {k : FuncId} {args : List Value} {a a' : Asn} {R : Value → Prop} (s : Con P G k args [a] (fun v B => R v ∧ B = [a'])) :
    Con P G k args [a, emp] (fun v B => R v ∧ B = [a', emp]) := by
  intro H h
  refine (s H ⟨h.1, seps_take (B := [a]) h.2⟩).mono ?_
  rintro z H' ⟨v, B, rfl, ⟨hR, rfl⟩, hB⟩
  obtain ⟨H1, H2, rfl, hd, h1, h2⟩ := hB
  exact ⟨v, _, rfl, ⟨hR, rfl⟩, H1, H2, rfl, hd, h1, H2, Hp.emp, (Hp.un_emp H2).symm, fun b => .inr rfl, trivial, trivial⟩
/-- A new map, as a piece. -/
theorem New_map {κ α : Type} {G H : Hp} {L : List Asn} (h : sg G L H) {K : Value → Hp → Prop} (enc : κ → Value) (val : α → Value) (k : ∀ b H', sg G (mp enc val b ([] : List (κ × α)) :: L) H' → K (.map (some b)) H') :
    New H G (nwK K H (fun b => .map (some b)) (.map #[] 0)) :=
  fun b hb hg => k b _ (h.mapNew hb hg enc val)
end Go.Sl
