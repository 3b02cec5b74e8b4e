/- What a call owns, piece by piece. -/
import Derived.Test.YtanhmbdcdbcfmaaSim
set_option linter.unusedVariables false
set_option linter.unusedSimpArgs false
namespace Go.Sl
open Go
abbrev Asn := Hp → Prop
/-- Pieces side by side (and whatever else). -/
def seps : List Asn → Hp → Prop
  | [], _ => True
  | A :: l, H => ∃ H1 H2, H = H1.un H2 ∧ H1.disj H2 ∧ A H1 ∧ seps l H2
theorem Hp.un_emp (H : Hp) : H.un Hp.emp = H := by funext b; unfold Hp.un Hp.emp; cases H b <;> rfl
theorem Hp.emp_un (H : Hp) : Hp.emp.un H = H := by funext b; rfl
theorem Hp.disj_symm {H F : Hp} (h : H.disj F) : F.disj H := fun b => (h b).symm
theorem Hp.un_comm {H F : Hp} (h : H.disj F) : H.un F = F.un H := by
  funext b
  unfold Hp.un
  rcases h b with q | q
  · rw [q]; cases F b <;> rfl
  · rw [q]; cases H b <;> rfl
theorem Hp.un_assoc (A B C : Hp) : (A.un B).un C = A.un (B.un C) := by
  funext b; unfold Hp.un; cases A b <;> rfl
theorem Hp.disj_un {A B C : Hp} : A.disj (B.un C) ↔ A.disj B ∧ A.disj C := by
  constructor
  · intro h
    refine ⟨fun b => ?_, fun b => ?_⟩
    · rcases h b with q | q
      · exact .inl q
      · refine .inr ?_
        unfold Hp.un at q
        cases e : B b with
        | none => rfl
        | some x => rw [e] at q; cases q
    · rcases h b with q | q
      · exact .inl q
      · unfold Hp.un at q
        cases e : B b with
        | none => rw [e] at q; exact .inr q
        | some x => rw [e] at q; cases q
  · rintro ⟨h1, h2⟩ b
    rcases h1 b with q | q
    · exact .inl q
    · rcases h2 b with q' | q'
      · exact .inl q'
      · refine .inr ?_
        unfold Hp.un; rw [q]; exact q'
theorem Hp.un_disj {A B C : Hp} : (A.un B).disj C ↔ A.disj C ∧ B.disj C := by
  constructor
  · intro h
    have := Hp.disj_un.1 (Hp.disj_symm h)
    exact ⟨Hp.disj_symm this.1, Hp.disj_symm this.2⟩
  · rintro ⟨h1, h2⟩
    exact Hp.disj_symm (Hp.disj_un.2 ⟨Hp.disj_symm h1, Hp.disj_symm h2⟩)
theorem seps_more {m : List Asn} : ∀ {H1 H2 : Hp}, H1.disj H2 → seps m H2 → seps m (H1.un H2) := by
  induction m with
  | nil => intro H1 H2 _ _; trivial
  | cons B m ih =>
    rintro H1 H2 hd ⟨H3, H4, rfl, hd2, hb, h⟩
    obtain ⟨d1, d2⟩ := Hp.disj_un.1 hd
    refine ⟨H3, H1.un H4, ?_, Hp.disj_un.2 ⟨Hp.disj_symm d1, hd2⟩, hb, ih d2 h⟩
    rw [← Hp.un_assoc, Hp.un_comm d1, Hp.un_assoc]
theorem seps_append {l m : List Asn} : ∀ {H : Hp}, seps (l ++ m) H ↔ ∃ H1 H2, H = H1.un H2 ∧ H1.disj H2 ∧ seps l H1 ∧ seps m H2 := by
  induction l with
  | nil =>
    intro H
    constructor
    · intro h; exact ⟨Hp.emp, H, (Hp.emp_un H).symm, fun b => .inl rfl, trivial, h⟩
    · rintro ⟨H1, H2, rfl, hd, _, h⟩
      -- what is beside is let go
      exact seps_more hd h
  | cons A l ih =>
    intro H
    constructor
    · rintro ⟨H1, H2, rfl, hd, ha, h⟩
      obtain ⟨H3, H4, rfl, hd2, h3, h4⟩ := ih.1 h
      obtain ⟨d1, d2⟩ := Hp.disj_un.1 hd
      exact ⟨H1.un H3, H4, (Hp.un_assoc _ _ _).symm, Hp.un_disj.2 ⟨d2, hd2⟩, ⟨H1, H3, rfl, d1, ha, h3⟩, h4⟩
    · rintro ⟨H1, H2, rfl, hd, ⟨H3, H4, rfl, hd2, ha, h3⟩, h4⟩
      obtain ⟨d1, d2⟩ := Hp.un_disj.1 hd
      exact ⟨H3, H4.un H2, Hp.un_assoc _ _ _, Hp.disj_un.2 ⟨hd2, d1⟩, ha, ih.2 ⟨H4, H2, rfl, d2, h3, h4⟩⟩
theorem seps_perm {l m : List Asn} (p : l.Perm m) : ∀ {H : Hp}, seps l H → seps m H := by
  induction p with
  | nil => intro H h; exact h
  | cons A p ih => rintro H ⟨H1, H2, rfl, hd, ha, h⟩; exact ⟨H1, H2, rfl, hd, ha, ih h⟩
  | swap A B l =>
    rintro H ⟨H1, H2, rfl, hd, ha, H3, H4, rfl, hd2, hb, h⟩
    obtain ⟨d1, d2⟩ := Hp.disj_un.1 hd
    refine ⟨H3, H1.un H4, ?_, Hp.disj_un.2 ⟨Hp.disj_symm d1, hd2⟩, hb, H1, H4, rfl, d2, ha, h⟩
    rw [← Hp.un_assoc, Hp.un_comm d1, Hp.un_assoc]
  | trans p q ih1 ih2 => intro H h; exact ih2 (ih1 h)
/-- The i-th piece to the front. -/
def front (l : List Asn) (i : Nat) : List Asn := match l[i]? with | some A => A :: l.eraseIdx i | none => l
theorem perm_eraseIdx {l : List Asn} {i : Nat} (h : i < l.length) : l.Perm (l[i] :: l.eraseIdx i) := by
  induction l generalizing i with
  | nil => simp at h
  | cons a l ih =>
    cases i with
    | zero => exact List.Perm.refl _
    | succ i =>
      simp only [List.length_cons] at h
      exact ((ih (i := i) (by omega)).cons a).trans (List.Perm.swap _ _ _)
theorem seps_front {l : List Asn} {H : Hp} (i : Nat) (h : seps l H) : seps (front l i) H := by
  unfold front
  cases e : l[i]? with
  | none => exact h
  | some A =>
    obtain ⟨hi, rfl⟩ := List.getElem?_eq_some_iff.1 e
    exact seps_perm (perm_eraseIdx hi) h
/-- Several to the front, one behind the other: places each in what is left. -/
def fronts (l : List Asn) : List Nat → List Asn
  | [] => l
  | i :: is => match l[i]? with | some A => A :: fronts (l.eraseIdx i) is | none => l
theorem seps_fronts {is : List Nat} : ∀ {l : List Asn} {H : Hp}, seps l H → seps (fronts l is) H := by
  induction is with
  | nil => intro l H h; exact h
  | cons i is ih =>
    intro l H h
    unfold fronts
    cases e : l[i]? with
    | none => exact h
    | some A =>
      have := seps_front i h
      unfold front at this
      rw [e] at this
      obtain ⟨H1, H2, rfl, hd, ha, h2⟩ := this
      exact ⟨H1, H2, rfl, hd, ha, ih h2⟩

/-- A block. -/
def ob (b : Nat) (o : Obj) : Asn := fun H => H b = some o
def cold (cs : Array Value) (fr : Nat × Nat) : Prop := fr.1 = fr.2 ∨ cs.size ≤ fr.1
theorem seps_get {A : Asn} {l : List Asn} {H : Hp} (h : seps (A :: l) H) : ∃ H1, A H1 ∧ H1.le H := by
  obtain ⟨H1, H2, rfl, hd, ha, h2⟩ := h
  exact ⟨H1, ha, fun b o hb => by unfold Hp.un; rw [hb]⟩
theorem seps_ob {b : Nat} {o : Obj} {l : List Asn} {H : Hp} (h : seps (ob b o :: l) H) : H b = some o := by
  obtain ⟨H1, ha, hl⟩ := seps_get h
  exact hl _ _ ha
theorem seps_tail {A : Asn} {l : List Asn} {H : Hp} (h : seps (A :: l) H) : seps l H := by
  obtain ⟨H1, H2, rfl, hd, ha, h2⟩ := h
  exact seps_more hd h2
/-- The i-th piece is a block. -/
theorem seps_at {l : List Asn} {H : Hp} (h : seps l H) (i : Nat) {b : Nat} {o : Obj} (hi : l[i]? = some (ob b o)) : H b = some o := by
  have := seps_front i h
  unfold front at this
  rw [hi] at this
  exact seps_ob this
theorem un_of {H G : Hp} {b : Nat} {o : Obj} (h : H b = some o) : (H.un G) b = some o := by unfold Hp.un; rw [h]
theorem cell_of {H : Hp} {b : Nat} {cs : Array Value} {t : TypeId} {fr : Nat × Nat} (h : H b = some (.cells cs t fr)) (off : Nat) : H.cell ⟨b, off, none⟩ = cs[off]? := by
  unfold Hp.cell; rw [h]; rfl
theorem ucell_of {H G : Hp} {b : Nat} {cs : Array Value} {t : TypeId} {fr : Nat × Nat} (h : H b = some (.cells cs t fr)) (off : Nat) : (H.un G).cell ⟨b, off, none⟩ = cs[off]? :=
  cell_of (un_of h) off
/-- The piece replaced: the block of the first piece is another one now. -/
theorem seps_upd {b : Nat} {o : Obj} {l : List Asn} {H : Hp} (h : seps (ob b o :: l) H) (f : Obj → Obj) : seps (ob b (f o) :: l) (Hp.upd f H b) := by
  obtain ⟨H1, H2, rfl, hd, ha, h2⟩ := h
  have ha : H1 b = some o := ha
  have hb2 : H2 b = none := by
    rcases hd b with q | q
    · rw [ha] at q; cases q
    · exact q
  refine ⟨Hp.upd f H1 b, H2, ?_, ?_, ?_, h2⟩
  · funext x
    unfold Hp.upd Hp.un
    by_cases hx : x = b
    · subst hx; simp [ha]
    · simp [hx]
  · intro x
    rcases hd x with q | q
    · refine .inl ?_
      unfold Hp.upd; split <;> simp [q]
    · exact .inr q
  · show Hp.upd f H1 b b = some (f o)
    unfold Hp.upd; rw [if_pos rfl, ha]; rfl
theorem seps_new {b : Nat} {l : List Asn} {H : Hp} (h : seps l H) (hb : H b = none) (o : Obj) : seps (ob b o :: l) (H.set b o) := by
  refine ⟨Hp.emp.set b o, H, ?_, ?_, ?_, h⟩
  · rw [← Hp.un_single H hb o, Hp.un_comm (Hp.disj_single hb o)]
  · exact Hp.disj_symm (Hp.disj_single hb o)
  · show (Hp.emp.set b o) b = some o
    unfold Hp.set; rw [if_pos rfl]

/-! ### storing -/
theorem add_mk (b off n : Nat) : (⟨b, off, none⟩ : Addr).add n = ⟨b, off + n, none⟩ := by
  unfold Addr.add
  split
  · rename_i h; subst h; rfl
  · rfl
def putL (cs : Array Value) (off : Nat) : List Value → Array Value
  | [] => cs
  | v :: l => putL (cs.setIfInBounds off v) (off + 1) l
theorem putL_size (l : List Value) : ∀ (cs : Array Value) (off : Nat), (putL cs off l).size = cs.size := by
  induction l with
  | nil => intro cs off; rfl
  | cons v l ih => intro cs off; unfold putL; rw [ih]; simp
theorem st1_of {H : Hp} {b off : Nat} {cs : Array Value} {t : TypeId} {fr : Nat × Nat} (h : H b = some (.cells cs t fr)) (hc : cold cs fr) {v : Value} (hv : v.oneCell' = true) (ho : off < cs.size) :
    H.st1 ⟨b, off, none⟩ v = some (Hp.upd (Hp.setc ⟨b, off, none⟩ v) H b) := by
  unfold Hp.st1
  rw [if_pos]
  refine ⟨hv, ?_, ?_⟩
  · rw [cell_of h]; simp [ho]
  · unfold Hp.cold
    rw [h]
    obtain ⟨lo, hi⟩ := fr
    unfold cold at hc
    simp only at hc ⊢
    simp only [Bool.not_eq_true', Bool.and_eq_false_iff, decide_eq_false_iff_not]
    omega
theorem seps_stl {b : Nat} {t : TypeId} {fr : Nat × Nat} {L : List Asn} (vs : List Value) : ∀ {cs : Array Value} {off i : Nat} {H : Hp}, seps (ob b (.cells cs t fr) :: L) H → cold cs fr → (∀ v ∈ vs, v.oneCell' = true) →
    off + i + vs.length ≤ cs.size → ∃ H', Hp.stl H ⟨b, off, none⟩ i vs = some H' ∧ seps (ob b (.cells (putL cs (off + i) vs) t fr) :: L) H' := by
  induction vs with
  | nil => intro cs off i H h _ _ _; exact ⟨H, rfl, h⟩
  | cons v vs ih =>
    intro cs off i H h hc hv hl
    unfold Hp.stl
    simp only [List.length_cons] at hl
    rw [add_mk, st1_of (seps_ob h) hc (hv v (by simp)) (by omega)]
    simp only
    have h1 := seps_upd h (Hp.setc ⟨b, off + i, none⟩ v)
    have e1 : Hp.setc ⟨b, off + i, none⟩ v (.cells cs t fr) = .cells (cs.setIfInBounds (off + i) v) t fr := rfl
    rw [e1] at h1
    have := ih (off := off) (i := i + 1) h1 (by unfold cold at hc ⊢; simpa using hc) (fun w hw => hv w (by simp [hw])) (by simp; omega)
    exact this

/-! ### pieces, apart from what is only read -/
def sg (G : Hp) (L : List Asn) (H : Hp) : Prop := H.disj G ∧ seps L H
section
variable {G H : Hp} {L : List Asn}
theorem sg.front (i : Nat) (h : sg G L H) : sg G (front L i) H := ⟨h.1, seps_front i h.2⟩
theorem sg.fronts (is : List Nat) (h : sg G L H) : sg G (fronts L is) H := ⟨h.1, seps_fronts h.2⟩
theorem sg.tail {A : Asn} (h : sg G (A :: L) H) : sg G L H := ⟨h.1, seps_tail h.2⟩
theorem sg.at_ (h : sg G L H) (i : Nat) {b : Nat} {o : Obj} (hi : L[i]? = some (ob b o)) : H b = some o := seps_at h.2 i hi
theorem sg.new (h : sg G L H) {b : Nat} (hb : H b = none) (hg : G b = none) (o : Obj) : sg G (ob b o :: L) (H.set b o) := by
  refine ⟨fun x => ?_, seps_new h.2 hb o⟩
  unfold Hp.set
  split
  · rename_i e; subst e; exact .inr hg
  · exact h.1 x
theorem upd_disj {b : Nat} {f : Obj → Obj} (h : H.disj G) : (Hp.upd f H b).disj G := by
  intro x
  rcases h x with q | q
  · refine .inl ?_
    unfold Hp.upd; split <;> simp [q]
  · exact .inr q
theorem sg.upd {b : Nat} {o : Obj} (h : sg G (ob b o :: L) H) (f : Obj → Obj) : sg G (ob b (f o) :: L) (Hp.upd f H b) := ⟨upd_disj h.1, seps_upd h.2 f⟩
theorem stl_disj (vs : List Value) : ∀ {H H' : Hp} {a : Addr} {i : Nat}, H.disj G → H.stl a i vs = some H' → H'.disj G := by
  induction vs with
  | nil => intro H H' a i h e; cases e; exact h
  | cons v vs ih =>
    intro H H' a i h e
    unfold Hp.stl at e
    cases e1 : H.st1 (a.add i) v with
    | none => rw [e1] at e; cases e
    | some H1 =>
      rw [e1] at e
      refine ih ?_ e
      unfold Hp.st1 at e1
      split at e1
      · cases e1; exact upd_disj h
      · cases e1
theorem sg.stl {b off : Nat} {cs : Array Value} {t : TypeId} {fr : Nat × Nat} (vs : List Value) (h : sg G (ob b (.cells cs t fr) :: L) H) (hc : cold cs fr) (hv : ∀ v ∈ vs, v.oneCell' = true)
    (hl : off + vs.length ≤ cs.size) : ∃ H', Hp.stl H ⟨b, off, none⟩ 0 vs = some H' ∧ sg G (ob b (.cells (putL cs off vs) t fr) :: L) H' := by
  obtain ⟨H', h1, h2⟩ := seps_stl vs (off := off) (i := 0) h.2 hc hv (by omega)
  exact ⟨H', h1, stl_disj vs h.1 h1, h2⟩
/-- A piece replaced by others that follow from it. -/
theorem sg.open_ {A : Asn} {M : List Asn} (h : sg G (A :: L) H) (k : ∀ H, H.disj G → A H → seps M H) : sg G (M ++ L) H := by
  obtain ⟨hd, H1, H2, rfl, hd2, ha, h2⟩ := h
  exact ⟨hd, seps_append.2 ⟨H1, H2, rfl, hd2, k H1 (Hp.un_disj.1 hd).1 ha, h2⟩⟩
/-- Pieces closed to one. -/
theorem sg.shut {A : Asn} (M : List Asn) (h : sg G (M ++ L) H) (k : ∀ H, H.disj G → seps M H → A H) : sg G (A :: L) H := by
  obtain ⟨hd, h⟩ := h
  obtain ⟨H1, H2, rfl, hd2, h1, h2⟩ := seps_append.1 h
  exact ⟨hd, H1, H2, rfl, hd2, k H1 (Hp.un_disj.1 hd).1 h1, h2⟩
/-- What follows of the first piece, in the whole. -/
theorem sg.get {A : Asn} (h : sg G (A :: L) H) : ∃ H1, H1.disj G ∧ A H1 ∧ H1.le H ∧ (H1.un G).le (H.un G) := by
  obtain ⟨hd, H1, H2, rfl, hd2, ha, h2⟩ := h
  have hdd := Hp.un_disj.1 hd
  refine ⟨H1, hdd.1, ha, fun b o hb => by unfold Hp.un; rw [hb], fun b o hb => ?_⟩
  unfold Hp.un at hb ⊢
  cases e1 : H1 b with
  | some x => rw [e1] at hb; exact hb
  | none =>
    rw [e1] at hb
    simp only at hb ⊢
    rcases hdd.2 b with q | q
    · rw [q]; exact hb
    · rw [q] at hb; cases hb
end

/-! ### contracts -/
/-- Called with these, what it owns being these pieces: a value, and pieces, of which R tells. -/
def Con (P : Program) (G : Hp) (f : FuncId) (args : List Value) (A : List Asn) (R : Value → List Asn → Prop) : Prop :=
  ∀ H, sg G A H → CallsH P G f args.toArray H fun z H' => ∃ v B, z = .returned v ∧ R v B ∧ seps B H'
theorem CallsH.ok {P : Program} {G : Hp} {f : FuncId} {args : Array Value} {H : Hp} {R : Ending → Hp → Prop} (h : CallsH P G f args H R) : CallsH P G f args H fun z H' => R z H' ∧ H'.disj G :=
  fun w o => (h w o).mono fun z w' ⟨H', a, b, c⟩ => ⟨H', ⟨a, b.dj⟩, b, c⟩
theorem Con.use {P : Program} {G : Hp} {f : FuncId} {args : List Value} {A L : List Asn} {R : Value → List Asn → Prop} (s : Con P G f args A R) {H : Hp} (h : sg G (A ++ L) H) {K : Value → Hp → Prop}
    (k : ∀ v B H', R v B → sg G (B ++ L) H' → K v H') : CallsH P G f args.toArray H (retK K) := by
  obtain ⟨hd0, h⟩ := h
  obtain ⟨H1, H2, rfl, hd, h1, h2⟩ := seps_append.1 h
  have hdd := Hp.un_disj.1 hd0
  refine (CallsH.ok (CallsH.frame (s H1 ⟨hdd.1, h1⟩) hd)).mono ?_
  rintro z H' ⟨⟨H3, rfl, hd3, v, B, rfl, hR, hB⟩, hg⟩
  exact k v B _ hR ⟨hg, seps_append.2 ⟨H3, H2, rfl, hd3, hB, h2⟩⟩
/-- The end of a body: a value, and pieces. -/
def fin (R : Value → List Asn → Prop) : Ending → Hp → Prop := fun z H' => ∃ v B, z = .returned v ∧ R v B ∧ seps B H'
theorem fin_ret {R : Value → List Asn → Prop} {v : Value} {H G : Hp} {B : List Asn} (h : sg G B H) (hR : R v B) : fin R (.returned v) H := ⟨v, B, rfl, hR, h.2⟩
theorem seps_take {B L : List Asn} : ∀ {H : Hp}, seps (B ++ L) H → seps B H := by
  intro H h
  obtain ⟨H1, H2, rfl, hd, h1, h2⟩ := seps_append.1 h
  rw [Hp.un_comm hd]
  exact seps_more (Hp.disj_symm hd) h1
/-- The end of a body: the first pieces. -/
theorem fin_take {R : Value → List Asn → Prop} {v : Value} {H G : Hp} {B L : List Asn} (h : sg G (B ++ L) H) (hR : R v B) : fin R (.returned v) H := ⟨v, B, rfl, hR, seps_take h.2⟩
/-- A call inside a walk: the pieces that it wants are brought to the front. -/
theorem Con.at_ {P : Program} {G : Hp} {f : FuncId} {args : List Value} {A : List Asn} {R : Value → List Asn → Prop} (s : Con P G f args A R) {L : List Asn} {H : Hp} (h : sg G L H) (is : List Nat) (M : List Asn)
    (e : fronts L is = A ++ M) {K : Value → Hp → Prop} (k : ∀ v B H', R v B → sg G (B ++ M) H' → K v H') : CallsH P G f args.toArray H (retK K) :=
  s.use (by rw [← e]; exact sg.fronts is h) k
theorem Con.intro {P : Program} {G : Hp} {f : FuncId} {fn : Func} {c : Code} {args : List Value} {A : List Asn} {R : Value → List Asn → Prop} {rs : List ResultVar}
    (hf : P.funcs[f]? = some fn) (hb : fn.body = some c) (hn : args.length ≤ fn.ntmps) (hd : dsts fn.ntmps c = true) (hr : fn.results = rs.toArray)
    (h : ∀ H, sg G A H → cl P G c (endH P G rs (fin R)) (fun t => args.getD t undef) H) : Con P G f args A R :=
  fun H hH => enter hf hb (by simpa using hn) hd hr (h H hH)
end Go.Sl
