/- Loops; what is lent; slices built, converted. -/
import Derived.Test.YtanhmbdcdbcfmaaSlice
set_option linter.unusedVariables false
set_option linter.unusedSimpArgs false
namespace Go.Sl
open Go
/-! ### loops -/
theorem least_ex {α : Type} (I : α → Prop) (μ : α → Nat) : ∀ (n : Nat) (a : α), I a → μ a = n → ∃ b, I b ∧ ∀ c, I c → μ b ≤ μ c := by
  intro n
  induction n using Nat.strongRecOn with
  | _ n ih =>
    intro a ha hn
    by_cases h : ∃ c, I c ∧ μ c < μ a
    · obtain ⟨c, h1, h2⟩ := h
      exact ih (μ c) (by omega) c h1 rfl
    · refine ⟨a, ha, fun c hc => ?_⟩
      by_cases q : μ a ≤ μ c
      · exact q
      · exact absurd ⟨c, hc, by omega⟩ h
open Classical in
noncomputable def least {α : Type} (I : α → Prop) (μ : α → Nat) : Nat := if h : ∃ b, I b ∧ ∀ c, I c → μ b ≤ μ c then μ (Classical.choose h) else 0
theorem least_at {α : Type} {I : α → Prop} {μ : α → Nat} {a : α} (h : I a) : ∃ b, I b ∧ μ b = least I μ ∧ ∀ c, I c → least I μ ≤ μ c := by
  classical
  have q := least_ex I μ _ a h rfl
  unfold least
  rw [dif_pos q]
  have := Classical.choose_spec q
  exact ⟨_, this.1, rfl, this.2⟩
theorem least_le {α : Type} {I : α → Prop} {μ : α → Nat} {a : α} (h : I a) : least I μ ≤ μ a := by
  obtain ⟨b, _, _, k⟩ := least_at (μ := μ) h
  exact k a h
/-- Behind a round: the next state, and less to go. -/
def Inv {α : Type} (I : α → Env → Hp → Prop) (μ : α → Nat) (a : α) (e : Env) (H : Hp) : Prop := ∃ a', μ a' < μ a ∧ I a' e H
theorem Inv.go {α : Type} {I : α → Env → Hp → Prop} {μ : α → Nat} {a : α} {e : Env} {H : Hp} (a' : α) (h : μ a' < μ a) (k : I a' e H) : Inv I μ a e H := ⟨a', h, k⟩
theorem cl_loop {P : Program} {G : Hp} {α : Type} {c : Code} {Q : Post} {e : Env} {H : Hp} (I : α → Env → Hp → Prop) (μ : α → Nat) (a : α) (h0 : I a e H)
    (h : ∀ a e H, I a e H → cl P G c (thenH (Inv I μ a) Q) e H) : cl P G (.loop c) Q e H := by
  refine ⟨fun e H => ∃ a, I a e H, fun e H => least (fun a => I a e H) μ, ⟨a, h0⟩, fun e H ⟨a, ha⟩ => ?_⟩
  obtain ⟨b, hb, hm, _⟩ := least_at (I := fun a => I a e H) (μ := μ) ha
  refine den_mono ?_ (h b e H hb)
  intro o e' H' ho
  cases o with
  | normal =>
    obtain ⟨a', q1, q2⟩ := ho
    refine ⟨⟨a', q2⟩, Nat.lt_of_le_of_lt (least_le q2) ?_⟩
    show μ a' < least (fun a => I a e H) μ
    rw [← hm]; exact q1
  | _ => exact ho
/-! ### what is lent is only read -/
theorem CallsH.lend {P : Program} {G : Hp} {f : FuncId} {args : Array Value} {H F : Hp} {R : Ending → Hp → Prop} (h : CallsH P (F.un G) f args H R) (hd : H.disj F) (hg : F.disj G) :
    CallsH P G f args (H.un F) (fun e H' => ∃ H1, H' = H1.un F ∧ H1.disj F ∧ R e H1) := by
  intro w o
  have hF : ∀ b ob, F b = some ob → w.heap[b]? = some ob ∧ H b = none ∧ G b = none := by
    intro b ob hb
    have hn : H b = none := by
      rcases hd b with q | q
      · exact q
      · rw [hb] at q; cases q
    have hu : (H.un F) b = some ob := by unfold Hp.un; rw [hn]; exact hb
    refine ⟨o.own _ _ hu, hn, ?_⟩
    rcases o.dj b with q | q
    · rw [hu] at q; cases q
    · exact q
  have o1 : Ok (F.un G) H w := by
    refine ⟨fun b ob hb => o.own b ob (by unfold Hp.un; rw [hb]), fun b ob hb => ?_, ?_⟩
    · unfold Hp.un at hb
      cases e : F b with
      | some x => rw [e] at hb; cases hb; exact (hF _ _ e).1
      | none => rw [e] at hb; exact o.ro b ob hb
    · refine Hp.disj_un.2 ⟨hd, fun b => ?_⟩
      rcases o.dj b with q | q
      · refine .inl ?_
        unfold Hp.un at q
        cases e : H b with
        | none => rfl
        | some x => rw [e] at q; cases q
      · exact .inr q
  refine (h w o1).mono fun e w' ⟨H', hR, o', x⟩ => ?_
  obtain ⟨hd', hg'⟩ := Hp.disj_un.1 o'.dj
  refine ⟨H'.un F, ⟨H', rfl, hd', hR⟩, ⟨?_, ?_, ?_⟩, ⟨x.os, x.tape, x.output, x.size, ?_, ?_⟩⟩
  · intro b ob hb
    unfold Hp.un at hb
    cases e1 : H' b with
    | some ob1 => rw [e1] at hb; cases hb; exact o'.own _ _ e1
    | none => rw [e1] at hb; exact o'.ro b ob (by unfold Hp.un; simp only at hb; rw [hb])
  · intro b ob hb
    refine o'.ro b ob ?_
    unfold Hp.un
    rcases hg b with q | q
    · rw [q]; exact hb
    · rw [q] at hb; cases hb
  · exact Hp.un_disj.2 ⟨hg', hg⟩
  · intro b hb hn
    refine x.keep b hb ?_
    unfold Hp.un at hn
    cases e1 : H b with
    | none => rfl
    | some z => rw [e1] at hn; cases hn
  · intro b hn
    unfold Hp.un at hn ⊢
    cases e1 : H b with
    | some z => exact .inl (by simp)
    | none =>
      cases e2 : H' b with
      | some z =>
        rcases x.dom b (by simp [e2]) with q | q
        · exact absurd e1 q
        · exact .inr q
      | none => rw [e2] at hn; exact .inl hn
/-- A call that is lent some pieces. -/
theorem Con.lend {P : Program} {G : Hp} {f : FuncId} {args : List Value} {A M L : List Asn} {R : Value → List Asn → Prop} {H : Hp} (h : sg G (A ++ (M ++ L)) H)
    (s : ∀ F, F.disj G → seps M F → Con P (F.un G) f args A R) {K : Value → Hp → Prop}
    (k : ∀ v B H', R v B → sg G (B ++ (M ++ L)) H' → K v H') : CallsH P G f args.toArray H (retK K) := by
  obtain ⟨hd0, h⟩ := h
  obtain ⟨H1, H2, rfl, hd, h1, h2⟩ := seps_append.1 h
  obtain ⟨F, H3, rfl, hd3, h3, h4⟩ := seps_append.1 h2
  -- H1 called, F lent, H3 beside
  obtain ⟨d1, d0⟩ := Hp.un_disj.1 hd0
  obtain ⟨dF, d3⟩ := Hp.un_disj.1 d0
  obtain ⟨e1, e2⟩ := Hp.disj_un.1 hd
  have hh : H1.un (F.un H3) = (H1.un F).un H3 := (Hp.un_assoc _ _ _).symm
  rw [hh]
  have c1 := CallsH.lend (s F dF h3 H1 ⟨Hp.disj_un.2 ⟨e1, d1⟩, h1⟩) e1 dF
  have c2 := CallsH.ok (CallsH.frame c1 (Hp.un_disj.2 ⟨e2, hd3⟩))
  refine c2.mono ?_
  rintro z H' ⟨⟨H4, rfl, hd4, H5, rfl, hd5, v, B, rfl, hR, hB⟩, hg⟩
  obtain ⟨g1, g2⟩ := Hp.un_disj.1 hd4
  refine k v B _ hR ⟨hg, ?_⟩
  rw [Hp.un_assoc]
  exact seps_append.2 ⟨H5, F.un H3, rfl, Hp.disj_un.2 ⟨hd5, g1⟩, hB, seps_append.2 ⟨F, H3, rfl, g2, h3, h4⟩⟩
theorem Con.lend_at {P : Program} {G : Hp} {f : FuncId} {args : List Value} (A M : List Asn) {L L' : List Asn} {R : Value → List Asn → Prop} {H : Hp} (h : sg G L H) (is : List Nat) (e : fronts L is = A ++ (M ++ L'))
    (s : ∀ F, F.disj G → seps M F → Con P (F.un G) f args A R) {K : Value → Hp → Prop}
    (k : ∀ v B H', R v B → sg G (B ++ (M ++ L')) H' → K v H') : CallsH P G f args.toArray H (retK K) :=
  Con.lend (by rw [← e]; exact sg.fronts is h) s k
/-! ### what is read of the rest -/
theorem un_le_r {H G : Hp} (hd : H.disj G) : G.le (H.un G) := fun b o hb => by
  unfold Hp.un
  rcases hd b with q | q
  · rw [q]; exact hb
  · rw [q] at hb; cases hb
theorem un_le_l {H G : Hp} : H.le (H.un G) := fun b o hb => by unfold Hp.un; rw [hb]
theorem sg.ro {G H : Hp} {L : List Asn} (h : sg G L H) {sz : Nat} {v : Value} {xs : List Value} (r : Sl.rds G sz v xs) : Sl.rds (H.un G) sz v xs := r.mono (un_le_r h.1)
theorem sg.roc {G H : Hp} {L : List Asn} (h : sg G L H) {a : Addr} {v : Value} (r : G.cell a = some v) : (H.un G).cell a = some v := Hp.le_cell (un_le_r h.1) r
theorem seps_i {L : List Asn} {H : Hp} (h : seps L H) (i : Nat) {A : Asn} (hi : L[i]? = some A) : ∃ H1, A H1 ∧ H1.le H := by
  have h1 := seps_front i h
  unfold Sl.front at h1
  rw [hi] at h1
  exact seps_get h1
theorem rds.left {H G : Hp} {sz : Nat} {v : Value} {xs : List Value} (h : rds H sz v xs) : rds (H.un G) sz v xs := h.mono un_le_l
theorem own_rds0 {e : TypeId} {sz : Nat} {v : Value} {xs : List Value} {H : Hp} (h : own e sz v xs H) : rds H sz v xs := by
  have := own_rds (G := Hp.emp) h
  rwa [Hp.un_emp] at this
theorem seps_own {L : List Asn} {H : Hp} (h : seps L H) (i : Nat) {e : TypeId} {sz : Nat} {v : Value} {xs : List Value} (hi : L[i]? = some (own e sz v xs)) : rds H sz v xs := by
  obtain ⟨H1, h1, h2⟩ := seps_i h i hi
  exact (own_rds0 h1).mono h2
/-! ### stores -/
theorem sg.st {G H : Hp} {L : List Asn} {b off : Nat} {cs : Array Value} {t : TypeId} {vs : List Value} (h : sg G (ob b (.cells cs t (0, 0)) :: L) H) (h1 : vs.all Value.oneCell' = true)
    (h2 : Nat.ble (off + vs.length) cs.size = true) {K : Hp → Prop} (k : ∀ H', sg G (ob b (.cells (putL cs off vs) t (0, 0)) :: L) H' → K H') : St (Hp.stl H ⟨b, off, none⟩ 0 vs) K := by
  obtain ⟨H', e1, e2⟩ := h.stl vs (.inl rfl) (by simpa using h1) (Nat.le_of_ble_eq_true h2)
  exact ⟨H', e1, k H' e2⟩
/-! ### elements -/
theorem rds.at {R : Hp} {sz : Nat} {a : Option Addr} {n c : Nat} {xs : List Value} (h : rds R sz (.slice a n c) xs) {i : Nat} (hi : i < n) (hs : 0 < sz) :
    ∃ b off, a = some ⟨b, off, none⟩ ∧ (∀ k, k < sz → R.cell ⟨b, off + i * sz + k, none⟩ = xs[i * sz + k]?) ∧ ldl R ⟨b, off + i * sz, none⟩ 0 sz = some ((xs.drop (i * sz)).take sz) := by
  obtain ⟨a', n', c', h1, h2, h3, h4⟩ := h
  cases h1
  have hm : i * sz + sz ≤ n * sz := by rw [← Nat.succ_mul]; exact Nat.mul_le_mul_right _ hi
  rcases h4 with rfl | ⟨b, off, rfl, h5⟩
  · rw [List.length_nil] at h2; omega
  · refine ⟨b, off, rfl, fun k hk => ?_, ?_⟩
    · rw [Nat.add_assoc]; exact h5 _ (by omega)
    · have := ldl_of (R := R) (b := b) (off := off + i * sz) (xs := (xs.drop (i * sz)).take sz) (fun j hj => by
        rw [List.length_take, List.length_drop] at hj
        rw [Nat.add_assoc, h5 _ (by omega), List.getElem?_take_of_lt (by omega), List.getElem?_drop]) sz 0 (by rw [List.length_take, List.length_drop]; omega)
      rw [this, List.drop_zero, List.take_take, Nat.min_self]
theorem rds.at1 {R : Hp} {a : Option Addr} {n c : Nat} {xs : List Value} (h : rds R 1 (.slice a n c) xs) {i : Nat} (hi : i < n) :
    ∃ b off, a = some ⟨b, off, none⟩ ∧ R.cell ⟨b, off + i, none⟩ = xs[i]? := by
  obtain ⟨b, off, h1, h2, h3⟩ := h.at hi (Nat.le_refl 1)
  refine ⟨b, off, h1, ?_⟩
  have := h2 0 (by omega)
  simpa using this
/-- A list of elements, each of so many cells. -/
theorem flat_at {α : Type} {enc : α → List Value} {sz : Nat} (he : ∀ x, (enc x).length = sz) : ∀ {l : List α} {i : Nat} (hi : i < l.length), ((l.flatMap enc).drop (i * sz)).take sz = enc l[i]
  | [], i, hi => by simp at hi
  | x :: l, 0, hi => by simp only [List.flatMap_cons, Nat.zero_mul, List.drop_zero, List.getElem_cons_zero]; rw [← he x, List.take_left']; rfl
  | x :: l, i + 1, hi => by
    simp only [List.flatMap_cons, List.getElem_cons_succ]
    rw [Nat.add_mul, Nat.one_mul, Nat.add_comm, ← he x, ← List.drop_drop, List.drop_left' rfl, he x]
    exact flat_at he (by simpa using hi)
theorem flat_len {α : Type} {enc : α → List Value} {sz : Nat} (he : ∀ x, (enc x).length = sz) : ∀ {l : List α}, (l.flatMap enc).length = l.length * sz
  | [] => by simp
  | x :: l => by rw [List.flatMap_cons, List.length_append, he, flat_len he, List.length_cons, Nat.add_mul]; omega
theorem rds.el {R : Hp} {sz : Nat} {a : Option Addr} {n c : Nat} {α : Type} {enc : α → List Value} {l : List α} (h : rds R sz (.slice a n c) (l.flatMap enc)) (he : ∀ x, (enc x).length = sz) {i : Nat} (hi : i < n) (hs : 0 < sz) :
    ∃ b off, ∃ hl : i < l.length, a = some ⟨b, off, none⟩ ∧ (∀ k, k < sz → R.cell ⟨b, off + i * sz + k, none⟩ = (enc l[i])[k]?) ∧ ldl R ⟨b, off + i * sz, none⟩ 0 sz = some (enc l[i]) := by
  obtain ⟨a', n', c', h1, h2, h3, h4⟩ := id h
  cases h1
  rw [flat_len he] at h2
  have hl : i < l.length := by rw [Nat.eq_of_mul_eq_mul_right hs h2]; exact hi
  obtain ⟨b, off, q1, q2, q3⟩ := h.at hi hs
  refine ⟨b, off, hl, q1, fun k hk => ?_, ?_⟩
  · rw [q2 k hk, ← flat_at he hl, List.getElem?_take_of_lt hk, List.getElem?_drop]
  · rw [q3, flat_at he hl]
section
variable {P : Program} {R G : Hp} {e : Env} {d : Option Tmp} {ty : TypeId} {p : String} {af : Array Edge} {g : Option (Nat × Bool)}
/-! ### cap -/
def rCap (P : Program) (R : Hp) (t : TypeId) (v : Value) : Option Next := vl (rd P R (Builtin.cap_ #[t] 0 #[v]))
theorem rd_cap (t : TypeId) (x : Operand) : rd P R (execOp e.ev ⟨d, .call ⟨.builtin .cap, #[x], #[t]⟩, ty, p, af, g⟩) = rCap P R t (e.ev x) := by
  rw [exec_builtin, map1]
  exact rd_vl (Builtin.cap_ #[t] ty #[e.ev x])
theorem rCap_slice {t : TypeId} (h : slIs P t = true) (a : Option Addr) (n c : Nat) : rCap P R t (.slice a n c) = some (.value (.int .i64 c)) := by
  obtain ⟨h1, h2⟩ := slIs_spec h
  unfold rCap Builtin.cap_
  show vl (rd P R (underlying t >>= _)) = _
  rw [rd_bind, rd_underlying, h1]; rfl
/-! ### a slice built -/
def flatC (ps : List (Nat × Value)) : List Value := ps.flatMap fun q => q.2.cells.toList
def fullB (sz : Nat) : Nat → List (Nat × Value) → Option Nat
  | i, [] => some i
  | i, (j, v) :: r => if j = i ∧ v.cells.toList.length = sz then fullB sz (i + 1) r else none
theorem fullB_nil {sz i : Nat} : fullB sz i [] = some i := (rfl)
theorem fullB_cons {sz i j : Nat} {v : Value} {r : List (Nat × Value)} : fullB sz i ((j, v) :: r) = if j = i ∧ v.cells.toList.length = sz then fullB sz (i + 1) r else none := (rfl)
theorem splice_take {l vs : List Value} {off : Nat} (h : off ≤ l.length) : (splice l off vs).take (off + vs.length) = l.take off ++ vs := by
  unfold splice
  rw [← List.append_assoc]
  exact List.take_left' (by rw [List.length_append, List.length_take, Nat.min_eq_left h])
theorem splice_len {l vs : List Value} {off : Nat} (h : off + vs.length ≤ l.length) : (splice l off vs).length = l.length := by
  unfold splice
  simp only [List.length_append, List.length_take, List.length_drop]
  omega
theorem fill_full {sz n : Nat} (ps : List (Nat × Value)) : ∀ {i : Nat} {cells : Array Value}, fullB sz i ps = some n → cells.size = n * sz →
    Instr.fill (fun i => some (i * sz, sz)) cells ps = some (cells.toList.take (i * sz) ++ flatC ps).toArray := by
  induction ps with
  | nil =>
    intro i cells h hc
    cases h
    simp only [Instr.fill, flatC, List.flatMap_nil, List.append_nil]
    rw [List.take_of_length_le (by simp [hc])]
  | cons q ps ih =>
    intro i cells h hc
    obtain ⟨j, v⟩ := q
    rw [fullB_cons] at h
    split at h
    · rename_i hj
      obtain ⟨rfl, hv⟩ := hj
      have hle : ∀ (ps : List (Nat × Value)) (i : Nat), fullB sz i ps = some n → i ≤ n := by
        intro ps
        induction ps with
        | nil => intro i h; cases h; exact Nat.le_refl _
        | cons q ps ih =>
          obtain ⟨j, v⟩ := q
          intro i h
          rw [fullB_cons] at h
          split at h
          · have := ih _ h; omega
          · cases h
      have hn := hle ps _ h
      have hm : (j + 1) * sz ≤ n * sz := Nat.mul_le_mul_right _ hn
      rw [Nat.add_mul, Nat.one_mul] at hm
      rw [Array.length_toList] at hv
      unfold Instr.fill
      simp only
      rw [if_neg (by simp [hv]; omega)]
      have hf := foldl_set v.cells.toList cells (j * sz) 0 (by simp [hv]; omega)
      have hsp := splice_take (l := cells.toList) (off := j * sz) (vs := v.cells.toList) (by simp; omega)
      have hz : (splice cells.toList (j * sz) v.cells.toList).length = n * sz := by
        rw [splice_len (by simp [hv]; omega)]; simpa using hc
      rw [show (v.cells.zipIdx.foldl (fun cs (x : Value × Nat) => cs.setIfInBounds (j * sz + x.2) x.1) cells) = (splice cells.toList (j * sz) v.cells.toList).toArray by
        rw [← Array.foldl_toList, Array.toList_zipIdx]
        rw [Nat.add_zero] at hf
        rw [← hf]]
      rw [ih h (by simpa using hz)]
      unfold flatC
      rw [List.flatMap_cons, Nat.add_mul, Nat.one_mul]
      have hvl : v.cells.toList.length = sz := by simpa using hv
      rw [hvl] at hsp
      simp only
      rw [hsp, List.append_assoc]
    · cases h
end
end Go.Sl
