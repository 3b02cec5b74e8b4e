/- Loops over functions: their records; their rounds; what calls yield. -/
import Derived.Test.YtanhmbdcdbcfmaaClr
import Derived.Test.YtanhmbdcdbcfmaaBlob
set_option linter.unusedVariables false
set_option linter.unusedSimpArgs false
namespace Go.Sl
open Go
/-- A loop's function of its rounds. -/
abbrev yldv (l : Nat) : Value := .func (.yield l) #[] #[]
/-- A loop's record: what stands in it for good. -/
structure RfRec (e : Env) (ps : List Tmp) (assign body : Code) (rec : Loop) : Prop where
  tm : ∀ t, rec.tmps.getD t undef = e t
  pr : rec.params = ps.toArray
  as : rec.assign = assign
  bd : rec.body = body
  lt : ∀ t ∈ ps, t < rec.tmps.size
  d1 : dsts rec.tmps.size assign = true
  d2 : dsts rec.tmps.size body = true
  p1 : plain assign = true
  p2 : plain body = true
/-- A loop's record, in a state, with a jump that waits. -/
def lp (l : Nat) (rec : Loop) (st : LoopState) (j : Option Code) : Asn := ob l (.loop { rec with state := st, pending := j })
/-- Behind the function that was ranged over. -/
def rfK (P : Program) (G : Hp) (l : Nat) (Q : Post) (e : Env) : Value → Hp → Prop := fun _ H => wpH P G (Instr.endLoop l) H (fun j H' => jumpQ Q e H' j) (fun _ _ => False)
section
variable {P : Program} {G : Hp}
theorem rf_at {g : Operand} {ps : List Tmp} {a b : Code} {Q : Post} {e : Env} {H : Hp} {L : List Asn} {k : FuncId} {first cap : List Value} (h : sg G L H) (hg : e.ev g = .func (.func k) first.toArray cap.toArray) (hgo : goes P k = true)
    (kk : ∀ l rec H', RfRec e ps a b rec → sg G (lp l rec .ready none :: L) H' → CallsH P G k (first ++ (yldv l :: cap)).toArray H' (retK (rfK P G l Q e))) : cl P G (.rangeFunc g ps.toArray a b) Q e H := by
  intro l r fn tmps n1 n2 e1 e2 d1 d2 p1 p2
  rw [wpH_bind]
  unfold resolve
  simp only [rangeCall, hg]
  have key : ∀ (H : Hp) (K : Next → Hp → Prop), wpH P G (Deferred.ofValue (Value.func (Fn.func k) first.toArray cap.toArray) (Array.map e.ev #[Operand.const (yldv l)])) H (fun a H' => wpH P G (invoke a.target a.args) H' K (fun _ _ => False)) (fun _ _ => False)
      = wpH P G (callFunc k (first.toArray ++ #[yldv l] ++ cap.toArray)) H K (fun _ _ => False) := by
    intro H K
    have em : Array.map e.ev #[Operand.const (yldv l)] = #[yldv l] := by simp [Env.ev]
    rw [em]
    rfl
  rw [key, wpH_callFunc hgo]
  have ea : first.toArray ++ #[yldv l] ++ cap.toArray = (first ++ (yldv l :: cap)).toArray := by simp
  show CallsH P G k (first.toArray ++ #[yldv l] ++ cap.toArray) _ _
  rw [ea]
  refine (kk l { state := .ready, pending := none, fn, tmps, params := ps.toArray, assign := a, body := b, defers := r } _ ⟨e1, rfl, rfl, rfl, ?_, d1, d2, p1, p2⟩ (h.new n1 n2 _)).mono ?_
  · intro t ht
    rw [Array.all_eq_true'] at e2
    exact of_decide_eq_true (e2 t (by simpa using ht))
  · intro z H' hz
    cases z with
    | returned v => exact hz
    | _ => exact hz.elim
theorem getO {l : Nat} {rec : Loop} {H : Hp} (h : H l = some (.loop rec)) : ∃ o, (H.un G) l = some o ∧ Obj.isCells o = false ∧ o = .loop rec := ⟨.loop rec, by unfold Hp.un; rw [h], rfl, rfl⟩
theorem rf_end {l : Nat} {rec : Loop} {st : LoopState} {j : Option Code} {Q : Post} {e : Env} {v : Value} {H : Hp} {L : List Asn} (h : sg G (lp l rec st j :: L) H) (hst : (st == .busy) = false) (k : ∀ H', sg G L H' → jumpQ Q e H' j) : rfK P G l Q e v H := by
  have hl : H l = some (.loop { rec with state := st, pending := j }) := seps_ob h.2
  unfold rfK Instr.endLoop Instr.getLoop
  refine ⟨_, by unfold Hp.un; rw [hl], rfl, ?_⟩
  show wpH P G (if (st == LoopState.busy) = true then _ else _) H _ _
  rw [hst]
  simp only [Bool.false_eq_true, if_false]
  refine ⟨⟨_, hl, rfl⟩, ?_⟩
  exact k _ (h.upd (fun _ => .loop { rec with state := .exhausted, pending := j })).tail
/-- Called with these, a loop's round. -/
def Yd (P : Program) (G : Hp) (l : Nat) (args : List Value) (A : List Asn) (R : Value → List Asn → Prop) : Prop :=
  ∀ H, sg G A H → ∃ rec : Loop, H l = some (.loop rec) ∧ args.length = rec.params.size ∧
    NxH P G (.round l rec.fn ((rec.params.zip args.toArray).foldl (fun tmps (t, a) => tmps.setIfInBounds t a) rec.tmps) rec.assign rec.body) H (fin R)
theorem NxH.ok {nx : Next} {H : Hp} {R : Ending → Hp → Prop} (h : NxH P G nx H R) : NxH P G nx H fun z H' => R z H' ∧ H'.disj G :=
  fun w o => (h w o).mono fun z w' ⟨H', a, b, c⟩ => ⟨H', ⟨a, b.dj⟩, b, c⟩
/-- A call of yield inside a walk. -/
theorem Yd.at_ {l : Nat} {args : List Value} {A : List Asn} {R : Value → List Asn → Prop} (s : Yd P G l args A R) {L : List Asn} {H : Hp} (h : sg G L H) (is : List Nat) (M : List Asn)
    (e : fronts L is = A ++ M) {K : Value → Hp → Prop} (k : ∀ v B H', R v B → sg G (B ++ M) H' → K v H') : opCallV P G (yldv l) args H K := by
  have h0 : sg G (A ++ M) H := by rw [← e]; exact sg.fronts is h
  obtain ⟨hd0, h1⟩ := h0
  obtain ⟨H1, H2, rfl, hd, h1, h2⟩ := seps_append.1 h1
  have hdd := Hp.un_disj.1 hd0
  obtain ⟨rec, hl, ha, hn⟩ := s H1 ⟨hdd.1, h1⟩
  unfold opCallV opV
  show wpH P G (Instr.yield l (#[] ++ args.toArray ++ #[])) _ _ _
  have ea : (#[] ++ args.toArray ++ #[] : Array Value) = args.toArray := by simp
  rw [ea]
  unfold Instr.yield Instr.getLoop
  refine ⟨.loop rec, by unfold Hp.un; rw [hl], rfl, ?_⟩
  show wpH P G (if args.toArray.size ≠ rec.params.size then _ else _) _ _ _
  rw [if_neg (by simpa using ha)]
  show NxH P G _ _ (retK K)
  refine (NxH.ok (NxH.frame hn hd)).mono ?_
  rintro z H' ⟨⟨H3, rfl, hd3, v, B, rfl, hR, hB⟩, hg⟩
  exact k v B _ hR ⟨hg, seps_append.2 ⟨H3, H2, rfl, hd3, hB, h2⟩⟩
/-- The way to a round's body. -/
def rbK (P : Program) (G : Hp) (l : Nat) (b : Code) (R : Value → List Asn → Prop) (e : Env) (H : Hp) : Prop := wpH P G (Instr.beginRound l) H (fun _ H' => cl P G b (roundQ P G l (fin R)) e H') (fun _ _ => False)
def noQ : Post := fun _ _ _ => False
theorem rb_at {l : Nat} {rec : Loop} {b : Code} {R : Value → List Asn → Prop} {e : Env} {H : Hp} {L : List Asn} {j : Option Code} (h : sg G (lp l rec .ready j :: L) H)
    (k : ∀ H', sg G (lp l rec .busy j :: L) H' → cl P G b (roundQ P G l (fin R)) e H') : rbK P G l b R e H := by
  have hl : H l = some (.loop { rec with state := .ready, pending := j }) := seps_ob h.2
  unfold rbK Instr.beginRound Instr.getLoop
  refine ⟨_, by unfold Hp.un; rw [hl], rfl, ?_⟩
  refine ⟨⟨_, hl, rfl⟩, ?_⟩
  exact k _ (h.upd (fun _ => .loop { rec with state := .busy, pending := j }))
theorem endR {l : Nat} {rec : Loop} {R : Value → List Asn → Prop} {H : Hp} {L : List Asn} {j : Option Code} (jump : Option Code) (h : sg G (lp l rec .busy j :: L) H)
    (hR : ∃ B L', L = B ++ L' ∧ R (.bool jump.isNone) (lp l rec (if jump.isNone then .ready else .done) jump :: B)) : wpH P G (Instr.endRound l jump) H (fun v H' => fin R (.returned v) H') (fun _ _ => False) := by
  have hl : H l = some (.loop { rec with state := .busy, pending := j }) := seps_ob h.2
  obtain ⟨B, L', rfl, hR⟩ := hR
  unfold Instr.endRound Instr.getLoop
  refine ⟨_, by unfold Hp.un; rw [hl], rfl, ?_⟩
  refine ⟨⟨_, hl, rfl⟩, ?_⟩
  exact ⟨_, _, rfl, hR, seps_take (B := lp l rec (if jump.isNone then .ready else .done) jump :: B) (h.upd (fun _ => .loop { rec with state := if jump.isNone then .ready else .done, pending := jump })).2⟩
/-- A round that goes off its end. -/
theorem rq_end {l : Nat} {rec : Loop} {R : Value → List Asn → Prop} {e : Env} {H : Hp} {L : List Asn} {j : Option Code} (B L' : List Asn) (h : sg G (lp l rec .busy j :: (B ++ L')) H)
    (hR : R (.bool true) (lp l rec .ready none :: B)) : roundQ P G l (fin R) .normal e H := endR none h ⟨B, L', rfl, hR⟩
theorem rq_ret {l : Nat} {rec : Loop} {R : Value → List Asn → Prop} {e : Env} {H : Hp} {L : List Asn} {j : Option Code} (B L' : List Asn) (h : sg G (lp l rec .busy j :: (B ++ L')) H)
    (hR : R (.bool false) (lp l rec .done (some .ret) :: B)) : roundQ P G l (fin R) .ret e H := endR (some .ret) h ⟨B, L', rfl, hR⟩
theorem rq_exit {l id : Nat} {rec : Loop} {R : Value → List Asn → Prop} {e : Env} {H : Hp} {L : List Asn} {j : Option Code} (B L' : List Asn) (h : sg G (lp l rec .busy j :: (B ++ L')) H)
    (hR : R (.bool false) (lp l rec .done (some (.exit id)) :: B)) : roundQ P G l (fin R) (.exit id) e H := endR (some (.exit id)) h ⟨B, L', rfl, hR⟩
def putAll (e : Env) : List Tmp → List Value → Env
  | t :: ts, v :: vs => putAll (e.put (some t) v) ts vs
  | _, _ => e
theorem getD_put : ∀ (ps : List Tmp) (args : List Value) (tmps : Array Value) (e : Env), (∀ t, tmps.getD t undef = e t) → (∀ t ∈ ps, t < tmps.size) →
    (∀ t, ((ps.zip args).foldl (fun (tmps : Array Value) (x : Tmp × Value) => tmps.setIfInBounds x.1 x.2) tmps).getD t undef = putAll e ps args t) ∧ ((ps.zip args).foldl (fun (tmps : Array Value) (x : Tmp × Value) => tmps.setIfInBounds x.1 x.2) tmps).size = tmps.size
  | [], _, tmps, e, h, _ => ⟨fun t => h t, rfl⟩
  | t :: ps, [], tmps, e, h, _ => ⟨fun t => h t, rfl⟩
  | t :: ps, v :: args, tmps, e, h, hl => by
    have ht := hl t (by simp)
    have h2 : ∀ s, (tmps.setIfInBounds t v).getD s undef = (e.put (some t) v) s := by
      intro s
      have := h s
      simp only [Env.put, Array.getD_eq_getD_getElem?, Array.getElem?_setIfInBounds] at this ⊢
      by_cases e1 : t = s
      · subst e1; simp [ht]
      · rw [if_neg e1, if_neg (fun q => e1 q.symm)]; exact this
    obtain ⟨q1, q2⟩ := getD_put ps args (tmps.setIfInBounds t v) (e.put (some t) v) h2 (fun s hs => by rw [Array.size_setIfInBounds]; exact hl s (by simp [hs]))
    exact ⟨q1, by rw [List.zip_cons_cons, List.foldl_cons]; rw [q2, Array.size_setIfInBounds]⟩
/-- What a round does, out of the loop's codes. -/
theorem yd_intro {l : Nat} {rec : Loop} {e : Env} {ps : List Tmp} {a b : Code} {args : List Value} {A : List Asn} {R : Value → List Asn → Prop} (hr : RfRec e ps a b rec) (hl : args.length = ps.length)
    (h : ∀ H, sg G (lp l rec .ready none :: A) H → cl P G a (thenH (rbK P G l b R) noQ) (putAll e ps args) H) : Yd P G l args (lp l rec .ready none :: A) R := by
  intro H hH
  have hlo : H l = some (.loop { rec with state := .ready, pending := none }) := seps_ob hH.2
  refine ⟨_, hlo, by show args.length = rec.params.size; rw [hr.pr, hl]; simp, ?_⟩
  obtain ⟨q1, q2⟩ := getD_put ps args rec.tmps e hr.tm hr.lt
  have ez : (rec.params.zip args.toArray).foldl (fun tmps (t, a) => tmps.setIfInBounds t a) rec.tmps = (ps.zip args).foldl (fun (tmps : Array Value) (x : Tmp × Value) => tmps.setIfInBounds x.1 x.2) rec.tmps := by
    rw [hr.pr, ← Array.foldl_toList]
    simp
  show NxH P G (.round l rec.fn ((rec.params.zip args.toArray).foldl (fun tmps (t, a) => tmps.setIfInBounds t a) rec.tmps) rec.assign rec.body) H (fin R)
  rw [ez, hr.as, hr.bd]
  refine round_of_cl (by rw [q2]; exact hr.d1) (by rw [q2]; exact hr.d2) hr.p1 hr.p2 ?_
  have ee : (fun t => ((ps.zip args).foldl (fun (tmps : Array Value) (x : Tmp × Value) => tmps.setIfInBounds x.1 x.2) rec.tmps).getD t undef) = putAll e ps args := funext q1
  rw [ee]
  exact h H hH
end
/-- Bytes of a string, as they are made. -/
theorem conv_sb {P : Program} {G H : Hp} {s t e : TypeId} {sz nb : Nat} (hs : stIs P s = true) (ht : apI P t = some (e, sz, nb)) (he : inIs P e = some .u8) {q : List UInt8} {L : List Asn} {K : Value → Hp → Prop}
    (hh : sg G L H) (k : ∀ v H', sg G (own e 1 v (bv q) :: L) H' → K v H') : opConv P G s t (.string (bs q)) H K := by
  obtain ⟨_, _, h1, -⟩ := apI_spec ht
  have h2 : P.underlying e = some (.int .u8) := by
    unfold inIs at he
    split at he
    · rename_i k' hk; cases he; exact hk
    · cases he
  unfold opConv convert
  rw [wpH_bind, wpH_underlying (stIs_eq hs)]
  try simp only []
  rw [wpH_bind, wpH_underlying h1]
  try simp only []
  rw [wpH_bind, wpH_underlying h2]
  show wpH P G (Conv.stringToBytes e (bs q)) H K _
  unfold Conv.stringToBytes
  rw [wpH_bind]
  show wpH P G (.choose _ .pure) H _ _
  unfold wpH
  rw [if_neg (by simp [Question.forced])]
  intro tp
  obtain ⟨nc, hnc, hle⟩ : ∃ nc, (Question.appendCap (bs q).size 0 e).cut tp = nc ∧ q.length ≤ nc := ⟨_, rfl, by simp only [Question.cut, bs_size]; omega⟩
  rw [hnc]
  have hel : ((bs q).data.map fun b => Value.int .u8 b.toNat) = (bv q).toArray := by unfold bs bv; simp
  obtain ⟨cs, hcs⟩ : ∃ cs, ((bs q).data.map fun b => Value.int .u8 b.toNat) ++ Array.replicate (nc - (bs q).size) (.int .u8 0) = cs := ⟨_, rfl⟩
  have hsz : cs.size = nc := by rw [← hcs, hel]; simp [bs_size, bv_length]; omega
  have hget : ∀ j, j < (bv q).length → cs[0 + j]? = (bv q)[j]? := by
    intro j hj
    rw [← hcs, hel, Nat.zero_add, Array.getElem?_append_left (by simpa using hj)]
    simp
  show wpH P G (newRow e (((bs q).data.map fun b => Value.int .u8 b.toNat) ++ Array.replicate (nc - (bs q).size) (.int .u8 0)) >>= _) H _ _
  rw [hcs, wpH_bind]
  unfold newRow
  rw [wpH_bind]
  intro b hb hg
  show wpH P G (markStringish ⟨b, 0, none⟩ >>= fun _ => pure (Value.slice (some ⟨b, 0, none⟩) (bs q).size nc)) (H.set b (.cells cs e (0, 0))) _ _
  have h3 := hh.new hb hg (.cells cs e (0, 0))
  have gb : (H.set b (.cells cs e (0, 0))) b = some (.cells cs e (0, 0)) := by unfold Hp.set; rw [if_pos rfl]
  have gG : ((H.set b (.cells cs e (0, 0))).un G) b = some (.cells cs e (0, 0)) := by unfold Hp.un; rw [gb]
  rw [wpH_bind]
  unfold markStringish
  rw [wpH_bind]
  refine ⟨_, gG, ?_⟩
  refine ⟨⟨_, gb⟩, ?_⟩
  have h4 := h3.upd (Hp.frz ⟨b, cs.size, none⟩ 1)
  refine k _ _ (h4.open_ (M := [own e 1 (.slice (some ⟨b, 0, none⟩) (bs q).size nc) (bv q)]) fun H hd hb => ⟨H, Hp.emp, (Hp.un_emp H).symm, fun b => .inr rfl, .inr ⟨b, 0, _, nc, cs, _, rfl, hb, ?_, by rw [bs_size]; exact hle, by omega, by rw [bv_length, bs_size]; simp, hget⟩, trivial⟩)
  exact .inr (by simp)
end Go.Sl
