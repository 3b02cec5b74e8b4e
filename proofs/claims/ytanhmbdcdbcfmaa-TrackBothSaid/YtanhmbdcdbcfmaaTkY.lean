/- Flows that are tracked: the law on both ways. -/
import Derived.Test.YtanhmbdcdbcfmaaTkL
set_option linter.unusedVariables false
set_option linter.unusedSimpArgs false
set_option maxRecDepth 10000
set_option maxHeartbeats 8000000
namespace Go.Proofs.Ytanhmbdcdbcfmaa.TkY
open Nat renaming reduceEqDiff → nq0, reduceAdd → nq1, reduceLeDiff → nq2, reduceBEq → nq3, reduceMul → nq4
open Int renaming reduceBEq → iq0, reduceEq → iq1, reduceLT → iq2, reduceLE → iq3, reduceAdd → iq4, reduceSub → iq5, reduceMul → iq6, reduceToNat → iq7, cast_ofNat_Int → iq8
open Go Go.Sl Go.Proofs Go.Proofs.Ytanhmbdcdbcfmaa.SoI Go.Proofs.Ytanhmbdcdbcfmaa.Tk Go.Proofs.Ytanhmbdcdbcfmaa.TkO Go.Proofs.Ytanhmbdcdbcfmaa.TkP Go.Proofs.Ytanhmbdcdbcfmaa.TkQ Go.Proofs.Ytanhmbdcdbcfmaa.TkD Go.Proofs.Ytanhmbdcdbcfmaa.TkE Go.Proofs.Ytanhmbdcdbcfmaa.TkL
theorem TY : aggN Try.prog 3 = some none ∧
  aggN Try.prog 5 = some none ∧
  aggN Try.prog 30 = some none ∧
  aggN Try.prog 108 = some none ∧
  aggN Try.prog 164 = some none ∧
  aggN Try.prog 166 = some none ∧
  aggN Try.prog 170 = some none ∧
  aggN Try.prog 175 = some (some 5) ∧
  aggN Try.prog 177 = some (some 8) ∧
  aggN Try.prog 187 = some (some 6) ∧
  apI Try.prog 164 = some (177, 8, 72) ∧
  apI Try.prog 170 = some (187, 6, 40) ∧
  bIs Try.prog 175 = true ∧
  bIs Try.prog 177 = true ∧
  bIs Try.prog 187 = true ∧
  csz Try.prog 3 = some 1 ∧
  csz Try.prog 5 = some 1 ∧
  csz Try.prog 30 = some 1 ∧
  csz Try.prog 108 = some 1 ∧
  csz Try.prog 164 = some 1 ∧
  csz Try.prog 166 = some 1 ∧
  csz Try.prog 170 = some 1 ∧
  csz Try.prog 175 = some 5 ∧
  csz Try.prog 177 = some 8 ∧
  csz Try.prog 187 = some 6 ∧
  eqF Try.prog 175 = some [.i, .i, .i, .i, .i] ∧
  eqF Try.prog 187 = some [.i, .i, .i, .i, .i, .i] ∧
  fIs Try.prog 177 0 = true ∧
  fIs Try.prog 177 1 = true ∧
  fIs Try.prog 177 2 = true ∧
  fIs Try.prog 177 3 = true ∧
  fIs Try.prog 187 0 = true ∧
  fIs Try.prog 187 1 = true ∧
  fOff Try.prog 177 0 = 0 ∧
  fOff Try.prog 177 1 = 1 ∧
  fOff Try.prog 177 2 = 6 ∧
  fOff Try.prog 177 3 = 7 ∧
  fOff Try.prog 187 0 = 0 ∧
  fOff Try.prog 187 1 = 5 ∧
  fTy Try.prog 177 0 = 5 ∧
  fTy Try.prog 177 1 = 175 ∧
  fTy Try.prog 177 2 = 3 ∧
  fTy Try.prog 177 3 = 170 ∧
  fTy Try.prog 187 0 = 175 ∧
  fTy Try.prog 187 1 = 3 ∧
  goes Try.prog 83 = true ∧
  goes Try.prog 84 = true ∧
  goes Try.prog 85 = true ∧
  goes Try.prog 86 = true ∧
  goes Try.prog 88 = true ∧
  goes Try.prog 91 = true ∧
  goes Try.prog 93 = true ∧
  goes Try.prog 95 = true ∧
  inIs Try.prog 3 = some .i64 ∧
  inIs Try.prog 5 = some .u8 ∧
  inIs Try.prog 30 = some .i64 ∧
  inIs Try.prog 108 = some .u16 ∧
  plcs Try.prog 175 = [(0, 1), (1, 1), (2, 1), (3, 1), (4, 1)] ∧
  plcs Try.prog 177 = [(0, 1), (1, 5), (6, 1), (7, 1)] ∧
  plcs Try.prog 187 = [(0, 5), (5, 1)] ∧
  ptIs Try.prog 166 = true ∧
  slEl Try.prog 164 = 177 ∧
  slEl Try.prog 170 = 187 ∧
  slIs Try.prog 164 = true ∧
  slIs Try.prog 170 = true ∧
  slSz Try.prog 164 = 8 ∧
  slSz Try.prog 170 = 6 ∧
  zcs Try.prog 175 = [.int .i64 0, .int .u32 0, .int .u32 0, .int .i64 0, .int .i64 0] ∧
  zcs Try.prog 177 = [.int .u8 0, .int .i64 0, .int .u32 0, .int .u32 0, .int .i64 0, .int .i64 0, .int .i64 0, .slice none 0 0] ∧
  zcs Try.prog 187 = [.int .i64 0, .int .u32 0, .int .u32 0, .int .i64 0, .int .i64 0, .int .i64 0] ∧
  zro Try.prog 3 = some (.int .i64 0) ∧
  zro Try.prog 5 = some (.int .u8 0) ∧
  zro Try.prog 30 = some (.int .i64 0) ∧
  zro Try.prog 108 = some (.int .u16 0) ∧
  zro Try.prog 164 = some (.slice none 0 0) ∧
  zro Try.prog 166 = some (.pointer none) ∧
  zro Try.prog 170 = some (.slice none 0 0) ∧
  zro Try.prog 175 = some (.agg #[.int .i64 0, .int .u32 0, .int .u32 0, .int .i64 0, .int .i64 0]) ∧
  zro Try.prog 177 = some (.agg #[.int .u8 0, .int .i64 0, .int .u32 0, .int .u32 0, .int .i64 0, .int .i64 0, .int .i64 0, .slice none 0 0]) ∧
  zro Try.prog 187 = some (.agg #[.int .i64 0, .int .u32 0, .int .u32 0, .int .i64 0, .int .i64 0, .int .i64 0]) :=
  ⟨by kernel_rfl, by kernel_rfl, by kernel_rfl, by kernel_rfl, by kernel_rfl, by kernel_rfl, by kernel_rfl, by kernel_rfl, by kernel_rfl, by kernel_rfl, by kernel_rfl, by kernel_rfl, by kernel_rfl, by kernel_rfl, by kernel_rfl, by kernel_rfl, by kernel_rfl, by kernel_rfl, by kernel_rfl, by kernel_rfl, by kernel_rfl, by kernel_rfl, by kernel_rfl, by kernel_rfl, by kernel_rfl, by kernel_rfl, by kernel_rfl, by kernel_rfl, by kernel_rfl, by kernel_rfl, by kernel_rfl, by kernel_rfl, by kernel_rfl, by kernel_rfl, by kernel_rfl, by kernel_rfl, by kernel_rfl, by kernel_rfl, by kernel_rfl, by kernel_rfl, by kernel_rfl, by kernel_rfl, by kernel_rfl, by kernel_rfl, by kernel_rfl, by kernel_rfl, by kernel_rfl, by kernel_rfl, by kernel_rfl, by kernel_rfl, by kernel_rfl, by kernel_rfl, by kernel_rfl, by kernel_rfl, by kernel_rfl, by kernel_rfl, by kernel_rfl, by kernel_rfl, by kernel_rfl, by kernel_rfl, by kernel_rfl, by kernel_rfl, by kernel_rfl, by kernel_rfl, by kernel_rfl, by kernel_rfl, by kernel_rfl, by kernel_rfl, by kernel_rfl, by kernel_rfl, by kernel_rfl, by kernel_rfl, by kernel_rfl, by kernel_rfl, by kernel_rfl, by kernel_rfl, by kernel_rfl, by kernel_rfl, by kernel_rfl, by kernel_rfl⟩
def D14_14 : List Note := Go.Sl.nn [0, 0, 0, 0, 0, 1, 0, 0, 0, 0, 1, 3]
def D14_15 : List Note := Go.Sl.nn [0, 0, 0, 0, 0, 1, 0, 0, 0, 0, 1, 3]
theorem back_back (x : Fw) : x.back.back = x := rfl
theorem alike_self (x : Fw) : alike x x = true := by unfold alike; simp
theorem alike_back {x y : Fw} (h : alike x y = true) : alike x y.back = true := by
  unfold alike at h ⊢
  rw [decide_eq_true_eq] at h ⊢
  rcases h with h | h
  · exact .inr h
  · exact .inl h
theorem alike_symm {x y : Fw} (h : alike x y = true) : alike y x = true := by
  unfold alike at h ⊢
  rw [decide_eq_true_eq] at h ⊢
  rcases h with rfl | rfl
  · exact .inl rfl
  · exact .inr rfl
theorem upd_map {x : Rc} : ∀ {l m : List Rc}, upd l x = some m → m.map (·.f) = l.map (·.f)
  | [], _, h => by cases h
  | y :: l, m, h => by
    unfold upd at h
    split at h
    · cases h; rfl
    · cases e : upd l x with
      | none => rw [e] at h; cases h
      | some m' => rw [e] at h; cases h; rw [List.map_cons, List.map_cons, upd_map e]
theorem upd_u {x : Rc} {M : Int} (hx : x.u ≤ M) : ∀ {l m : List Rc}, upd l x = some m → (∀ y ∈ l, y.u ≤ M) → ∀ y ∈ m, y.u ≤ M
  | [], _, h, _ => by cases h
  | y :: l, m, h, hl => by
    have hy := hl y (by simp)
    unfold upd at h
    split at h
    · cases h
      intro z hz
      rcases List.mem_cons.1 hz with rfl | hz
      · show max y.u x.u ≤ M
        omega
      · exact hl z (by simp [hz])
    · cases e : upd l x with
      | none => rw [e] at h; cases h
      | some m' =>
        rw [e] at h; cases h
        intro z hz
        rcases List.mem_cons.1 hz with rfl | hz
        · exact hy
        · exact upd_u hx e (fun w hw => hl w (by simp [hw])) z hz
theorem upd_has {x : Rc} : ∀ {l m : List Rc}, upd l x = some m → ∃ y ∈ m, alike y.f x.f = true ∧ x.u ≤ y.u
  | [], _, h => by cases h
  | y :: l, m, h => by
    unfold upd at h
    split at h
    · rename_i g
      cases h
      exact ⟨⟨y.f, max y.u x.u⟩, by simp, g, by show x.u ≤ max y.u x.u; omega⟩
    · cases e : upd l x with
      | none => rw [e] at h; cases h
      | some m' =>
        rw [e] at h; cases h
        obtain ⟨z, hz, h2⟩ := upd_has e
        exact ⟨z, by simp [hz], h2⟩
theorem upd_no {x : Rc} : ∀ {l : List Rc}, upd l x = none → ∀ y ∈ l, alike y.f x.f = false
  | [], _ => by simp
  | y :: l, h => by
    unfold upd at h
    split at h
    · cases h
    · rename_i g
      cases e : upd l x with
      | some m' => rw [e] at h; cases h
      | none =>
        intro z hz
        rcases List.mem_cons.1 hz with rfl | hz
        · simpa using g
        · exact upd_no e z hz
/-- What stands in a table. -/
structure Inv (l : List Rc) : Prop where
  n : l.length ≤ 16
  ok : ∀ x ∈ l, Fw.ok x.f = true
  u : ∀ x ∈ l, x.u ≤ 1099511627776
  d : (l.map (·.f)).Pairwise fun a b => alike a b = false
theorem Inv.nil : Inv [] := ⟨by simp, by simp, by simp, by simp⟩
theorem Inv.live {l : List Rc} (h : Inv l) (now : Int) : Inv (live l now) := by
  have hs : (TkO.live l now).Sublist l := List.filter_sublist
  exact ⟨live_16 now h.n, fun x hx => h.ok x (hs.subset hx), fun x hx => h.u x (hs.subset hx), h.d.sublist (hs.map _)⟩
theorem Inv.put {l : List Rc} (h : Inv l) {x : Rc} (h1 : Fw.ok x.f = true) (h2 : x.u ≤ 1099511627776) : Inv (put l x).1 := by
  have h16 := put_16 x h.n
  unfold TkP.put at h16 ⊢
  cases e : upd l x with
  | some m =>
    rw [e] at h16
    have hm := upd_map e
    refine ⟨h16, ?_, upd_u h2 e h.u, by rw [hm]; exact h.d⟩
    intro y hy
    have : y.f ∈ m.map (·.f) := List.mem_map.2 ⟨y, hy, rfl⟩
    rw [hm] at this
    obtain ⟨z, hz, hzy⟩ := List.mem_map.1 this
    rw [← hzy]; exact h.ok z hz
  | none =>
    rw [e] at h16
    simp only at h16 ⊢
    split
    · exact h
    · rename_i g
      rw [if_neg g] at h16
      refine ⟨h16, ?_, ?_, ?_⟩
      · intro y hy
        rcases List.mem_append.1 hy with hy | hy
        · exact h.ok y hy
        · rw [List.mem_singleton] at hy; subst hy; exact h1
      · intro y hy
        rcases List.mem_append.1 hy with hy | hy
        · exact h.u y hy
        · rw [List.mem_singleton] at hy; subst hy; exact h2
      · rw [List.map_append, List.pairwise_append]
        refine ⟨h.d, by simp, ?_⟩
        intro a ha b hb
        obtain ⟨y, hy, rfl⟩ := List.mem_map.1 ha
        simp only [List.map_cons, List.map_nil, List.mem_singleton] at hb
        subst hb
        exact upd_no e y hy
theorem Inv.note {l : List Rc} (h : Inv l) (life : Int) (f : Fw) (now : Int) : Inv (note life l f now).1 := by
  unfold TkP.note
  split
  · rename_i g
    exact (h.live now).put g.2 (by show min (now + life) 1099511627776 ≤ 1099511627776; omega)
  · exact h
theorem Inv.fold (now : Int) : ∀ (m : List Rc) (a : List Rc × Nat), Inv a.1 → Inv (m.foldl (istep now) a).1
  | [], _, h => h
  | x :: m, a, h => by
    refine Inv.fold now m _ ?_
    unfold istep
    split
    · rename_i g
      exact h.put g.1 g.2.2
    · exact h
theorem Inv.imp {l : List Rc} (h : Inv l) (now : Int) (m : List Rc) : Inv (imp l now m).1 := by
  unfold TkQ.imp
  split
  · exact Inv.fold now m _ (h.live now)
  · exact h
theorem known_of {l : List Rc} {f : Fw} {now : Int} {y : Rc} (hy : y ∈ l) (h1 : alike y.f f = true) (h2 : now < y.u) : known l f now = true := by
  unfold known
  rw [List.any_eq_true]
  refine ⟨y, ?_, h1⟩
  unfold TkO.live
  rw [List.mem_filter]
  exact ⟨hy, by simp; omega⟩
theorem note_yes {life : Int} {l : List Rc} {f : Fw} {now : Int} (h : (note life l f now).2 = 0) : tok now = true ∧ ∃ y ∈ (note life l f now).1, alike y.f f = true ∧ min (now + life) 1099511627776 ≤ y.u := by
  unfold TkP.note at h ⊢
  by_cases g : tok now = true ∧ Fw.ok f = true
  · rw [if_pos g] at h ⊢
    refine ⟨g.1, ?_⟩
    simp only at h ⊢
    unfold TkP.put at h ⊢
    cases e : upd (live l now) ⟨f, min (now + life) 1099511627776⟩ with
    | some m =>
      obtain ⟨y, hy, h1, h2⟩ := upd_has e
      exact ⟨y, hy, h1, h2⟩
    | none =>
      rw [e] at h
      simp only at h ⊢
      by_cases g2 : 16 ≤ (live l now).length
      · rw [if_pos g2] at h; simp at h
      · rw [if_neg g2]
        exact ⟨⟨f, min (now + life) 1099511627776⟩, by simp, alike_self f, Int.le_refl _⟩
  · rw [if_neg g] at h; simp at h
/-- What is told at a time is taken over, all of it. -/
theorem imp_all {now : Int} (ht : tok now = true) {m : List Rc} (h : Inv m) (hl : ∀ x ∈ m, now < x.u) : imp [] now m = (m, m.length) := by
  have key : ∀ (s c : List Rc), c ++ s = m → s.foldl (istep now) (c, c.length) = (m, m.length) := by
    intro s
    induction s with
    | nil => intro c hc; rw [List.append_nil] at hc; subst hc; rfl
    | cons x s ih =>
      intro c hc
      have hx : x ∈ m := by rw [← hc]; simp
      have hcl : c.length < 16 := by
        have := congrArg List.length hc
        rw [List.length_append, List.length_cons] at this
        have := h.n; omega
      have hd := h.d
      rw [← hc, List.map_append, List.pairwise_append] at hd
      have hno : ∀ y ∈ c, alike y.f x.f = false := fun y hy => hd.2.2 y.f (List.mem_map.2 ⟨y, hy, rfl⟩) x.f (by simp)
      have hst : istep now (c, c.length) x = (c ++ [x], (c ++ [x]).length) := by
        unfold istep
        rw [if_pos ⟨h.ok x hx, hl x hx, h.u x hx⟩]
        unfold TkP.put
        rw [upd_none hno]
        simp only
        rw [if_neg (by omega)]
        simp
      rw [List.foldl_cons, hst]
      exact ih (c ++ [x]) (by rw [← hc]; simp)
  unfold TkQ.imp
  rw [if_pos ht]
  exact key m [] rfl
theorem live_lt {l : List Rc} {now : Int} {x : Rc} (h : x ∈ live l now) : now < x.u := by
  unfold TkO.live at h
  have := (List.mem_filter.1 h).2
  simp at this; omega
theorem recs_loop {G : Hp} {pu : Nat} {now : Int} {R : List Rc} {ra : Option Addr} {rc : Nat} (hR16 : R.length ≤ 16) (ht0 : 0 ≤ now) (hRl : ∀ x ∈ R, now < x.u) (hRu : ∀ x ∈ R, x.u ≤ 1099511627776) {Q : Post} {e : Env} {H : Hp} (q8 : e 8 = .int .i64 now) (q12 : e 12 = .pointer (some ⟨pu, 0, none⟩)) (q16 : e 16 = .slice ra R.length rc) (q17 : e 17 = .int .i64 0)
    (h : sg G [tT pu 1 R, own 187 6 (.slice ra R.length rc) (R.flatMap Rc.l)] H)
    (hQ : ∀ e' H', sg G [tT pu 1 R, own 187 6 (.slice ra R.length rc) (R.flatMap Rc.l)] H' → Q (.exit 2) e' H') : cl Try.prog G (.loop (((Go.Code.region 25 #[{ dst := some 129, op := Go.Op.move (Go.Operand.tmp 17), type := 3, pos := "law.go:109", after := #[], guard := none }, { dst := some 130, op := Go.Op.move (Go.Operand.tmp 16), type := 170, pos := "law.go:109", after := #[], guard := none }, { dst := some 131, op := Go.Op.call { callee := Go.Callee.builtin Go.Builtin.len, args := #[Go.Operand.tmp 130], argTypes := #[170] }, type := 3, pos := "law.go:109", after := #[{ on := 1, ground := Go.Ground.data }], guard := none }, { dst := some 132, op := Go.Op.binOp Go.BinOp.lss 3 (Go.Operand.tmp 129) (Go.Operand.tmp 131) 3, type := 4, pos := "law.go:109", after := #[{ on := 0, ground := Go.Ground.data }, { on := 2, ground := Go.Ground.data }], guard := none }] false).seq (Go.Code.cond (Go.Operand.tmp 132) Go.Code.skip (Go.Code.exit 2))).seq ((Go.Code.block 3 ((Go.Code.region 27 #[{ dst := some 135, op := Go.Op.move (Go.Operand.tmp 16), type := 170, pos := "law.go:110", after := #[], guard := none }, { dst := some 136, op := Go.Op.move (Go.Operand.tmp 17), type := 3, pos := "law.go:110", after := #[], guard := none }, { dst := some 137, op := Go.Op.indexAddr 170 (Go.Operand.tmp 135) (Go.Operand.tmp 136), type := 0, pos := "law.go:110", after := #[{ on := 0, ground := Go.Ground.data }, { on := 1, ground := Go.Ground.data }], guard := none }, { dst := some 138, op := Go.Op.load 187 (Go.Operand.tmp 137), type := 187, pos := "law.go:110", after := #[{ on := 2, ground := Go.Ground.data }], guard := none }, { dst := some 18, op := Go.Op.alloc 187, type := 0, pos := "law.go:110", after := #[], guard := none }, { dst := none, op := Go.Op.store 187 (Go.Operand.tmp 18) (Go.Operand.tmp 138), type := 0, pos := "law.go:110", after := #[{ on := 4, ground := Go.Ground.data }, { on := 3, ground := Go.Ground.data }, { on := 0, ground := Go.Ground.phase }, { on := 1, ground := Go.Ground.phase }, { on := 2, ground := Go.Ground.phase }, { on := 3, ground := Go.Ground.phase }, { on := 4, ground := Go.Ground.phase }], guard := none }] false).seq ((Go.Code.region 28 #[{ dst := some 139, op := Go.Op.move (Go.Operand.tmp 12), type := 166, pos := "law.go:111", after := #[], guard := none }, { dst := some 140, op := Go.Op.fieldAddr 187 (Go.Operand.tmp 18) 0, type := 0, pos := "law.go:111", after := #[], guard := none }, { dst := some 141, op := Go.Op.load 175 (Go.Operand.tmp 140), type := 175, pos := "law.go:111", after := #[{ on := 1, ground := Go.Ground.data }], guard := none }, { dst := some 142, op := Go.Op.fieldAddr 187 (Go.Operand.tmp 18) 1, type := 0, pos := "law.go:111", after := #[], guard := none }, { dst := some 143, op := Go.Op.load 3 (Go.Operand.tmp 142), type := 3, pos := "law.go:111", after := #[{ on := 3, ground := Go.Ground.data }], guard := none }, { dst := some 144, op := Go.Op.binOp Go.BinOp.sub 3 (Go.Operand.tmp 143) (Go.Operand.const (Go.Value.int Go.IntKind.i64 1)) 3, type := 3, pos := "law.go:111", after := #[{ on := 4, ground := Go.Ground.data }], guard := none }, { dst := some 145, op := Go.Op.call { callee := Go.Callee.value (Go.Operand.func 93), args := #[Go.Operand.tmp 139, Go.Operand.tmp 141, Go.Operand.tmp 144], argTypes := #[166, 175, 3] }, type := 4, pos := "law.go:111", after := #[{ on := 0, ground := Go.Ground.data }, { on := 2, ground := Go.Ground.data }, { on := 5, ground := Go.Ground.data }], guard := none }, { dst := some 146, op := Go.Op.unOp Go.UnOp.not 4 (Go.Operand.tmp 145), type := 4, pos := "law.go:111", after := #[{ on := 6, ground := Go.Ground.data }], guard := none }, { dst := some 147, op := Go.Op.move (Go.Operand.tmp 146), type := 4, pos := "law.go:111", after := #[{ on := 7, ground := Go.Ground.data }, { on := 6, ground := Go.Ground.chain }], guard := none }, { dst := some 148, op := Go.Op.move (Go.Operand.tmp 12), type := 166, pos := "law.go:111", after := #[{ on := 8, ground := Go.Ground.guard }], guard := some (8, false) }, { dst := some 149, op := Go.Op.fieldAddr 187 (Go.Operand.tmp 18) 0, type := 0, pos := "law.go:111", after := #[{ on := 8, ground := Go.Ground.guard }], guard := some (8, false) }, { dst := some 150, op := Go.Op.load 175 (Go.Operand.tmp 149), type := 175, pos := "law.go:111", after := #[{ on := 10, ground := Go.Ground.data }, { on := 8, ground := Go.Ground.guard }], guard := some (8, false) }, { dst := some 151, op := Go.Op.call { callee := Go.Callee.value (Go.Operand.func 95), args := #[Go.Operand.tmp 150], argTypes := #[175] }, type := 175, pos := "law.go:111", after := #[{ on := 11, ground := Go.Ground.data }, { on := 8, ground := Go.Ground.chain }, { on := 8, ground := Go.Ground.guard }], guard := some (8, false) }, { dst := some 152, op := Go.Op.move (Go.Operand.tmp 8), type := 3, pos := "law.go:111", after := #[{ on := 8, ground := Go.Ground.guard }], guard := some (8, false) }, { dst := some 153, op := Go.Op.call { callee := Go.Callee.value (Go.Operand.func 93), args := #[Go.Operand.tmp 148, Go.Operand.tmp 151, Go.Operand.tmp 152], argTypes := #[166, 175, 3] }, type := 4, pos := "law.go:111", after := #[{ on := 9, ground := Go.Ground.data }, { on := 12, ground := Go.Ground.data }, { on := 13, ground := Go.Ground.data }, { on := 12, ground := Go.Ground.chain }, { on := 8, ground := Go.Ground.guard }], guard := some (8, false) }, { dst := some 154, op := Go.Op.unOp Go.UnOp.not 4 (Go.Operand.tmp 153), type := 4, pos := "law.go:111", after := #[{ on := 14, ground := Go.Ground.data }, { on := 8, ground := Go.Ground.guard }], guard := some (8, false) }, { dst := some 155, op := Go.Op.pick (Go.Operand.tmp 147) (Go.Operand.const (Go.Value.bool true)) (Go.Operand.tmp 154), type := 4, pos := "law.go:111", after := #[{ on := 8, ground := Go.Ground.data }, { on := 15, ground := Go.Ground.data }], guard := none }] false).seq (Go.Code.cond (Go.Operand.tmp 155) ((Go.Code.region 29 #[{ dst := some 6, op := Go.Op.assign (Go.Operand.const (Go.Value.bool false)), type := 4, pos := "law.go:112", after := #[], guard := none }] false).seq Go.Code.ret) Go.Code.skip)))).seq (Go.Code.region 26 #[{ dst := some 133, op := Go.Op.move (Go.Operand.tmp 17), type := 3, pos := "law.go:109", after := #[], guard := none }, { dst := some 134, op := Go.Op.binOp Go.BinOp.add 3 (Go.Operand.tmp 133) (Go.Operand.const (Go.Value.int Go.IntKind.i64 1)) 3, type := 3, pos := "law.go:109", after := #[{ on := 0, ground := Go.Ground.data }], guard := none }, { dst := some 17, op := Go.Op.assign (Go.Operand.tmp 134), type := 3, pos := "law.go:109", after := #[{ on := 1, ground := Go.Ground.data }, { on := 0, ground := Go.Ground.phase }, { on := 1, ground := Go.Ground.phase }], guard := none }] false)))) Q e H := by
  refine cl_loop (fun i e H => i ≤ R.length ∧ e 8 = .int .i64 now ∧ e 12 = .pointer (some ⟨pu, 0, none⟩) ∧ e 16 = .slice ra R.length rc ∧ e 17 = .int .i64 (i : Nat) ∧ sg G [tT pu 1 R, own 187 6 (.slice ra R.length rc) (R.flatMap Rc.l)] H) (fun i : Nat => R.length - i) 0
    ⟨by omega, q8, q12, q16, q17, h⟩ ?_
  clear h q8 q12 q16 q17
  clear e H
  rintro i e H ⟨q1, q8, q12, q16, q17, h⟩
  by_cases g7 : (i : Int) < R.length
  · obtain ⟨b, off, hl, rfl, hcc, hld⟩ := (h.rdsi 1 rfl Rd_own).el Rc.len (i := i) (by omega) (by omega)
    have g0 : (0 : Int) ≤ i ∧ (i : Int) < R.length := ⟨by omega, g7⟩
    obtain ⟨x, hx⟩ : ∃ x, R[i] = x := ⟨_, rfl⟩
    rw [hx] at hld
    have hxm : x ∈ R := by rw [← hx]; exact List.getElem_mem hl
    have hxu := hRl x hxm
    have hxv := hRu x hxm
    obtain ⟨⟨x1, x2, x3, x4, x5⟩, xu⟩ := x
    replace hxu : now < xu := hxu
    replace hxv : xu ≤ 1099511627776 := hxv
    ((try simp only [S, TY, reduceCtorEq, nq0, nq1, nq2, nq3, nq4, iq0, iq1, iq2, iq3, iq4, iq5, iq6, iq7, iq8, q8, q12, q16, q17, g7, g0, hld]); (try (simp (disch := omega) only [W2, Int.cast_ofNat_Int]; (try simp only [S, TY, reduceCtorEq, nq0, nq1, nq2, nq3, nq4, iq0, iq1, iq2, iq3, iq4, iq5, iq6, iq7, iq8, q8, q12, q16, q17, g7, g0, hld]))); repeat ((first | (refine cl_drawi 14 D14_14 (List.range 12) (by decide) (by kernel_rfl) ?_; unfold D14_14) | (refine cl_drawi 15 D14_15 (List.range 12) (by decide) (by kernel_rfl) ?_; unfold D14_15)); simp only [S, TY, reduceCtorEq, nq0, nq1, nq2, nq3, nq4, iq0, iq1, iq2, iq3, iq4, iq5, iq6, iq7, iq8, q8, q12, q16, q17, g7, g0, hld]; (try (simp (disch := omega) only [W2, Int.cast_ofNat_Int]; (try simp only [S, TY, reduceCtorEq, nq0, nq1, nq2, nq3, nq4, iq0, iq1, iq2, iq3, iq4, iq5, iq6, iq7, iq8, q8, q12, q16, q17, g7, g0, hld])))))
    intro bq hbq hbg
    have h1 := h.new hbq hbg (.cells (Rc.l ⟨⟨0, 0, 0, 0, 0⟩, 0⟩).toArray 187 (0, 0))
    ((try simp only [S, TY, reduceCtorEq, nq0, nq1, nq2, nq3, nq4, iq0, iq1, iq2, iq3, iq4, iq5, iq6, iq7, iq8, q8, q12, q16, q17]); (try (simp (disch := omega) only [W2, Int.cast_ofNat_Int]; (try simp only [S, TY, reduceCtorEq, nq0, nq1, nq2, nq3, nq4, iq0, iq1, iq2, iq3, iq4, iq5, iq6, iq7, iq8, q8, q12, q16, q17]))); repeat ((first | (refine cl_drawi 14 D14_14 (List.range 12) (by decide) (by kernel_rfl) ?_; unfold D14_14) | (refine cl_drawi 15 D14_15 (List.range 12) (by decide) (by kernel_rfl) ?_; unfold D14_15)); simp only [S, TY, reduceCtorEq, nq0, nq1, nq2, nq3, nq4, iq0, iq1, iq2, iq3, iq4, iq5, iq6, iq7, iq8, q8, q12, q16, q17]; (try (simp (disch := omega) only [W2, Int.cast_ofNat_Int]; (try simp only [S, TY, reduceCtorEq, nq0, nq1, nq2, nq3, nq4, iq0, iq1, iq2, iq3, iq4, iq5, iq6, iq7, iq8, q8, q12, q16, q17])))))
    refine sg.st h1 rfl rfl fun H2 h2 => ?_
    simp only [front_eq, fronts_nil, fronts_cons, List.getElem?_cons_zero, List.getElem?_cons_succ, List.eraseIdx_cons_zero, List.eraseIdx_cons_succ, List.cons_append, List.nil_append, putL_cons, putL_nil, List.set_cons_zero, List.set_cons_succ, Nat.reduceAdd] at h2
    have w2 := h2.li 0 rfl
    have c2 := h2.c0
    ((try simp only [S, TY, reduceCtorEq, nq0, nq1, nq2, nq3, nq4, iq0, iq1, iq2, iq3, iq4, iq5, iq6, iq7, iq8, q8, q12, q16, q17, w2, c2]); (try (simp (disch := omega) only [W2, Int.cast_ofNat_Int]; (try simp only [S, TY, reduceCtorEq, nq0, nq1, nq2, nq3, nq4, iq0, iq1, iq2, iq3, iq4, iq5, iq6, iq7, iq8, q8, q12, q16, q17, w2, c2]))); repeat ((first | (refine cl_drawi 14 D14_14 (List.range 12) (by decide) (by kernel_rfl) ?_; unfold D14_14) | (refine cl_drawi 15 D14_15 (List.range 12) (by decide) (by kernel_rfl) ?_; unfold D14_15)); simp only [S, TY, reduceCtorEq, nq0, nq1, nq2, nq3, nq4, iq0, iq1, iq2, iq3, iq4, iq5, iq6, iq7, iq8, q8, q12, q16, q17, w2, c2]; (try (simp (disch := omega) only [W2, Int.cast_ofNat_Int]; (try simp only [S, TY, reduceCtorEq, nq0, nq1, nq2, nq3, nq4, iq0, iq1, iq2, iq3, iq4, iq5, iq6, iq7, iq8, q8, q12, q16, q17, w2, c2])))))
    refine (Known_ok ⟨x1, x2, x3, x4, x5⟩ (xu - 1) (by omega)).at_ h2 [1] _ rfl fun r B H3 hr h3 => ?_
    obtain ⟨rfl, rfl⟩ := hr
    rw [known_of hxm (alike_self ⟨x1, x2, x3, x4, x5⟩) (by show xu - 1 < xu; omega)]
    simp only [front_eq, fronts_nil, fronts_cons, List.getElem?_cons_zero, List.getElem?_cons_succ, List.eraseIdx_cons_zero, List.eraseIdx_cons_succ, List.cons_append, List.nil_append, putL_cons, putL_nil, List.set_cons_zero, List.set_cons_succ, Nat.reduceAdd] at h3
    have w3 := h3.li 1 rfl
    have c3 := (h3.front 1).c0
    ((try simp only [S, TY, reduceCtorEq, nq0, nq1, nq2, nq3, nq4, iq0, iq1, iq2, iq3, iq4, iq5, iq6, iq7, iq8, q8, q12, q16, q17, w3, c3]); (try (simp (disch := omega) only [W2, Int.cast_ofNat_Int]; (try simp only [S, TY, reduceCtorEq, nq0, nq1, nq2, nq3, nq4, iq0, iq1, iq2, iq3, iq4, iq5, iq6, iq7, iq8, q8, q12, q16, q17, w3, c3]))); repeat ((first | (refine cl_drawi 14 D14_14 (List.range 12) (by decide) (by kernel_rfl) ?_; unfold D14_14) | (refine cl_drawi 15 D14_15 (List.range 12) (by decide) (by kernel_rfl) ?_; unfold D14_15)); simp only [S, TY, reduceCtorEq, nq0, nq1, nq2, nq3, nq4, iq0, iq1, iq2, iq3, iq4, iq5, iq6, iq7, iq8, q8, q12, q16, q17, w3, c3]; (try (simp (disch := omega) only [W2, Int.cast_ofNat_Int]; (try simp only [S, TY, reduceCtorEq, nq0, nq1, nq2, nq3, nq4, iq0, iq1, iq2, iq3, iq4, iq5, iq6, iq7, iq8, q8, q12, q16, q17, w3, c3])))))
    refine (dBack_ok ⟨x1, x2, x3, x4, x5⟩).at_ h3 [] _ rfl fun r B H4 hr h4 => ?_
    obtain ⟨rfl, rfl⟩ := hr
    ((try simp only [S, TY, reduceCtorEq, nq0, nq1, nq2, nq3, nq4, iq0, iq1, iq2, iq3, iq4, iq5, iq6, iq7, iq8, q8, q12, q16, q17]); (try (simp (disch := omega) only [W2, Int.cast_ofNat_Int]; (try simp only [S, TY, reduceCtorEq, nq0, nq1, nq2, nq3, nq4, iq0, iq1, iq2, iq3, iq4, iq5, iq6, iq7, iq8, q8, q12, q16, q17]))); repeat ((first | (refine cl_drawi 14 D14_14 (List.range 12) (by decide) (by kernel_rfl) ?_; unfold D14_14) | (refine cl_drawi 15 D14_15 (List.range 12) (by decide) (by kernel_rfl) ?_; unfold D14_15)); simp only [S, TY, reduceCtorEq, nq0, nq1, nq2, nq3, nq4, iq0, iq1, iq2, iq3, iq4, iq5, iq6, iq7, iq8, q8, q12, q16, q17]; (try (simp (disch := omega) only [W2, Int.cast_ofNat_Int]; (try simp only [S, TY, reduceCtorEq, nq0, nq1, nq2, nq3, nq4, iq0, iq1, iq2, iq3, iq4, iq5, iq6, iq7, iq8, q8, q12, q16, q17])))))
    refine (Known_ok (Fw.back ⟨x1, x2, x3, x4, x5⟩) now (by omega)).at_ h4 [0] _ rfl fun r B H5 hr h5 => ?_
    obtain ⟨rfl, rfl⟩ := hr
    rw [known_of hxm (alike_back (alike_self ⟨x1, x2, x3, x4, x5⟩)) (by omega)]
    simp only [front_eq, fronts_nil, fronts_cons, List.getElem?_cons_zero, List.getElem?_cons_succ, List.eraseIdx_cons_zero, List.eraseIdx_cons_succ, List.cons_append, List.nil_append, putL_cons, putL_nil, List.set_cons_zero, List.set_cons_succ, Nat.reduceAdd] at h5
    ((try simp only [S, TY, reduceCtorEq, nq0, nq1, nq2, nq3, nq4, iq0, iq1, iq2, iq3, iq4, iq5, iq6, iq7, iq8, q8, q12, q16, q17]); (try (simp (disch := omega) only [W2, Int.cast_ofNat_Int]; (try simp only [S, TY, reduceCtorEq, nq0, nq1, nq2, nq3, nq4, iq0, iq1, iq2, iq3, iq4, iq5, iq6, iq7, iq8, q8, q12, q16, q17]))); repeat ((first | (refine cl_drawi 14 D14_14 (List.range 12) (by decide) (by kernel_rfl) ?_; unfold D14_14) | (refine cl_drawi 15 D14_15 (List.range 12) (by decide) (by kernel_rfl) ?_; unfold D14_15)); simp only [S, TY, reduceCtorEq, nq0, nq1, nq2, nq3, nq4, iq0, iq1, iq2, iq3, iq4, iq5, iq6, iq7, iq8, q8, q12, q16, q17]; (try (simp (disch := omega) only [W2, Int.cast_ofNat_Int]; (try simp only [S, TY, reduceCtorEq, nq0, nq1, nq2, nq3, nq4, iq0, iq1, iq2, iq3, iq4, iq5, iq6, iq7, iq8, q8, q12, q16, q17])))))
    exact .go (i + 1) (by omega) ⟨by omega, q8, q12, q16, rfl, ⟨h5.1, seps_take (B := [_, _]) (h5.fronts [0, 1]).2⟩⟩
  · ((try simp only [S, TY, reduceCtorEq, nq0, nq1, nq2, nq3, nq4, iq0, iq1, iq2, iq3, iq4, iq5, iq6, iq7, iq8, q8, q12, q16, q17, g7]); (try (simp (disch := omega) only [W2, Int.cast_ofNat_Int]; (try simp only [S, TY, reduceCtorEq, nq0, nq1, nq2, nq3, nq4, iq0, iq1, iq2, iq3, iq4, iq5, iq6, iq7, iq8, q8, q12, q16, q17, g7]))); repeat ((first | (refine cl_drawi 14 D14_14 (List.range 12) (by decide) (by kernel_rfl) ?_; unfold D14_14) | (refine cl_drawi 15 D14_15 (List.range 12) (by decide) (by kernel_rfl) ?_; unfold D14_15)); simp only [S, TY, reduceCtorEq, nq0, nq1, nq2, nq3, nq4, iq0, iq1, iq2, iq3, iq4, iq5, iq6, iq7, iq8, q8, q12, q16, q17, g7]; (try (simp (disch := omega) only [W2, Int.cast_ofNat_Int]; (try simp only [S, TY, reduceCtorEq, nq0, nq1, nq2, nq3, nq4, iq0, iq1, iq2, iq3, iq4, iq5, iq6, iq7, iq8, q8, q12, q16, q17, g7])))))
    exact hQ _ H h
theorem bothLaw {G : Hp} (life : Int) (hl0 : 0 ≤ life) (hl1 : life ≤ 65535) {v : Value} {l : List AT.den} {cx : List Value} {x : AT.den} (hv : Acts G v l) (hx : AT.R G cx x) : Con Try.prog G 14 [.int .u16 life, v, .agg cx.toArray] [] (fun r B => r = .bool true ∧ B = []) := by
  have hv0 := hv
  obtain ⟨a, n, c, rfl, e1, e2⟩ := hv.shape (by decide)
  obtain ⟨k0, f, now, w0, m0, rfl, hb0, hm0⟩ := act_l hx
  refine Con.intro Try.func14 rfl (Nat.le_of_ble_eq_true (by kernel_rfl)) (by kernel_rfl) Try.results14 ?_
  intro H hH
  ((try simp only [S, TY, reduceCtorEq, nq0, nq1, nq2, nq3, nq4, iq0, iq1, iq2, iq3, iq4, iq5, iq6, iq7, iq8]); (try (simp (disch := omega) only [W2, Int.cast_ofNat_Int]; (try simp only [S, TY, reduceCtorEq, nq0, nq1, nq2, nq3, nq4, iq0, iq1, iq2, iq3, iq4, iq5, iq6, iq7, iq8]))); repeat ((first | (refine cl_drawi 14 D14_14 (List.range 12) (by decide) (by kernel_rfl) ?_; unfold D14_14) | (refine cl_drawi 15 D14_15 (List.range 12) (by decide) (by kernel_rfl) ?_; unfold D14_15)); simp only [S, TY, reduceCtorEq, nq0, nq1, nq2, nq3, nq4, iq0, iq1, iq2, iq3, iq4, iq5, iq6, iq7, iq8]; (try (simp (disch := omega) only [W2, Int.cast_ofNat_Int]; (try simp only [S, TY, reduceCtorEq, nq0, nq1, nq2, nq3, nq4, iq0, iq1, iq2, iq3, iq4, iq5, iq6, iq7, iq8])))))
  intro mq hq hg
  have h0 := hH.new hq hg (.cells #[.int .u8 k0, .int .i64 f.p, .int .u32 f.s, .int .u32 f.d, .int .i64 f.a, .int .i64 f.b, .int .i64 now, w0] 177 (0, 0))
  have w0 := h0.li 0 rfl
  have c0 := h0.c0
  ((try simp only [S, TY, reduceCtorEq, nq0, nq1, nq2, nq3, nq4, iq0, iq1, iq2, iq3, iq4, iq5, iq6, iq7, iq8, w0, c0]); (try (simp (disch := omega) only [W2, Int.cast_ofNat_Int]; (try simp only [S, TY, reduceCtorEq, nq0, nq1, nq2, nq3, nq4, iq0, iq1, iq2, iq3, iq4, iq5, iq6, iq7, iq8, w0, c0]))); repeat ((first | (refine cl_drawi 14 D14_14 (List.range 12) (by decide) (by kernel_rfl) ?_; unfold D14_14) | (refine cl_drawi 15 D14_15 (List.range 12) (by decide) (by kernel_rfl) ?_; unfold D14_15)); simp only [S, TY, reduceCtorEq, nq0, nq1, nq2, nq3, nq4, iq0, iq1, iq2, iq3, iq4, iq5, iq6, iq7, iq8, w0, c0]; (try (simp (disch := omega) only [W2, Int.cast_ofNat_Int]; (try simp only [S, TY, reduceCtorEq, nq0, nq1, nq2, nq3, nq4, iq0, iq1, iq2, iq3, iq4, iq5, iq6, iq7, iq8, w0, c0])))))
  intro fq hq2 hg2
  have h1 := h0.new hq2 hg2 (.cells (Fw.l ⟨0, 0, 0, 0, 0⟩).toArray 175 (0, 0))
  ((try simp only [S, TY, reduceCtorEq, nq0, nq1, nq2, nq3, nq4, iq0, iq1, iq2, iq3, iq4, iq5, iq6, iq7, iq8]); (try (simp (disch := omega) only [W2, Int.cast_ofNat_Int]; (try simp only [S, TY, reduceCtorEq, nq0, nq1, nq2, nq3, nq4, iq0, iq1, iq2, iq3, iq4, iq5, iq6, iq7, iq8]))); repeat ((first | (refine cl_drawi 14 D14_14 (List.range 12) (by decide) (by kernel_rfl) ?_; unfold D14_14) | (refine cl_drawi 15 D14_15 (List.range 12) (by decide) (by kernel_rfl) ?_; unfold D14_15)); simp only [S, TY, reduceCtorEq, nq0, nq1, nq2, nq3, nq4, iq0, iq1, iq2, iq3, iq4, iq5, iq6, iq7, iq8]; (try (simp (disch := omega) only [W2, Int.cast_ofNat_Int]; (try simp only [S, TY, reduceCtorEq, nq0, nq1, nq2, nq3, nq4, iq0, iq1, iq2, iq3, iq4, iq5, iq6, iq7, iq8])))))
  refine sg.st h1 rfl rfl fun H3 h3 => ?_
  simp only [front_eq, fronts_nil, fronts_cons, List.getElem?_cons_zero, List.getElem?_cons_succ, List.eraseIdx_cons_zero, List.eraseIdx_cons_succ, List.cons_append, List.nil_append, putL_cons, putL_nil, List.set_cons_zero, List.set_cons_succ, Nat.reduceAdd] at h3
  have c3 := (h3.front 1).c0
  ((try simp only [S, TY, reduceCtorEq, nq0, nq1, nq2, nq3, nq4, iq0, iq1, iq2, iq3, iq4, iq5, iq6, iq7, iq8, c3]); (try (simp (disch := omega) only [W2, Int.cast_ofNat_Int]; (try simp only [S, TY, reduceCtorEq, nq0, nq1, nq2, nq3, nq4, iq0, iq1, iq2, iq3, iq4, iq5, iq6, iq7, iq8, c3]))); repeat ((first | (refine cl_drawi 14 D14_14 (List.range 12) (by decide) (by kernel_rfl) ?_; unfold D14_14) | (refine cl_drawi 15 D14_15 (List.range 12) (by decide) (by kernel_rfl) ?_; unfold D14_15)); simp only [S, TY, reduceCtorEq, nq0, nq1, nq2, nq3, nq4, iq0, iq1, iq2, iq3, iq4, iq5, iq6, iq7, iq8, c3]; (try (simp (disch := omega) only [W2, Int.cast_ofNat_Int]; (try simp only [S, TY, reduceCtorEq, nq0, nq1, nq2, nq3, nq4, iq0, iq1, iq2, iq3, iq4, iq5, iq6, iq7, iq8, c3])))))
  refine (fits hv0).at_ h3 [] _ rfl fun r B H4 hr h4 => ?_
  obtain ⟨ok, rfl, rfl, hok⟩ := hr
  ((try simp only [S, TY, reduceCtorEq, nq0, nq1, nq2, nq3, nq4, iq0, iq1, iq2, iq3, iq4, iq5, iq6, iq7, iq8]); (try (simp (disch := omega) only [W2, Int.cast_ofNat_Int]; (try simp only [S, TY, reduceCtorEq, nq0, nq1, nq2, nq3, nq4, iq0, iq1, iq2, iq3, iq4, iq5, iq6, iq7, iq8]))); repeat ((first | (refine cl_drawi 14 D14_14 (List.range 12) (by decide) (by kernel_rfl) ?_; unfold D14_14) | (refine cl_drawi 15 D14_15 (List.range 12) (by decide) (by kernel_rfl) ?_; unfold D14_15)); simp only [S, TY, reduceCtorEq, nq0, nq1, nq2, nq3, nq4, iq0, iq1, iq2, iq3, iq4, iq5, iq6, iq7, iq8]; (try (simp (disch := omega) only [W2, Int.cast_ofNat_Int]; (try simp only [S, TY, reduceCtorEq, nq0, nq1, nq2, nq3, nq4, iq0, iq1, iq2, iq3, iq4, iq5, iq6, iq7, iq8])))))
  refine (New_ok (life + 1) (by omega) (by omega)).at_ h4 [] _ rfl fun r B H5 hr h5 => ?_
  obtain ⟨p, rfl, rfl⟩ := hr
  ((try simp only [S, TY, reduceCtorEq, nq0, nq1, nq2, nq3, nq4, iq0, iq1, iq2, iq3, iq4, iq5, iq6, iq7, iq8]); (try (simp (disch := omega) only [W2, Int.cast_ofNat_Int]; (try simp only [S, TY, reduceCtorEq, nq0, nq1, nq2, nq3, nq4, iq0, iq1, iq2, iq3, iq4, iq5, iq6, iq7, iq8]))); repeat ((first | (refine cl_drawi 14 D14_14 (List.range 12) (by decide) (by kernel_rfl) ?_; unfold D14_14) | (refine cl_drawi 15 D14_15 (List.range 12) (by decide) (by kernel_rfl) ?_; unfold D14_15)); simp only [S, TY, reduceCtorEq, nq0, nq1, nq2, nq3, nq4, iq0, iq1, iq2, iq3, iq4, iq5, iq6, iq7, iq8]; (try (simp (disch := omega) only [W2, Int.cast_ofNat_Int]; (try simp only [S, TY, reduceCtorEq, nq0, nq1, nq2, nq3, nq4, iq0, iq1, iq2, iq3, iq4, iq5, iq6, iq7, iq8])))))
  refine (New_ok 1 (by omega) (by omega)).at_ h5 [] _ rfl fun r B H6 hr h6 => ?_
  obtain ⟨pu, rfl, rfl⟩ := hr
  simp only [front_eq, fronts_nil, fronts_cons, List.getElem?_cons_zero, List.getElem?_cons_succ, List.eraseIdx_cons_zero, List.eraseIdx_cons_succ, List.cons_append, List.nil_append, putL_cons, putL_nil, List.set_cons_zero, List.set_cons_succ, Nat.reduceAdd] at h6
  cases ok with
  | false =>
    ((try simp only [S, TY, reduceCtorEq, nq0, nq1, nq2, nq3, nq4, iq0, iq1, iq2, iq3, iq4, iq5, iq6, iq7, iq8]); (try (simp (disch := omega) only [W2, Int.cast_ofNat_Int]; (try simp only [S, TY, reduceCtorEq, nq0, nq1, nq2, nq3, nq4, iq0, iq1, iq2, iq3, iq4, iq5, iq6, iq7, iq8]))); repeat ((first | (refine cl_drawi 14 D14_14 (List.range 12) (by decide) (by kernel_rfl) ?_; unfold D14_14) | (refine cl_drawi 15 D14_15 (List.range 12) (by decide) (by kernel_rfl) ?_; unfold D14_15)); simp only [S, TY, reduceCtorEq, nq0, nq1, nq2, nq3, nq4, iq0, iq1, iq2, iq3, iq4, iq5, iq6, iq7, iq8]; (try (simp (disch := omega) only [W2, Int.cast_ofNat_Int]; (try simp only [S, TY, reduceCtorEq, nq0, nq1, nq2, nq3, nq4, iq0, iq1, iq2, iq3, iq4, iq5, iq6, iq7, iq8])))))
    refine alive.at_ h6 [] _ rfl fun r B H7 hr h7 => ?_
    obtain ⟨rfl, rfl⟩ := hr
    ((try simp only [S, TY, reduceCtorEq, nq0, nq1, nq2, nq3, nq4, iq0, iq1, iq2, iq3, iq4, iq5, iq6, iq7, iq8]); (try (simp (disch := omega) only [W2, Int.cast_ofNat_Int]; (try simp only [S, TY, reduceCtorEq, nq0, nq1, nq2, nq3, nq4, iq0, iq1, iq2, iq3, iq4, iq5, iq6, iq7, iq8]))); repeat ((first | (refine cl_drawi 14 D14_14 (List.range 12) (by decide) (by kernel_rfl) ?_; unfold D14_14) | (refine cl_drawi 15 D14_15 (List.range 12) (by decide) (by kernel_rfl) ?_; unfold D14_15)); simp only [S, TY, reduceCtorEq, nq0, nq1, nq2, nq3, nq4, iq0, iq1, iq2, iq3, iq4, iq5, iq6, iq7, iq8]; (try (simp (disch := omega) only [W2, Int.cast_ofNat_Int]; (try simp only [S, TY, reduceCtorEq, nq0, nq1, nq2, nq3, nq4, iq0, iq1, iq2, iq3, iq4, iq5, iq6, iq7, iq8])))))
    exact fin_take (B := []) h7 ⟨rfl, rfl⟩
  | true =>
    have hn := (hok rfl).1
    ((try simp only [S, TY, reduceCtorEq, nq0, nq1, nq2, nq3, nq4, iq0, iq1, iq2, iq3, iq4, iq5, iq6, iq7, iq8]); (try (simp (disch := omega) only [W2, Int.cast_ofNat_Int]; (try simp only [S, TY, reduceCtorEq, nq0, nq1, nq2, nq3, nq4, iq0, iq1, iq2, iq3, iq4, iq5, iq6, iq7, iq8]))); repeat ((first | (refine cl_drawi 14 D14_14 (List.range 12) (by decide) (by kernel_rfl) ?_; unfold D14_14) | (refine cl_drawi 15 D14_15 (List.range 12) (by decide) (by kernel_rfl) ?_; unfold D14_15)); simp only [S, TY, reduceCtorEq, nq0, nq1, nq2, nq3, nq4, iq0, iq1, iq2, iq3, iq4, iq5, iq6, iq7, iq8]; (try (simp (disch := omega) only [W2, Int.cast_ofNat_Int]; (try simp only [S, TY, reduceCtorEq, nq0, nq1, nq2, nq3, nq4, iq0, iq1, iq2, iq3, iq4, iq5, iq6, iq7, iq8])))))
    refine cl_loop (fun i e H => i ≤ n ∧ e 0 = .int .u16 life ∧ e 1 = .slice a n c ∧ e 7 = .pointer (some ⟨fq, 0, none⟩) ∧ e 8 = .int .i64 now ∧ e 10 = .pointer (some ⟨p, 0, none⟩) ∧ e 12 = .pointer (some ⟨pu, 0, none⟩) ∧ e 14 = .int .i64 (i : Nat) ∧
        ∃ l' : List Rc, Inv l' ∧ sg G [tT p (life + 1) l', tT pu 1 [], ob fq (.cells f.l.toArray 175 (0, 0))] H) (fun i : Nat => n - i) 0
      ⟨by omega, rfl, rfl, rfl, rfl, rfl, rfl, rfl, [], Inv.nil, ⟨h6.1, seps_take (B := [_, _, _]) (h6.fronts [1, 0, 0]).2⟩⟩ ?_
    clear h0 h1 h3 h4 h5 h6 w0 c0 c3
    rintro i e H ⟨q1, q0, q1', q7, q8, q10, q12, q14, l', hi', h⟩
    have h16 := hi'.n
    by_cases g3 : (i : Int) < n
    · obtain ⟨b, off, cs, hl, rfl, hQ, _, hc, hld⟩ := hv0.at (by decide) (i := i) (by omega)
      have hlen := (hok rfl).2 _ (List.getElem_mem hl)
      obtain ⟨k, f1, nw, w, m, rfl, hb, hml⟩ := act_l hQ
      rw [← hml] at hlen
      have hb0' := hb
      obtain ⟨wa, wn, wc, rfl, _, _⟩ := hb.slice
      have g0 : (0 : Int) ≤ i ∧ (i : Int) < n := ⟨by omega, g3⟩
      have n6 : ¬ (6 : Int) = 0 := by decide
      have e0 := hc 0 (by decide)
      have e6 := hc 6 (by decide)
      have e7 := hc 7 (by decide)
      simp only [List.getElem?_cons_zero, List.getElem?_cons_succ, Nat.add_zero] at e0 e6 e7
      replace e0 := h.roc e0
      replace e6 := h.roc e6
      replace e7 := h.roc e7
      have flG : ldl G ⟨b, off + i * 8 + 1, none⟩ 0 5 = some (Fw.l f1) := by
        have := ldl_of (R := G) (b := b) (off := off + i * 8 + 1) (xs := Fw.l f1) (fun k hk => by
          simp only [List.length_cons, List.length_nil] at hk
          rw [Nat.add_assoc (off + i * 8) 1 k, hc (1 + k) (by omega)]
          obtain rfl | rfl | rfl | rfl | rfl : k = 0 ∨ k = 1 ∨ k = 2 ∨ k = 3 ∨ k = 4 := by omega
          all_goals rfl) 5 0 (by simp)
        simpa using this
      have fl := h.rold flG
      by_cases g4 : k.tmod 6 < 4
      · ((try simp only [S, TY, reduceCtorEq, nq0, nq1, nq2, nq3, nq4, iq0, iq1, iq2, iq3, iq4, iq5, iq6, iq7, iq8, q0, q1', q7, q8, q10, q12, q14, g0, g3, e0, e6, e7, fl, n6, g4]); (try (simp (disch := omega) only [W2, Int.cast_ofNat_Int]; (try simp only [S, TY, reduceCtorEq, nq0, nq1, nq2, nq3, nq4, iq0, iq1, iq2, iq3, iq4, iq5, iq6, iq7, iq8, q0, q1', q7, q8, q10, q12, q14, g0, g3, e0, e6, e7, fl, n6, g4]))); repeat ((first | (refine cl_drawi 14 D14_14 (List.range 12) (by decide) (by kernel_rfl) ?_; unfold D14_14) | (refine cl_drawi 15 D14_15 (List.range 12) (by decide) (by kernel_rfl) ?_; unfold D14_15)); simp only [S, TY, reduceCtorEq, nq0, nq1, nq2, nq3, nq4, iq0, iq1, iq2, iq3, iq4, iq5, iq6, iq7, iq8, q0, q1', q7, q8, q10, q12, q14, g0, g3, e0, e6, e7, fl, n6, g4]; (try (simp (disch := omega) only [W2, Int.cast_ofNat_Int]; (try simp only [S, TY, reduceCtorEq, nq0, nq1, nq2, nq3, nq4, iq0, iq1, iq2, iq3, iq4, iq5, iq6, iq7, iq8, q0, q1', q7, q8, q10, q12, q14, g0, g3, e0, e6, e7, fl, n6, g4])))))
        refine (Note_ok f1 nw (by omega) (by omega) (by omega)).at_ h [0] _ rfl fun r B H4 hr h4 => ?_
        obtain ⟨rfl, rfl⟩ := hr
        ((try simp only [S, TY, reduceCtorEq, nq0, nq1, nq2, nq3, nq4, iq0, iq1, iq2, iq3, iq4, iq5, iq6, iq7, iq8, q0, q1', q7, q8, q10, q12, q14]); (try (simp (disch := omega) only [W2, Int.cast_ofNat_Int]; (try simp only [S, TY, reduceCtorEq, nq0, nq1, nq2, nq3, nq4, iq0, iq1, iq2, iq3, iq4, iq5, iq6, iq7, iq8, q0, q1', q7, q8, q10, q12, q14]))); repeat ((first | (refine cl_drawi 14 D14_14 (List.range 12) (by decide) (by kernel_rfl) ?_; unfold D14_14) | (refine cl_drawi 15 D14_15 (List.range 12) (by decide) (by kernel_rfl) ?_; unfold D14_15)); simp only [S, TY, reduceCtorEq, nq0, nq1, nq2, nq3, nq4, iq0, iq1, iq2, iq3, iq4, iq5, iq6, iq7, iq8, q0, q1', q7, q8, q10, q12, q14]; (try (simp (disch := omega) only [W2, Int.cast_ofNat_Int]; (try simp only [S, TY, reduceCtorEq, nq0, nq1, nq2, nq3, nq4, iq0, iq1, iq2, iq3, iq4, iq5, iq6, iq7, iq8, q0, q1', q7, q8, q10, q12, q14])))))
        exact .go (i + 1) (by omega) ⟨by omega, q0, q1', q7, q8, q10, q12, rfl, _, hi'.note _ _ _, h4⟩
      · ((try simp only [S, TY, reduceCtorEq, nq0, nq1, nq2, nq3, nq4, iq0, iq1, iq2, iq3, iq4, iq5, iq6, iq7, iq8, q0, q1', q7, q8, q10, q12, q14, g0, g3, e0, e6, e7, fl, n6, g4]); (try (simp (disch := omega) only [W2, Int.cast_ofNat_Int]; (try simp only [S, TY, reduceCtorEq, nq0, nq1, nq2, nq3, nq4, iq0, iq1, iq2, iq3, iq4, iq5, iq6, iq7, iq8, q0, q1', q7, q8, q10, q12, q14, g0, g3, e0, e6, e7, fl, n6, g4]))); repeat ((first | (refine cl_drawi 14 D14_14 (List.range 12) (by decide) (by kernel_rfl) ?_; unfold D14_14) | (refine cl_drawi 15 D14_15 (List.range 12) (by decide) (by kernel_rfl) ?_; unfold D14_15)); simp only [S, TY, reduceCtorEq, nq0, nq1, nq2, nq3, nq4, iq0, iq1, iq2, iq3, iq4, iq5, iq6, iq7, iq8, q0, q1', q7, q8, q10, q12, q14, g0, g3, e0, e6, e7, fl, n6, g4]; (try (simp (disch := omega) only [W2, Int.cast_ofNat_Int]; (try simp only [S, TY, reduceCtorEq, nq0, nq1, nq2, nq3, nq4, iq0, iq1, iq2, iq3, iq4, iq5, iq6, iq7, iq8, q0, q1', q7, q8, q10, q12, q14, g0, g3, e0, e6, e7, fl, n6, g4])))))
        refine (Import_ok nw hb0' (by omega) (by omega)).at_ h [0] _ rfl fun r B H4 hr h4 => ?_
        obtain ⟨rfl, rfl⟩ := hr
        ((try simp only [S, TY, reduceCtorEq, nq0, nq1, nq2, nq3, nq4, iq0, iq1, iq2, iq3, iq4, iq5, iq6, iq7, iq8, q0, q1', q7, q8, q10, q12, q14]); (try (simp (disch := omega) only [W2, Int.cast_ofNat_Int]; (try simp only [S, TY, reduceCtorEq, nq0, nq1, nq2, nq3, nq4, iq0, iq1, iq2, iq3, iq4, iq5, iq6, iq7, iq8, q0, q1', q7, q8, q10, q12, q14]))); repeat ((first | (refine cl_drawi 14 D14_14 (List.range 12) (by decide) (by kernel_rfl) ?_; unfold D14_14) | (refine cl_drawi 15 D14_15 (List.range 12) (by decide) (by kernel_rfl) ?_; unfold D14_15)); simp only [S, TY, reduceCtorEq, nq0, nq1, nq2, nq3, nq4, iq0, iq1, iq2, iq3, iq4, iq5, iq6, iq7, iq8, q0, q1', q7, q8, q10, q12, q14]; (try (simp (disch := omega) only [W2, Int.cast_ofNat_Int]; (try simp only [S, TY, reduceCtorEq, nq0, nq1, nq2, nq3, nq4, iq0, iq1, iq2, iq3, iq4, iq5, iq6, iq7, iq8, q0, q1', q7, q8, q10, q12, q14])))))
        exact .go (i + 1) (by omega) ⟨by omega, q0, q1', q7, q8, q10, q12, rfl, _, hi'.imp _ _, h4⟩
    · have w2 := h.li 2 rfl
      ((try simp only [S, TY, reduceCtorEq, nq0, nq1, nq2, nq3, nq4, iq0, iq1, iq2, iq3, iq4, iq5, iq6, iq7, iq8, q0, q1', q7, q8, q10, q12, q14, g3, w2]); (try (simp (disch := omega) only [W2, Int.cast_ofNat_Int]; (try simp only [S, TY, reduceCtorEq, nq0, nq1, nq2, nq3, nq4, iq0, iq1, iq2, iq3, iq4, iq5, iq6, iq7, iq8, q0, q1', q7, q8, q10, q12, q14, g3, w2]))); repeat ((first | (refine cl_drawi 14 D14_14 (List.range 12) (by decide) (by kernel_rfl) ?_; unfold D14_14) | (refine cl_drawi 15 D14_15 (List.range 12) (by decide) (by kernel_rfl) ?_; unfold D14_15)); simp only [S, TY, reduceCtorEq, nq0, nq1, nq2, nq3, nq4, iq0, iq1, iq2, iq3, iq4, iq5, iq6, iq7, iq8, q0, q1', q7, q8, q10, q12, q14, g3, w2]; (try (simp (disch := omega) only [W2, Int.cast_ofNat_Int]; (try simp only [S, TY, reduceCtorEq, nq0, nq1, nq2, nq3, nq4, iq0, iq1, iq2, iq3, iq4, iq5, iq6, iq7, iq8, q0, q1', q7, q8, q10, q12, q14, g3, w2])))))
      refine (Note_ok f now (by omega) (by omega) (by omega)).at_ h [0] _ rfl fun r B H4 hr h4 => ?_
      obtain ⟨rfl, rfl⟩ := hr
      by_cases g5 : (note (life + 1) l' f now).2 = 0
      · obtain ⟨ht, y, hy, ha, hu⟩ := note_yes g5
        have hi2 := hi'.note (life + 1) f now
        obtain ⟨l2, hl2⟩ : ∃ l2, (note (life + 1) l' f now).1 = l2 := ⟨_, rfl⟩
        rw [hl2] at h4 hy hi2
        rw [g5]
        have h16' := hi2.n
        have htt : 0 ≤ now ∧ now ≤ 1099511627776 := by unfold tok at ht; simpa using ht
        have w4 := h4.li 2 rfl
        ((try simp only [S, TY, reduceCtorEq, nq0, nq1, nq2, nq3, nq4, iq0, iq1, iq2, iq3, iq4, iq5, iq6, iq7, iq8, q0, q1', q7, q8, q10, q12, q14, w4]); (try (simp (disch := omega) only [W2, Int.cast_ofNat_Int]; (try simp only [S, TY, reduceCtorEq, nq0, nq1, nq2, nq3, nq4, iq0, iq1, iq2, iq3, iq4, iq5, iq6, iq7, iq8, q0, q1', q7, q8, q10, q12, q14, w4]))); repeat ((first | (refine cl_drawi 14 D14_14 (List.range 12) (by decide) (by kernel_rfl) ?_; unfold D14_14) | (refine cl_drawi 15 D14_15 (List.range 12) (by decide) (by kernel_rfl) ?_; unfold D14_15)); simp only [S, TY, reduceCtorEq, nq0, nq1, nq2, nq3, nq4, iq0, iq1, iq2, iq3, iq4, iq5, iq6, iq7, iq8, q0, q1', q7, q8, q10, q12, q14, w4]; (try (simp (disch := omega) only [W2, Int.cast_ofNat_Int]; (try simp only [S, TY, reduceCtorEq, nq0, nq1, nq2, nq3, nq4, iq0, iq1, iq2, iq3, iq4, iq5, iq6, iq7, iq8, q0, q1', q7, q8, q10, q12, q14, w4])))))
        obtain ⟨last, hL⟩ : ∃ z : Int, (if 1099511627775 < now + life then 1099511627775 else now + life) = z := ⟨_, rfl⟩
        rw [hL]
        have hL2 : last < y.u := by
          by_cases z : 1099511627775 < now + life
          · rw [if_pos z] at hL; omega
          · rw [if_neg z] at hL; omega
        by_cases g6 : now ≤ last
        · refine Gate.yes g6 ?_
          ((try simp only [S, TY, reduceCtorEq, nq0, nq1, nq2, nq3, nq4, iq0, iq1, iq2, iq3, iq4, iq5, iq6, iq7, iq8, q0, q1', q7, q8, q10, q12, q14, w4, g6]); (try (simp (disch := omega) only [W2, Int.cast_ofNat_Int]; (try simp only [S, TY, reduceCtorEq, nq0, nq1, nq2, nq3, nq4, iq0, iq1, iq2, iq3, iq4, iq5, iq6, iq7, iq8, q0, q1', q7, q8, q10, q12, q14, w4, g6]))); repeat ((first | (refine cl_drawi 14 D14_14 (List.range 12) (by decide) (by kernel_rfl) ?_; unfold D14_14) | (refine cl_drawi 15 D14_15 (List.range 12) (by decide) (by kernel_rfl) ?_; unfold D14_15)); simp only [S, TY, reduceCtorEq, nq0, nq1, nq2, nq3, nq4, iq0, iq1, iq2, iq3, iq4, iq5, iq6, iq7, iq8, q0, q1', q7, q8, q10, q12, q14, w4, g6]; (try (simp (disch := omega) only [W2, Int.cast_ofNat_Int]; (try simp only [S, TY, reduceCtorEq, nq0, nq1, nq2, nq3, nq4, iq0, iq1, iq2, iq3, iq4, iq5, iq6, iq7, iq8, q0, q1', q7, q8, q10, q12, q14, w4, g6])))))
          refine (Known_ok f last (by omega)).at_ h4 [0] _ rfl fun r B H5 hr h5 => ?_
          obtain ⟨rfl, rfl⟩ := hr
          rw [known_of hy ha hL2]
          simp only [front_eq, fronts_nil, fronts_cons, List.getElem?_cons_zero, List.getElem?_cons_succ, List.eraseIdx_cons_zero, List.eraseIdx_cons_succ, List.cons_append, List.nil_append, putL_cons, putL_nil, List.set_cons_zero, List.set_cons_succ, Nat.reduceAdd] at h5
          have w5 := h5.li 2 rfl
          ((try simp only [S, TY, reduceCtorEq, nq0, nq1, nq2, nq3, nq4, iq0, iq1, iq2, iq3, iq4, iq5, iq6, iq7, iq8, q0, q1', q7, q8, q10, q12, q14, w5, g6]); (try (simp (disch := omega) only [W2, Int.cast_ofNat_Int]; (try simp only [S, TY, reduceCtorEq, nq0, nq1, nq2, nq3, nq4, iq0, iq1, iq2, iq3, iq4, iq5, iq6, iq7, iq8, q0, q1', q7, q8, q10, q12, q14, w5, g6]))); repeat ((first | (refine cl_drawi 14 D14_14 (List.range 12) (by decide) (by kernel_rfl) ?_; unfold D14_14) | (refine cl_drawi 15 D14_15 (List.range 12) (by decide) (by kernel_rfl) ?_; unfold D14_15)); simp only [S, TY, reduceCtorEq, nq0, nq1, nq2, nq3, nq4, iq0, iq1, iq2, iq3, iq4, iq5, iq6, iq7, iq8, q0, q1', q7, q8, q10, q12, q14, w5, g6]; (try (simp (disch := omega) only [W2, Int.cast_ofNat_Int]; (try simp only [S, TY, reduceCtorEq, nq0, nq1, nq2, nq3, nq4, iq0, iq1, iq2, iq3, iq4, iq5, iq6, iq7, iq8, q0, q1', q7, q8, q10, q12, q14, w5, g6])))))
          refine (dBack_ok f).at_ h5 [] _ rfl fun r B H6 hr h6 => ?_
          obtain ⟨rfl, rfl⟩ := hr
          ((try simp only [S, TY, reduceCtorEq, nq0, nq1, nq2, nq3, nq4, iq0, iq1, iq2, iq3, iq4, iq5, iq6, iq7, iq8, q0, q1', q7, q8, q10, q12, q14, g6]); (try (simp (disch := omega) only [W2, Int.cast_ofNat_Int]; (try simp only [S, TY, reduceCtorEq, nq0, nq1, nq2, nq3, nq4, iq0, iq1, iq2, iq3, iq4, iq5, iq6, iq7, iq8, q0, q1', q7, q8, q10, q12, q14, g6]))); repeat ((first | (refine cl_drawi 14 D14_14 (List.range 12) (by decide) (by kernel_rfl) ?_; unfold D14_14) | (refine cl_drawi 15 D14_15 (List.range 12) (by decide) (by kernel_rfl) ?_; unfold D14_15)); simp only [S, TY, reduceCtorEq, nq0, nq1, nq2, nq3, nq4, iq0, iq1, iq2, iq3, iq4, iq5, iq6, iq7, iq8, q0, q1', q7, q8, q10, q12, q14, g6]; (try (simp (disch := omega) only [W2, Int.cast_ofNat_Int]; (try simp only [S, TY, reduceCtorEq, nq0, nq1, nq2, nq3, nq4, iq0, iq1, iq2, iq3, iq4, iq5, iq6, iq7, iq8, q0, q1', q7, q8, q10, q12, q14, g6])))))
          refine (Known_ok f.back now (by omega)).at_ h6 [0] _ rfl fun r B H7 hr h7 => ?_
          obtain ⟨rfl, rfl⟩ := hr
          rw [known_of hy (alike_back ha) (by omega)]
          simp only [front_eq, fronts_nil, fronts_cons, List.getElem?_cons_zero, List.getElem?_cons_succ, List.eraseIdx_cons_zero, List.eraseIdx_cons_succ, List.cons_append, List.nil_append, putL_cons, putL_nil, List.set_cons_zero, List.set_cons_succ, Nat.reduceAdd] at h7
          ((try simp only [S, TY, reduceCtorEq, nq0, nq1, nq2, nq3, nq4, iq0, iq1, iq2, iq3, iq4, iq5, iq6, iq7, iq8, q0, q1', q7, q8, q10, q12, q14, g6]); (try (simp (disch := omega) only [W2, Int.cast_ofNat_Int]; (try simp only [S, TY, reduceCtorEq, nq0, nq1, nq2, nq3, nq4, iq0, iq1, iq2, iq3, iq4, iq5, iq6, iq7, iq8, q0, q1', q7, q8, q10, q12, q14, g6]))); repeat ((first | (refine cl_drawi 14 D14_14 (List.range 12) (by decide) (by kernel_rfl) ?_; unfold D14_14) | (refine cl_drawi 15 D14_15 (List.range 12) (by decide) (by kernel_rfl) ?_; unfold D14_15)); simp only [S, TY, reduceCtorEq, nq0, nq1, nq2, nq3, nq4, iq0, iq1, iq2, iq3, iq4, iq5, iq6, iq7, iq8, q0, q1', q7, q8, q10, q12, q14, g6]; (try (simp (disch := omega) only [W2, Int.cast_ofNat_Int]; (try simp only [S, TY, reduceCtorEq, nq0, nq1, nq2, nq3, nq4, iq0, iq1, iq2, iq3, iq4, iq5, iq6, iq7, iq8, q0, q1', q7, q8, q10, q12, q14, g6])))))
          refine (Records_ok (now := now) (by omega)).at_ h7 [0] _ rfl fun r B H8 hr h8 => ?_
          subst hr
          obtain ⟨ra, rn, rc, rfl, f1, _⟩ := h8.sl 0 rfl Rd_own
          simp only [front_eq, fronts_nil, fronts_cons, List.getElem?_cons_zero, List.getElem?_cons_succ, List.eraseIdx_cons_zero, List.eraseIdx_cons_succ, List.cons_append, List.nil_append, putL_cons, putL_nil, List.set_cons_zero, List.set_cons_succ, Nat.reduceAdd] at h8
          have hi3 := hi2.live now
          obtain ⟨R, hR⟩ : ∃ z, live l2 now = z := ⟨_, rfl⟩
          have hRl : ∀ x ∈ R, now < x.u := by intro x hx; rw [← hR] at hx; exact live_lt hx
          rw [hR] at h8 f1 hi3
          rw [flat_len Rc.len] at f1
          have hR16 := hi3.n
          obtain rfl : R.length = rn := by omega
          clear f1
          ((try simp only [S, TY, reduceCtorEq, nq0, nq1, nq2, nq3, nq4, iq0, iq1, iq2, iq3, iq4, iq5, iq6, iq7, iq8, q0, q1', q7, q8, q10, q12, q14]); (try (simp (disch := omega) only [W2, Int.cast_ofNat_Int]; (try simp only [S, TY, reduceCtorEq, nq0, nq1, nq2, nq3, nq4, iq0, iq1, iq2, iq3, iq4, iq5, iq6, iq7, iq8, q0, q1', q7, q8, q10, q12, q14]))); repeat ((first | (refine cl_drawi 14 D14_14 (List.range 12) (by decide) (by kernel_rfl) ?_; unfold D14_14) | (refine cl_drawi 15 D14_15 (List.range 12) (by decide) (by kernel_rfl) ?_; unfold D14_15)); simp only [S, TY, reduceCtorEq, nq0, nq1, nq2, nq3, nq4, iq0, iq1, iq2, iq3, iq4, iq5, iq6, iq7, iq8, q0, q1', q7, q8, q10, q12, q14]; (try (simp (disch := omega) only [W2, Int.cast_ofNat_Int]; (try simp only [S, TY, reduceCtorEq, nq0, nq1, nq2, nq3, nq4, iq0, iq1, iq2, iq3, iq4, iq5, iq6, iq7, iq8, q0, q1', q7, q8, q10, q12, q14])))))
          refine Con.lend_at [tT pu 1 []] [own 187 6 _ (R.flatMap Rc.l)] h8 [2, 0] rfl (fun F hF hs => Import_ok now (seps_own hs 0 rfl).left (by omega) (by simp)) (fun r B H9 hr h9 => ?_)
          obtain ⟨rfl, rfl⟩ := hr
          rw [imp_all ht hi3 hRl] at h9 ⊢
          simp only [front_eq, fronts_nil, fronts_cons, List.getElem?_cons_zero, List.getElem?_cons_succ, List.eraseIdx_cons_zero, List.eraseIdx_cons_succ, List.cons_append, List.nil_append, putL_cons, putL_nil, List.set_cons_zero, List.set_cons_succ, Nat.reduceAdd] at h9
          ((try simp only [S, TY, reduceCtorEq, nq0, nq1, nq2, nq3, nq4, iq0, iq1, iq2, iq3, iq4, iq5, iq6, iq7, iq8, q0, q1', q7, q8, q10, q12, q14]); (try (simp (disch := omega) only [W2, Int.cast_ofNat_Int]; (try simp only [S, TY, reduceCtorEq, nq0, nq1, nq2, nq3, nq4, iq0, iq1, iq2, iq3, iq4, iq5, iq6, iq7, iq8, q0, q1', q7, q8, q10, q12, q14]))); repeat ((first | (refine cl_drawi 14 D14_14 (List.range 12) (by decide) (by kernel_rfl) ?_; unfold D14_14) | (refine cl_drawi 15 D14_15 (List.range 12) (by decide) (by kernel_rfl) ?_; unfold D14_15)); simp only [S, TY, reduceCtorEq, nq0, nq1, nq2, nq3, nq4, iq0, iq1, iq2, iq3, iq4, iq5, iq6, iq7, iq8, q0, q1', q7, q8, q10, q12, q14]; (try (simp (disch := omega) only [W2, Int.cast_ofNat_Int]; (try simp only [S, TY, reduceCtorEq, nq0, nq1, nq2, nq3, nq4, iq0, iq1, iq2, iq3, iq4, iq5, iq6, iq7, iq8, q0, q1', q7, q8, q10, q12, q14])))))
          refine recs_loop (rc := rc) hR16 htt.1 hRl hi3.u q8 q12 rfl rfl ⟨h9.1, seps_take (B := [_, _]) h9.2⟩ (fun e' H' h' => ?_)
          ((try simp only [S, TY, reduceCtorEq, nq0, nq1, nq2, nq3, nq4, iq0, iq1, iq2, iq3, iq4, iq5, iq6, iq7, iq8]); (try (simp (disch := omega) only [W2, Int.cast_ofNat_Int]; (try simp only [S, TY, reduceCtorEq, nq0, nq1, nq2, nq3, nq4, iq0, iq1, iq2, iq3, iq4, iq5, iq6, iq7, iq8]))); repeat ((first | (refine cl_drawi 14 D14_14 (List.range 12) (by decide) (by kernel_rfl) ?_; unfold D14_14) | (refine cl_drawi 15 D14_15 (List.range 12) (by decide) (by kernel_rfl) ?_; unfold D14_15)); simp only [S, TY, reduceCtorEq, nq0, nq1, nq2, nq3, nq4, iq0, iq1, iq2, iq3, iq4, iq5, iq6, iq7, iq8]; (try (simp (disch := omega) only [W2, Int.cast_ofNat_Int]; (try simp only [S, TY, reduceCtorEq, nq0, nq1, nq2, nq3, nq4, iq0, iq1, iq2, iq3, iq4, iq5, iq6, iq7, iq8])))))
          refine alive.at_ h' [] _ rfl fun r B H2 hr h2 => ?_
          obtain ⟨rfl, rfl⟩ := hr
          ((try simp only [S, TY, reduceCtorEq, nq0, nq1, nq2, nq3, nq4, iq0, iq1, iq2, iq3, iq4, iq5, iq6, iq7, iq8]); (try (simp (disch := omega) only [W2, Int.cast_ofNat_Int]; (try simp only [S, TY, reduceCtorEq, nq0, nq1, nq2, nq3, nq4, iq0, iq1, iq2, iq3, iq4, iq5, iq6, iq7, iq8]))); repeat ((first | (refine cl_drawi 14 D14_14 (List.range 12) (by decide) (by kernel_rfl) ?_; unfold D14_14) | (refine cl_drawi 15 D14_15 (List.range 12) (by decide) (by kernel_rfl) ?_; unfold D14_15)); simp only [S, TY, reduceCtorEq, nq0, nq1, nq2, nq3, nq4, iq0, iq1, iq2, iq3, iq4, iq5, iq6, iq7, iq8]; (try (simp (disch := omega) only [W2, Int.cast_ofNat_Int]; (try simp only [S, TY, reduceCtorEq, nq0, nq1, nq2, nq3, nq4, iq0, iq1, iq2, iq3, iq4, iq5, iq6, iq7, iq8])))))
          exact fin_take (B := []) h2 ⟨rfl, rfl⟩
        · refine Gate.no g6 ?_
          ((try simp only [S, TY, reduceCtorEq, nq0, nq1, nq2, nq3, nq4, iq0, iq1, iq2, iq3, iq4, iq5, iq6, iq7, iq8, q0, q1', q7, q8, q10, q12, q14, w4, g6]); (try (simp (disch := omega) only [W2, Int.cast_ofNat_Int]; (try simp only [S, TY, reduceCtorEq, nq0, nq1, nq2, nq3, nq4, iq0, iq1, iq2, iq3, iq4, iq5, iq6, iq7, iq8, q0, q1', q7, q8, q10, q12, q14, w4, g6]))); repeat ((first | (refine cl_drawi 14 D14_14 (List.range 12) (by decide) (by kernel_rfl) ?_; unfold D14_14) | (refine cl_drawi 15 D14_15 (List.range 12) (by decide) (by kernel_rfl) ?_; unfold D14_15)); simp only [S, TY, reduceCtorEq, nq0, nq1, nq2, nq3, nq4, iq0, iq1, iq2, iq3, iq4, iq5, iq6, iq7, iq8, q0, q1', q7, q8, q10, q12, q14, w4, g6]; (try (simp (disch := omega) only [W2, Int.cast_ofNat_Int]; (try simp only [S, TY, reduceCtorEq, nq0, nq1, nq2, nq3, nq4, iq0, iq1, iq2, iq3, iq4, iq5, iq6, iq7, iq8, q0, q1', q7, q8, q10, q12, q14, w4, g6])))))
          refine (Records_ok (now := now) (by omega)).at_ h4 [0] _ rfl fun r B H8 hr h8 => ?_
          subst hr
          obtain ⟨ra, rn, rc, rfl, f1, _⟩ := h8.sl 0 rfl Rd_own
          simp only [front_eq, fronts_nil, fronts_cons, List.getElem?_cons_zero, List.getElem?_cons_succ, List.eraseIdx_cons_zero, List.eraseIdx_cons_succ, List.cons_append, List.nil_append, putL_cons, putL_nil, List.set_cons_zero, List.set_cons_succ, Nat.reduceAdd] at h8
          have hi3 := hi2.live now
          obtain ⟨R, hR⟩ : ∃ z, live l2 now = z := ⟨_, rfl⟩
          have hRl : ∀ x ∈ R, now < x.u := by intro x hx; rw [← hR] at hx; exact live_lt hx
          rw [hR] at h8 f1 hi3
          rw [flat_len Rc.len] at f1
          have hR16 := hi3.n
          obtain rfl : R.length = rn := by omega
          clear f1
          ((try simp only [S, TY, reduceCtorEq, nq0, nq1, nq2, nq3, nq4, iq0, iq1, iq2, iq3, iq4, iq5, iq6, iq7, iq8, q0, q1', q7, q8, q10, q12, q14]); (try (simp (disch := omega) only [W2, Int.cast_ofNat_Int]; (try simp only [S, TY, reduceCtorEq, nq0, nq1, nq2, nq3, nq4, iq0, iq1, iq2, iq3, iq4, iq5, iq6, iq7, iq8, q0, q1', q7, q8, q10, q12, q14]))); repeat ((first | (refine cl_drawi 14 D14_14 (List.range 12) (by decide) (by kernel_rfl) ?_; unfold D14_14) | (refine cl_drawi 15 D14_15 (List.range 12) (by decide) (by kernel_rfl) ?_; unfold D14_15)); simp only [S, TY, reduceCtorEq, nq0, nq1, nq2, nq3, nq4, iq0, iq1, iq2, iq3, iq4, iq5, iq6, iq7, iq8, q0, q1', q7, q8, q10, q12, q14]; (try (simp (disch := omega) only [W2, Int.cast_ofNat_Int]; (try simp only [S, TY, reduceCtorEq, nq0, nq1, nq2, nq3, nq4, iq0, iq1, iq2, iq3, iq4, iq5, iq6, iq7, iq8, q0, q1', q7, q8, q10, q12, q14])))))
          refine Con.lend_at [tT pu 1 []] [own 187 6 _ (R.flatMap Rc.l)] h8 [2, 0] rfl (fun F hF hs => Import_ok now (seps_own hs 0 rfl).left (by omega) (by simp)) (fun r B H9 hr h9 => ?_)
          obtain ⟨rfl, rfl⟩ := hr
          rw [imp_all ht hi3 hRl] at h9 ⊢
          simp only [front_eq, fronts_nil, fronts_cons, List.getElem?_cons_zero, List.getElem?_cons_succ, List.eraseIdx_cons_zero, List.eraseIdx_cons_succ, List.cons_append, List.nil_append, putL_cons, putL_nil, List.set_cons_zero, List.set_cons_succ, Nat.reduceAdd] at h9
          ((try simp only [S, TY, reduceCtorEq, nq0, nq1, nq2, nq3, nq4, iq0, iq1, iq2, iq3, iq4, iq5, iq6, iq7, iq8, q0, q1', q7, q8, q10, q12, q14]); (try (simp (disch := omega) only [W2, Int.cast_ofNat_Int]; (try simp only [S, TY, reduceCtorEq, nq0, nq1, nq2, nq3, nq4, iq0, iq1, iq2, iq3, iq4, iq5, iq6, iq7, iq8, q0, q1', q7, q8, q10, q12, q14]))); repeat ((first | (refine cl_drawi 14 D14_14 (List.range 12) (by decide) (by kernel_rfl) ?_; unfold D14_14) | (refine cl_drawi 15 D14_15 (List.range 12) (by decide) (by kernel_rfl) ?_; unfold D14_15)); simp only [S, TY, reduceCtorEq, nq0, nq1, nq2, nq3, nq4, iq0, iq1, iq2, iq3, iq4, iq5, iq6, iq7, iq8, q0, q1', q7, q8, q10, q12, q14]; (try (simp (disch := omega) only [W2, Int.cast_ofNat_Int]; (try simp only [S, TY, reduceCtorEq, nq0, nq1, nq2, nq3, nq4, iq0, iq1, iq2, iq3, iq4, iq5, iq6, iq7, iq8, q0, q1', q7, q8, q10, q12, q14])))))
          refine recs_loop (rc := rc) hR16 htt.1 hRl hi3.u q8 q12 rfl rfl ⟨h9.1, seps_take (B := [_, _]) h9.2⟩ (fun e' H' h' => ?_)
          ((try simp only [S, TY, reduceCtorEq, nq0, nq1, nq2, nq3, nq4, iq0, iq1, iq2, iq3, iq4, iq5, iq6, iq7, iq8]); (try (simp (disch := omega) only [W2, Int.cast_ofNat_Int]; (try simp only [S, TY, reduceCtorEq, nq0, nq1, nq2, nq3, nq4, iq0, iq1, iq2, iq3, iq4, iq5, iq6, iq7, iq8]))); repeat ((first | (refine cl_drawi 14 D14_14 (List.range 12) (by decide) (by kernel_rfl) ?_; unfold D14_14) | (refine cl_drawi 15 D14_15 (List.range 12) (by decide) (by kernel_rfl) ?_; unfold D14_15)); simp only [S, TY, reduceCtorEq, nq0, nq1, nq2, nq3, nq4, iq0, iq1, iq2, iq3, iq4, iq5, iq6, iq7, iq8]; (try (simp (disch := omega) only [W2, Int.cast_ofNat_Int]; (try simp only [S, TY, reduceCtorEq, nq0, nq1, nq2, nq3, nq4, iq0, iq1, iq2, iq3, iq4, iq5, iq6, iq7, iq8])))))
          refine alive.at_ h' [] _ rfl fun r B H2 hr h2 => ?_
          obtain ⟨rfl, rfl⟩ := hr
          ((try simp only [S, TY, reduceCtorEq, nq0, nq1, nq2, nq3, nq4, iq0, iq1, iq2, iq3, iq4, iq5, iq6, iq7, iq8]); (try (simp (disch := omega) only [W2, Int.cast_ofNat_Int]; (try simp only [S, TY, reduceCtorEq, nq0, nq1, nq2, nq3, nq4, iq0, iq1, iq2, iq3, iq4, iq5, iq6, iq7, iq8]))); repeat ((first | (refine cl_drawi 14 D14_14 (List.range 12) (by decide) (by kernel_rfl) ?_; unfold D14_14) | (refine cl_drawi 15 D14_15 (List.range 12) (by decide) (by kernel_rfl) ?_; unfold D14_15)); simp only [S, TY, reduceCtorEq, nq0, nq1, nq2, nq3, nq4, iq0, iq1, iq2, iq3, iq4, iq5, iq6, iq7, iq8]; (try (simp (disch := omega) only [W2, Int.cast_ofNat_Int]; (try simp only [S, TY, reduceCtorEq, nq0, nq1, nq2, nq3, nq4, iq0, iq1, iq2, iq3, iq4, iq5, iq6, iq7, iq8])))))
          exact fin_take (B := []) h2 ⟨rfl, rfl⟩
      · ((try simp only [S, TY, reduceCtorEq, nq0, nq1, nq2, nq3, nq4, iq0, iq1, iq2, iq3, iq4, iq5, iq6, iq7, iq8, q0, q1', q7, q8, q10, q12, q14, g5]); (try (simp (disch := omega) only [W2, Int.cast_ofNat_Int]; (try simp only [S, TY, reduceCtorEq, nq0, nq1, nq2, nq3, nq4, iq0, iq1, iq2, iq3, iq4, iq5, iq6, iq7, iq8, q0, q1', q7, q8, q10, q12, q14, g5]))); repeat ((first | (refine cl_drawi 14 D14_14 (List.range 12) (by decide) (by kernel_rfl) ?_; unfold D14_14) | (refine cl_drawi 15 D14_15 (List.range 12) (by decide) (by kernel_rfl) ?_; unfold D14_15)); simp only [S, TY, reduceCtorEq, nq0, nq1, nq2, nq3, nq4, iq0, iq1, iq2, iq3, iq4, iq5, iq6, iq7, iq8, q0, q1', q7, q8, q10, q12, q14, g5]; (try (simp (disch := omega) only [W2, Int.cast_ofNat_Int]; (try simp only [S, TY, reduceCtorEq, nq0, nq1, nq2, nq3, nq4, iq0, iq1, iq2, iq3, iq4, iq5, iq6, iq7, iq8, q0, q1', q7, q8, q10, q12, q14, g5])))))
        refine alive.at_ h4 [] _ rfl fun r B H5 hr h5 => ?_
        obtain ⟨rfl, rfl⟩ := hr
        ((try simp only [S, TY, reduceCtorEq, nq0, nq1, nq2, nq3, nq4, iq0, iq1, iq2, iq3, iq4, iq5, iq6, iq7, iq8]); (try (simp (disch := omega) only [W2, Int.cast_ofNat_Int]; (try simp only [S, TY, reduceCtorEq, nq0, nq1, nq2, nq3, nq4, iq0, iq1, iq2, iq3, iq4, iq5, iq6, iq7, iq8]))); repeat ((first | (refine cl_drawi 14 D14_14 (List.range 12) (by decide) (by kernel_rfl) ?_; unfold D14_14) | (refine cl_drawi 15 D14_15 (List.range 12) (by decide) (by kernel_rfl) ?_; unfold D14_15)); simp only [S, TY, reduceCtorEq, nq0, nq1, nq2, nq3, nq4, iq0, iq1, iq2, iq3, iq4, iq5, iq6, iq7, iq8]; (try (simp (disch := omega) only [W2, Int.cast_ofNat_Int]; (try simp only [S, TY, reduceCtorEq, nq0, nq1, nq2, nq3, nq4, iq0, iq1, iq2, iq3, iq4, iq5, iq6, iq7, iq8])))))
        exact fin_take (B := []) h5 ⟨rfl, rfl⟩
theorem bothV {G : Hp} {v0 v1 v2 : Value} {y0 : (Ty.int .u16).den} {y1 : (Ty.sl AT).den} {y2 : AT.den} (h0 : Ty.V G (.int .u16) v0 y0) (h1 : Ty.V G (.sl AT) v1 y1) (h2 : Ty.V G AT v2 y2) :
    Con Try.prog G 14 [v0, v1, v2] [] (fun r B => r = .bool true ∧ B = []) := by
  rcases h0 with ⟨h, _⟩ | ⟨_, h0, hy⟩
  · cases h
  rcases h1 with ⟨h, _⟩ | ⟨_, w, h1, hv⟩
  · cases h
  rcases h2 with ⟨_, cx, h2, hx⟩ | ⟨h, _⟩
  · cases h0; cases h1; cases h2
    simp only [Lit.wf, IntKind.min, IntKind.max, IntKind.signed, IntKind.bits, Bool.and_eq_true, decide_eq_true_eq] at hy
    exact bothLaw _ (by have := hy.1; simpa using this) (by have := hy.2; simp at this; omega) hv hx
  · cases h
end Go.Proofs.Ytanhmbdcdbcfmaa.TkY
