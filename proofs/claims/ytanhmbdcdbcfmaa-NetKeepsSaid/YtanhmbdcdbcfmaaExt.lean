/- Functions without a body that the model knows by name: loads and sums that are atomic. -/
import Derived.Test.YtanhmbdcdbcfmaaRf
set_option linter.unusedVariables false
set_option linter.unusedSimpArgs false
namespace Go.Sl
open Go
def extE (P : Program) (k : FuncId) : Option (Array Value → Sem Value) := match P.funcs[k]? with
  | some fn => if fn.name == "runtime.NumGoroutine" then none else if fn.body.isNone then (match Extern.findNext fn with | some _ => none | none => Extern.find fn) else none
  | none => none
section
variable {P : Program} {G : Hp} {e : Env} {d : Option Tmp} {ty : TypeId} {p : String} {af : Array Edge} {g : Option (Nat × Bool)}
theorem wpH_ext {k : FuncId} {args : Array Value} {f : Array Value → Sem Value} {H : Hp} {K : Next → Hp → Prop} {E : Value → Hp → Prop} (h : extE P k = some f) (hw : wpH P G (f args) H (fun v H' => K (.value v) H') E) : wpH P G (callFunc k args) H K E := by
  unfold extE at h
  unfold callFunc
  rw [wpH_bind]
  show wpH P G (match P.funcs[k]? with | none => _ | some fn => _) H K E
  cases hk : P.funcs[k]? with
  | none => rw [hk] at h; cases h
  | some fn =>
    rw [hk] at h
    simp only at h ⊢
    cases h1 : (fn.name == "runtime.NumGoroutine") with
    | true => rw [h1] at h; cases h
    | false =>
      rw [h1] at h
      simp only [Bool.false_eq_true, if_false] at h ⊢
      cases h2 : fn.body.isNone with
      | false => rw [h2] at h; cases h
      | true =>
        rw [h2] at h
        simp only [if_true] at h ⊢
        cases h3 : Extern.findNext fn with
        | some x => rw [h3] at h; cases h
        | none =>
          rw [h3] at h
          simp only at h
          rw [wpH_bind]
          show wpH P G _ H _ _
          rw [h]
          show wpH P G (do let v ← f args; pure (Next.value v)) H K E
          rw [wpH_bind]
          exact hw
theorem ext_at {k : FuncId} {args : Array Operand} {ts : Array TypeId} {f : Array Value → Sem Value} {H : Hp} {K : Value → Hp → Prop} (h : extE P k = some f) (hw : wpH P G (f (args.map e.ev)) H K (fun _ _ => False)) :
    opV P G (execOp e.ev ⟨d, .call ⟨.value (.func k), args, ts⟩, ty, p, af, g⟩) H K := by
  unfold opV
  show wpH P G (do let d ← resolve e.ev ⟨.value (.func k), args, ts⟩ ty; invoke d.target d.args) H _ _
  rw [wpH_bind]
  unfold resolve
  simp only [ev_func]
  show wpH P G (callFunc k (#[] ++ args.map e.ev ++ #[])) H _ _
  have : (#[] ++ args.map e.ev ++ #[] : Array Value) = args.map e.ev := by simp
  rw [this]
  exact wpH_ext h hw
theorem load64 {k : FuncId} {x : Operand} {ts : Array TypeId} {a : Addr} {n : Int} {H : Hp} {K : Value → Hp → Prop} (h : extE P k = some (Extern.Atomic.loadT (.int .i64))) (hx : e.ev x = .pointer (some a)) (hc : (H.un G).cell a = some (.int .i64 n)) (hk : K (.int .i64 n) H) :
    opV P G (execOp e.ev ⟨d, .call ⟨.value (.func k), #[x], ts⟩, ty, p, af, g⟩) H K := by
  refine ext_at h ?_
  rw [show Array.map e.ev #[x] = #[e.ev x] from by simp, hx]
  exact ⟨_, hc, hk⟩
theorem add64 {k : FuncId} {x y : Operand} {ts : Array TypeId} {a : Addr} {n m : Int} {H : Hp} {K : Value → Hp → Prop} (h : extE P k = some (Extern.Atomic.update (Op.intArith .add) .i64 true)) (hx : e.ev x = .pointer (some a)) (hy : e.ev y = .int .i64 m) (hc : (H.un G).cell a = some (.int .i64 n))
    (hk : St (H.stl a 0 [.int .i64 (IntKind.i64.wrap (n + m))]) (fun H' => K (.int .i64 (IntKind.i64.wrap (n + m))) H')) :
    opV P G (execOp e.ev ⟨d, .call ⟨.value (.func k), #[x, y], ts⟩, ty, p, af, g⟩) H K := by
  refine ext_at h ?_
  rw [show Array.map e.ev #[x, y] = #[e.ev x, e.ev y] from by simp, hx, hy]
  refine ⟨_, hc, ?_⟩
  obtain ⟨H', h1, h2⟩ := hk
  unfold Hp.stl at h1
  have ea : a.add 0 = a := by cases a; simp [Addr.add]
  rw [ea] at h1
  cases hs : H.st1 a (.int .i64 (IntKind.i64.wrap (n + m))) with
  | none => rw [hs] at h1; cases h1
  | some H1 =>
    rw [hs] at h1
    simp only [Hp.stl, Option.some.injEq] at h1
    subst h1
    unfold Hp.st1 at hs
    split at hs
    · rename_i hh
      cases hs
      obtain ⟨k1, k2, k3⟩ := hh
      cases ho : H.cell a with
      | none => rw [ho] at k2; cases k2
      | some old => exact ⟨k1, ⟨old, ho⟩, k3, h2⟩
    · cases hs
end
/-- xs[i:j:m]. -/
theorem rSl_slice_lhm {P : Program} {R : Hp} {t : TypeId} (a : Option Addr) (len cap : Nat) (k k' k'' : IntKind) (i j m : Int) (h : slIs P t = true) :
    rSl P R t (.slice a len cap) (some (.int k i)) (some (.int k' j)) (some (.int k'' m)) = if 0 ≤ m ∧ m ≤ cap then if 0 ≤ j ∧ j ≤ m.toNat then if 0 ≤ i ∧ i ≤ j.toNat then some (.value (.slice (if m.toNat = i.toNat then a else a.map (·.add (i.toNat * slSz P t))) (j.toNat - i.toNat) (m.toNat - i.toNat))) else none else none else none := by
  obtain ⟨h1, h2⟩ := slIs_spec h
  unfold rSl Instr.sliceAt
  rw [rd_bind, rd_underlying, h1]
  simp only [Option.bind_some]
  unfold Instr.slice
  rw [rd_bind, rd_underlying, h1]
  simp only [Option.bind_some]
  rw [rd_bind]
  unfold Instr.sliceBounds
  simp only [rd_bind, rd_pure, Option.bind_some, if_true, rd_sliceBound, rd_sizeOf, h2]
  by_cases hc : 0 ≤ m ∧ m ≤ cap
  · rw [if_pos hc, if_pos hc]
    simp only [Option.bind_some]
    by_cases hc2 : 0 ≤ j ∧ j ≤ m.toNat
    · rw [if_pos hc2, if_pos hc2]
      simp only [Option.bind_some]
      by_cases hc3 : 0 ≤ i ∧ i ≤ j.toNat
      · rw [if_pos hc3, if_pos hc3]
        simp
      · rw [if_neg hc3, if_neg hc3]
        rfl
    · rw [if_neg hc2, if_neg hc2]
      rfl
  · rw [if_neg hc, if_neg hc]
    rfl
/-- append(s, xs...) upon a slice of the call's own that has room for it. -/
theorem append_in {P : Program} {G H : Hp} {t u e : TypeId} {sz nb : Nat} (ht : apI P t = some (e, sz, nb)) (hu : slIs P u = true) {a x' : Option Addr} {sl sc n xc : Nat} {xs ys : List Value} {L : List Asn}
    (h : sg G (own e sz (.slice a sl sc) xs :: L) H) (hx : rds (H.un G) sz (.slice x' n xc) ys) (h1 : ∀ v ∈ ys, v.oneCell' = true) (hfit : sl + n ≤ sc) {K : Value → Hp → Prop}
    (k : ∀ H', sg G (own e sz (.slice a (sl + n) sc) (xs ++ ys) :: L) H' → K (.slice a (sl + n) sc) H') : opAppend P G t u (.slice a sl sc) (.slice x' n xc) H K := by
  obtain ⟨i, z, a1, a2, a3, a4, rfl, a6, a7, a8, a9⟩ := apI_spec ht
  obtain ⟨a', sl', sc', hq, hsl, hsc⟩ := (h.rds Rd_own).slice
  cases hq
  obtain ⟨x'', n', xc', hq, hxl, hxc⟩ := hx.slice
  cases hq
  have hcs : csz P e = some sz := by unfold csz; rw [a2]; simp [a4]
  obtain ⟨hu', _⟩ := slIs_spec hu
  unfold opAppend Builtin.append_
  simp only [List.getElem?_toArray, List.getElem?_cons_zero, List.getElem?_cons_succ]
  rw [wpH_bind, wpH_underlying a1]
  try simp only []
  rw [wpH_bind, wpH_sizeOf hcs]
  try simp only []
  rw [wpH_bind, wpH_underlying hu']
  simp only [pure_bind, Bool.false_eq_true, if_false]
  rw [wpH_bind]
  refine wpH_rd (P := P) _ (rd_lenOf (a := x') (c := xc)) ?_
  simp only [Bool.not_false, if_true]
  simp only [hfit, if_true]
  rw [wpH_bind]
  refine wpH_rd (P := P) _ (rd_firstCells hx hxl) ?_
  rcases h with ⟨hd, H1, H2, rfl, hd2, hown, hL⟩
  rcases hown with ⟨q, rfl⟩ | ⟨b, off, len, cap, cs, fr, q, g1, g2, g3, g4, g5, g6⟩
  · cases q
    have hn0 : n = 0 := by omega
    subst hn0
    have : ys = [] := List.eq_nil_of_length_eq_zero (by simpa using hxl)
    subst this
    exact k _ ⟨hd, H1, H2, rfl, hd2, .inl ⟨rfl, rfl⟩, hL⟩
  · cases q
    have hall : sg G (ob b (.cells cs e fr) :: L) (H1.un H2) := ⟨hd, H1, H2, rfl, hd2, g1, hL⟩
    have hm : (sl + n) * sz ≤ sc * sz := Nat.mul_le_mul_right _ hfit
    have hadd : (sl + n) * sz = sl * sz + n * sz := Nat.add_mul ..
    obtain ⟨H', st1, st2⟩ := hall.stl (off := off + sl * sz) ys g2 h1 (by omega)
    show wpH P G (storeCells ((⟨b, off, none⟩ : Addr).add (sl * sz)) ys >>= _) _ _ _
    rw [wpH_bind, add_mk, wpH_storeCells]
    refine ⟨H', st1, ?_⟩
    refine k _ (st2.open_ (M := [own e sz (.slice (some ⟨b, off, none⟩) (sl + n) sc) (xs ++ ys)]) fun H hd hb => ⟨H, Hp.emp, (Hp.un_emp H).symm, fun b => .inr rfl, ?_, trivial⟩)
    refine .inr ⟨b, off, sl + n, sc, _, fr, rfl, hb, ?_, hfit, ?_, ?_, ?_⟩
    · unfold cold at g2 ⊢; rw [putL_size]; exact g2
    · rw [putL_size]; exact g4
    · rw [List.length_append]; omega
    · intro j hj
      rw [List.length_append] at hj
      rw [putL_get _ _ _ _ (by omega)]
      by_cases hjx : j < xs.length
      · rw [if_neg (by omega), g6 j hjx, List.getElem?_append_left hjx]
      · rw [if_pos (by omega), List.getElem?_append_right (by omega)]
        congr 1; omega
/-- What stands behind a slice's end, taken to it. -/
theorem own_more {G H : Hp} {e : TypeId} {sz : Nat} {a : Option Addr} {n c m : Nat} {xs : List Value} {L : List Asn} (h : sg G (own e sz (.slice a n c) xs :: L) H) (hn : n ≤ m) (hm : m ≤ c) :
    ∃ ys : List Value, ys.length = (m - n) * sz ∧ sg G (own e sz (.slice a m c) (xs ++ ys) :: L) H := by
  obtain ⟨hd, H1, H2, rfl, hd2, hown, hL⟩ := h
  rcases hown with ⟨q, rfl⟩ | ⟨b, off, len, cap, cs, fr, q, g1, g2, g3, g4, g5, g6⟩
  · cases q
    obtain rfl : m = 0 := by omega
    exact ⟨[], by simp, hd, H1, H2, rfl, hd2, .inl ⟨rfl, rfl⟩, hL⟩
  · cases q
    have e1 : m * sz ≤ c * sz := Nat.mul_le_mul_right _ hm
    have e2 : (n + (m - n)) * sz = n * sz + (m - n) * sz := Nat.add_mul ..
    rw [show n + (m - n) = m by omega] at e2
    have hl : ((cs.toList.drop (off + n * sz)).take ((m - n) * sz)).length = (m - n) * sz := by
      rw [List.length_take, List.length_drop, Array.length_toList]; omega
    refine ⟨(cs.toList.drop (off + n * sz)).take ((m - n) * sz), hl, hd, H1, H2, rfl, hd2, .inr ⟨b, off, m, c, cs, fr, rfl, g1, g2, hm, g4, ?_, ?_⟩, hL⟩
    · rw [List.length_append, hl]; omega
    · intro j hj
      rw [List.length_append, hl] at hj
      by_cases hjx : j < xs.length
      · rw [g6 j hjx, List.getElem?_append_left hjx]
      · rw [List.getElem?_append_right (by omega), List.getElem?_take_of_lt (by omega), List.getElem?_drop, Array.getElem?_toList]
        congr 1; omega
end Go.Sl
