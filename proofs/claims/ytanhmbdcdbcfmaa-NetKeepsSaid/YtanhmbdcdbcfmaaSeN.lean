/- Two ends of a session, in plain Lean: what one handed out is a beginning of what the other was pushed. -/
import Derived.Test.YtanhmbdcdbcfmaaSeQ
set_option linter.unusedVariables false
set_option linter.unusedSimpArgs false
set_option maxHeartbeats 1000000
namespace Go.Proofs.Ytanhmbdcdbcfmaa.SeS
open Go Go.Sl Go.Proofs Go.Proofs.Ytanhmbdcdbcfmaa.Buf Go.Proofs.Ytanhmbdcdbcfmaa.BufRd Go.Proofs.Ytanhmbdcdbcfmaa.BufRe Go.Proofs.Ytanhmbdcdbcfmaa.BufP Go.Proofs.Ytanhmbdcdbcfmaa.SeP Go.Proofs.Ytanhmbdcdbcfmaa.Se
def outF (s : Ses) (i : Nat) : Lt := ⟨s.m, s.p, s.g, s.n + i, s.q.getD i []⟩
def outN (s : Ses) (k : Nat) : List Lt := (List.range k).map (outF s)
def Ses.out (s : Ses) : List Lt := if s.q.length = 0 then [⟨s.m, s.p, s.g, 0, []⟩] else outN s (min s.q.length 8)
theorem outN_succ (s : Ses) (k : Nat) : outN s (k + 1) = outN s k ++ [outF s k] := by simp [outN, List.range_succ]
/-- One of both ends. -/
structure En where
  s : Ses
  bt : Int
  i : List UInt8
  o : List UInt8
  kn : Int
  l : List Lt
def En.new (bt : Int) : En := ⟨Ses.new bt, bt, [], [], 0, []⟩
def En.take (x : En) (l : Lt) : En × Bool :=
  if (x.s.take l).2.2 = 0 then
    if (x.s.take l).2.1.got = true then
      if (x.s.take l).2.1.b.length = 1 then (⟨(x.s.take l).1, x.bt, if (x.s.take l).2.1.rst = true then [] else x.i, (if (x.s.take l).2.1.rst = true then [] else x.o) ++ (x.s.take l).2.1.b, if (x.s.take l).2.1.rst = true then l.m else x.kn, x.l⟩, true)
      else (⟨(x.s.take l).1, x.bt, if (x.s.take l).2.1.rst = true then [] else x.i, if (x.s.take l).2.1.rst = true then [] else x.o, if (x.s.take l).2.1.rst = true then l.m else x.kn, x.l⟩, false)
    else (⟨(x.s.take l).1, x.bt, if (x.s.take l).2.1.rst = true then [] else x.i, if (x.s.take l).2.1.rst = true then [] else x.o, if (x.s.take l).2.1.rst = true then l.m else x.kn, x.l⟩, true)
  else (⟨(x.s.take l).1, x.bt, x.i, x.o, x.kn, x.l⟩, decide ((x.s.take l).2.2 = 7))
def En.push (x : En) (c : UInt8) : En := if (x.s.push [c]).2 = 0 then ⟨(x.s.push [c]).1, x.bt, x.i ++ [c], x.o, x.kn, x.l⟩ else ⟨(x.s.push [c]).1, x.bt, x.i, x.o, x.kn, x.l⟩
def En.gets (x : En) (l : List Lt) : En := ⟨x.s, x.bt, x.i, x.o, x.kn, x.l ++ l⟩
def En.re (x : En) : En := ⟨Ses.new (x.bt + 1), x.bt + 1, [], [], 0, x.l⟩
structure Fine (N : Nat) (x : En) : Prop where
  w : x.s.wf
  m : x.s.m = x.bt
  b : 1 ≤ x.bt ∧ x.bt ≤ N + 1
  k : x.kn = x.s.p
  q : x.s.q = (x.i.drop (x.s.n - 1).toNat).map fun c => [c]
  n : (x.s.n - 1).toNat ≤ x.i.length
  i : x.i.length ≤ N
  o : (x.o.length : Int) = x.s.g
def Came (x : En) (l : Lt) : Prop := l.ok = true ∧ l.m ≤ x.bt ∧ (0 < l.s → l.b.length = 1) ∧ (l.m = x.bt → l.p ≤ x.s.p) ∧ (l.m = x.bt → l.p = x.s.p → 0 < l.s → ∃ c, x.i[(l.s - 1).toNat]? = some c ∧ l.b = [c])
/-- x sends, y takes. -/
structure Way (x y : En) : Prop where
  l : ∀ l ∈ y.l, Came x l
  p : y.s.p ≤ x.bt
  no : y.s.p = x.bt → x.s.p ≠ y.bt → y.o = []
  pf : y.s.p = x.bt → x.s.p = y.bt → y.o <+: x.i
def beg (x y : En) : Bool := if x.kn = y.bt then (if y.kn = x.bt then decide (x.o <+: y.i) else decide (x.o = [])) else true
theorem beg_ok {N : Nat} {x y : En} (hx : Fine N x) (hy : Fine N y) (h : Way x y) : beg y x = true := by
  unfold beg
  rw [hx.k, hy.k]
  split
  · split
    · exact decide_eq_true (h.pf (by assumption) (by assumption))
    · exact decide_eq_true (h.no (by assumption) (by assumption))
  · rfl
theorem ackq_drop : ∀ (q : List (List UInt8)) (n a : Int), ∃ k, k ≤ q.length ∧ ackq q n a = (q.drop k, n + k)
  | [], n, a => ⟨0, Nat.le_refl _, by simp [ackq]⟩
  | b :: q, n, a => by
    unfold ackq
    split
    · obtain ⟨k, h1, h2⟩ := ackq_drop q (n + 1) a
      refine ⟨k + 1, by simp only [List.length_cons]; omega, ?_⟩
      rw [h2, List.drop_succ_cons]
      congr 1
      omega
    · exact ⟨0, Nat.zero_le _, by simp⟩
theorem Fine.mono {N M : Nat} {x : En} (h : Fine N x) (hm : N ≤ M) : Fine M x := ⟨h.w, h.m, ⟨h.b.1, by have := h.b.2; omega⟩, h.k, h.q, h.n, Nat.le_trans h.i hm, h.o⟩
theorem fine_new {bt : Int} {N : Nat} (h : 1 ≤ bt ∧ bt ≤ N + 1) (hN : N ≤ 1000) : Fine N (En.new bt) :=
  ⟨Ses.wf_new ⟨h.1, by omega⟩, rfl, h, rfl, by simp [En.new, Ses.new], by simp [En.new, Ses.new], by simp [En.new], by simp [En.new, Ses.new]⟩
theorem way_new : Way (En.new 1) (En.new 1) := ⟨by simp [En.new], by simp [En.new, Ses.new], by simp [En.new, Ses.new], by simp [En.new, Ses.new]⟩
theorem push_q {s : Ses} {c : UInt8} : s.push [c] = if 64 ≤ s.q.length then (s, 3) else (⟨s.m, s.p, s.n, s.g, s.q ++ [[c]]⟩, 0) := by
  unfold Ses.push
  rw [if_pos (by simp)]
theorem En.push_eq (x : En) (c : UInt8) : x.push c = if 64 ≤ x.s.q.length then x else ⟨⟨x.s.m, x.s.p, x.s.n, x.s.g, x.s.q ++ [[c]]⟩, x.bt, x.i ++ [c], x.o, x.kn, x.l⟩ := by
  unfold En.push
  rw [push_q]
  split <;> simp
theorem fine_push {N : Nat} {x : En} (h : Fine N x) (c : UInt8) : Fine (N + 1) (x.push c) := by
  have hw := Ses.wf_push h.w [c]
  rw [En.push_eq]
  rw [push_q] at hw
  split
  · exact h.mono (by omega)
  · rename_i g
    rw [if_neg g] at hw
    have hn := h.n
    refine ⟨hw, h.m, ⟨h.b.1, by have := h.b.2; show x.bt ≤ _; omega⟩, h.k, ?_, by show (x.s.n - 1).toNat ≤ (x.i ++ [c]).length; simp only [List.length_append]; omega, by have := h.i; simp; omega, h.o⟩
    show x.s.q ++ [[c]] = ((x.i ++ [c]).drop (x.s.n - 1).toNat).map _
    rw [List.drop_append_of_le_length hn, List.map_append, ← h.q]
    rfl
theorem way_push1 {x y : En} (h : Way x y) (c : UInt8) : Way (x.push c) y := by
  rw [En.push_eq]
  split
  · exact h
  · refine ⟨fun l hl => ?_, h.p, h.no, fun h1 h2 => (h.pf h1 h2).trans (List.prefix_append _ _)⟩
    obtain ⟨a1, a2, a3, a4, a5⟩ := h.l l hl
    refine ⟨a1, a2, a3, a4, fun b1 b2 b3 => ?_⟩
    obtain ⟨d, d1, d2⟩ := a5 b1 b2 b3
    refine ⟨d, ?_, d2⟩
    show (x.i ++ [c])[(l.s - 1).toNat]? = some d
    rw [List.getElem?_append_left (List.getElem?_eq_some_iff.1 d1).1]
    exact d1
theorem way_push2 {x y : En} (h : Way y x) (c : UInt8) : Way y (x.push c) := by
  rw [En.push_eq]
  split
  · exact h
  · exact ⟨h.l, h.p, h.no, h.pf⟩
theorem came_out {N : Nat} {x : En} (h : Fine N x) (hN : N ≤ 1000) : ∀ l ∈ x.s.out, Came x l := by
  intro l hl
  unfold Ses.out at hl
  have hb := h.b
  have hw := h.w
  have h1 := hw.m
  have h2 := hw.p
  have h3 := hw.n
  have h4 := hw.g
  split at hl
  · rw [List.mem_singleton] at hl
    subst hl
    refine ⟨?_, by show x.s.m ≤ _; rw [h.m]; exact Int.le_refl _, fun a => absurd a (by simp), fun _ => Int.le_refl _, fun _ _ a => absurd a (by simp)⟩
    unfold Lt.ok right
    simp only [decide_eq_true_eq]
    exact ⟨h1, h2, h4, by omega, .inl ⟨by trivial, by simp⟩⟩
  · unfold outN at hl
    obtain ⟨k, hk, rfl⟩ := List.mem_map.1 hl
    rw [List.mem_range] at hk
    have hk2 : k < x.s.q.length := by omega
    have hi := h.i
    have hn := h.n
    have hq := h.q
    have hkl : (x.s.n - 1).toNat + k < x.i.length := by
      have := congrArg List.length hq
      rw [List.length_map, List.length_drop] at this
      omega
    have e1 : x.s.q.getD k [] = [x.i[(x.s.n - 1).toNat + k]] := by
      rw [List.getD_eq_getElem?_getD, hq, List.getElem?_map, List.getElem?_drop, List.getElem?_eq_getElem hkl]
      rfl
    refine ⟨?_, by show x.s.m ≤ _; rw [h.m]; exact Int.le_refl _, fun a => by show (x.s.q.getD k []).length = 1; rw [e1]; rfl, fun _ => Int.le_refl _, fun _ _ a => ⟨x.i[(x.s.n - 1).toNat + k], ?_, e1⟩⟩
    · unfold Lt.ok right
      simp only [decide_eq_true_eq]
      refine ⟨h1, h2, h4, ⟨by show 0 ≤ x.s.n + k; omega, by show x.s.n + k ≤ _; omega⟩, .inr ⟨by show 0 < x.s.n + k; omega, ?_⟩⟩
      show 1 ≤ (x.s.q.getD k []).length ∧ (x.s.q.getD k []).length ≤ 1000
      rw [e1]
      simp
    · show x.i[(x.s.n + k - 1).toNat]? = _
      rw [show (x.s.n + k - 1).toNat = (x.s.n - 1).toNat + k from by omega]
      exact List.getElem?_eq_getElem hkl
theorem fine_gets {N : Nat} {y : En} (h : Fine N y) (l : List Lt) : Fine N (y.gets l) := ⟨h.w, h.m, h.b, h.k, h.q, h.n, h.i, h.o⟩
theorem way_gets1 {x y : En} (h : Way x y) {l : List Lt} (hl : ∀ a ∈ l, Came x a) : Way x (y.gets l) := by
  refine ⟨fun a ha => ?_, h.p, h.no, h.pf⟩
  rcases List.mem_append.1 ha with ha | ha
  · exact h.l a ha
  · exact hl a ha
theorem way_gets2 {x y : En} (h : Way y x) (l : List Lt) : Way (y.gets l) x := ⟨h.l, h.p, h.no, h.pf⟩
theorem fine_re {N : Nat} {x : En} (h : Fine N x) (hN : N ≤ 1000) : Fine (N + 1) x.re := by
  have hb := h.b
  exact ⟨Ses.wf_new ⟨by omega, by omega⟩, rfl, ⟨by show 1 ≤ x.bt + 1; omega, by show x.bt + 1 ≤ _; omega⟩, rfl, by simp [En.re, Ses.new], by simp [En.re, Ses.new], by simp [En.re], by simp [En.re, Ses.new]⟩
theorem way_re1 {N : Nat} {x y : En} (hx : Fine N x) (h : Way x y) : Way x.re y := by
  have hp := h.p
  refine ⟨fun l hl => ?_, by show y.s.p ≤ x.bt + 1; omega, fun a => absurd a (by show ¬ y.s.p = x.bt + 1; omega), fun a => absurd a (by show ¬ y.s.p = x.bt + 1; omega)⟩
  obtain ⟨a1, a2, a3, a4, a5⟩ := h.l l hl
  exact ⟨a1, by show l.m ≤ x.bt + 1; omega, a3, fun b => absurd b (by show ¬ l.m = x.bt + 1; omega), fun b => absurd b (by show ¬ l.m = x.bt + 1; omega)⟩
theorem way_re2 {N : Nat} {x y : En} (hy : Fine N y) (h : Way y x) : Way y x.re := by
  have hb := hy.b
  exact ⟨h.l, by show (0 : Int) ≤ y.bt; omega, fun _ _ => rfl, fun a => absurd a (by show ¬ (0 : Int) = y.bt; omega)⟩
/-- A letter is taken by y: how its session, its lists change. -/
structure Tkn (y : En) (l : Lt) (r : En) : Prop where
  w : r.s.wf
  m : r.s.m = y.s.m
  bt : r.bt = y.bt
  lt : r.l = y.l
  p : r.s.p = l.m ∧ r.kn = l.m
  n : ∃ k, ((y.s.p < l.m ∧ k = 0 ∧ r.i = [] ∧ r.s.q = [] ∧ r.s.n = 1) ∨ (y.s.p = l.m ∧ k ≤ y.s.q.length ∧ r.i = y.i ∧ r.s.q = y.s.q.drop k ∧ r.s.n = y.s.n + k))
  o : ∃ o g, ((y.s.p < l.m ∧ o = [] ∧ g = 0) ∨ (y.s.p = l.m ∧ o = y.o ∧ g = y.s.g)) ∧ ((r.o = o ∧ r.s.g = g) ∨ (l.p = y.s.m ∧ l.s = g + 1 ∧ r.o = o ++ l.b ∧ r.s.g = l.s))
theorem take_cases {N : Nat} {y : En} {l : Lt} (hy : Fine N y) (hl : l.ok = true) (h1 : 0 < l.s → l.b.length = 1) : y.take l = (y, true) ∨ ∃ r, y.take l = (r, true) ∧ Tkn y l r := by
  have hw := Ses.wf_take hy.w l
  obtain ⟨k, hk, hq⟩ := ackq_drop (y.s.rs l).q (y.s.rs l).n l.a
  have hg := hy.w.g
  by_cases g1 : l.m < y.s.p
  · left
    unfold En.take Ses.take
    rw [if_pos hl, if_pos g1]
    simp
  · right
    refine ⟨(y.take l).1, ?_, ?_⟩
    · refine Prod.ext rfl ?_
      unfold En.take Ses.take
      rw [if_pos hl, if_neg g1]
      split
      · split
        · rename_i _ g3
          have hg2 : 0 ≤ ((y.s.rs l).ak l.a).g := by
            unfold Ses.ak Ses.rs
            split
            · simp
            · exact hg.1
          simp [h1 (by omega)]
        · simp
      · simp
    · unfold Ses.take at hw
      rw [if_pos hl, if_neg g1] at hw
      by_cases g0 : y.s.p < l.m
      · have hr : y.s.rs l = ⟨y.s.m, l.m, 1, 0, []⟩ := by unfold Ses.rs; rw [if_pos g0]
        rw [hr] at hw
        have ha : (Ses.mk y.s.m l.m 1 0 []).ak l.a = ⟨y.s.m, l.m, 1, 0, []⟩ := rfl
        rw [ha] at hw
        have hT : y.s.take l = if l.p = y.s.m then (if l.s = 1 then (⟨y.s.m, l.m, 1, l.s, []⟩, ⟨l.b, true, true⟩, 0) else (⟨y.s.m, l.m, 1, 0, []⟩, ⟨[], false, true⟩, 0)) else (⟨y.s.m, l.m, 1, 0, []⟩, ⟨[], false, true⟩, 0) := by
          unfold Ses.take
          rw [if_pos hl, if_neg g1, hr, ha, decide_eq_true g0]
          rfl
        unfold En.take
        rw [hT]
        by_cases g2 : l.p = y.s.m
        · rw [if_pos g2] at hw ⊢
          by_cases g3 : l.s = 1
          · rw [if_pos (by show l.s = 0 + 1; omega)] at hw
            rw [if_pos g3]
            simp only [if_true, h1 (by omega)]
            exact ⟨hw, rfl, rfl, rfl, ⟨rfl, rfl⟩, ⟨0, .inl ⟨g0, rfl, rfl, rfl, rfl⟩⟩, ⟨[], 0, .inl ⟨g0, rfl, rfl⟩, .inr ⟨g2, by omega, rfl, rfl⟩⟩⟩
          · rw [if_neg (by show ¬ l.s = 0 + 1; omega)] at hw
            rw [if_neg g3]
            simp only [if_true, Bool.false_eq_true, if_false]
            exact ⟨hw, rfl, rfl, rfl, ⟨rfl, rfl⟩, ⟨0, .inl ⟨g0, rfl, rfl, rfl, rfl⟩⟩, ⟨[], 0, .inl ⟨g0, rfl, rfl⟩, .inl ⟨rfl, rfl⟩⟩⟩
        · rw [if_neg g2] at hw ⊢
          simp only [if_true, Bool.false_eq_true, if_false]
          exact ⟨hw, rfl, rfl, rfl, ⟨rfl, rfl⟩, ⟨0, .inl ⟨g0, rfl, rfl, rfl, rfl⟩⟩, ⟨[], 0, .inl ⟨g0, rfl, rfl⟩, .inl ⟨rfl, rfl⟩⟩⟩
      · have hr : y.s.rs l = y.s := by unfold Ses.rs; rw [if_neg g0]
        have hp : y.s.p = l.m := by omega
        rw [hr] at hw hq hk
        have ha : y.s.ak l.a = ⟨y.s.m, y.s.p, y.s.n + k, y.s.g, y.s.q.drop k⟩ := by unfold Ses.ak; rw [hq]
        rw [ha] at hw
        have hT : y.s.take l = if l.p = y.s.m then (if l.s = y.s.g + 1 then (⟨y.s.m, y.s.p, y.s.n + k, l.s, y.s.q.drop k⟩, ⟨l.b, true, false⟩, 0) else (⟨y.s.m, y.s.p, y.s.n + k, y.s.g, y.s.q.drop k⟩, ⟨[], false, false⟩, 0)) else (y.s, ⟨[], false, false⟩, 0) := by
          unfold Ses.take
          rw [if_pos hl, if_neg g1, hr, ha, decide_eq_false g0]
        unfold En.take
        rw [hT]
        have hkn : y.kn = l.m := by rw [hy.k, hp]
        by_cases g2 : l.p = y.s.m
        · rw [if_pos g2] at hw ⊢
          by_cases g3 : l.s = y.s.g + 1
          · rw [if_pos g3] at hw
            rw [if_pos g3]
            simp only [if_true, h1 (by omega), Bool.false_eq_true, if_false]
            exact ⟨hw, rfl, rfl, rfl, ⟨hp, hkn⟩, ⟨k, .inr ⟨hp, hk, rfl, rfl, rfl⟩⟩, ⟨y.o, y.s.g, .inr ⟨hp, rfl, rfl⟩, .inr ⟨g2, by omega, rfl, rfl⟩⟩⟩
          · rw [if_neg g3] at hw
            rw [if_neg g3]
            simp only [if_true, Bool.false_eq_true, if_false]
            exact ⟨hw, rfl, rfl, rfl, ⟨hp, hkn⟩, ⟨k, .inr ⟨hp, hk, rfl, rfl, rfl⟩⟩, ⟨y.o, y.s.g, .inr ⟨hp, rfl, rfl⟩, .inl ⟨rfl, rfl⟩⟩⟩
        · rw [if_neg g2] at hw ⊢
          simp only [if_true, Bool.false_eq_true, if_false]
          exact ⟨hy.w, rfl, rfl, rfl, ⟨hp, hkn⟩, ⟨0, .inr ⟨hp, Nat.zero_le _, rfl, rfl, by simp⟩⟩, ⟨y.o, y.s.g, .inr ⟨hp, rfl, rfl⟩, .inl ⟨rfl, rfl⟩⟩⟩
theorem Tkn.fine {N : Nat} {y r : En} {l : Lt} (t : Tkn y l r) (hy : Fine N y) (h1 : 0 < l.s → l.b.length = 1) : Fine N r := by
  have hn := hy.n
  have hq := hy.q
  have hl := congrArg List.length hq
  rw [List.length_map, List.length_drop] at hl
  have hn1 := hy.w.n.1
  have ho := hy.o
  obtain ⟨k, hk⟩ := t.n
  obtain ⟨o, g, hog, hro⟩ := t.o
  have hlen : (o.length : Int) = g := by
    rcases hog with ⟨_, rfl, rfl⟩ | ⟨_, rfl, rfl⟩
    · rfl
    · exact ho
  refine ⟨t.w, by rw [t.m, t.bt]; exact hy.m, by rw [t.bt]; exact hy.b, by rw [t.p.1, t.p.2], ?_, ?_, ?_, ?_⟩
  · rcases hk with ⟨_, _, e1, e2, e3⟩ | ⟨_, e0, e1, e2, e3⟩
    · rw [e1, e2, List.drop_nil]; rfl
    · rw [e1, e2, e3, hq, show (y.s.n + k - 1).toNat = (y.s.n - 1).toNat + k from by omega, ← List.drop_drop, List.map_drop, List.map_drop, List.map_drop]
  · rcases hk with ⟨_, _, e1, e2, e3⟩ | ⟨_, e0, e1, e2, e3⟩
    · rw [e1, e3]; simp
    · rw [e1, e3]; omega
  · rcases hk with ⟨_, _, e1, e2, e3⟩ | ⟨_, e0, e1, e2, e3⟩
    · rw [e1]; simp
    · rw [e1]; exact hy.i
  · rcases hro with ⟨e1, e2⟩ | ⟨_, e0, e1, e2⟩
    · rw [e1, e2]; exact hlen
    · rw [e1, e2, List.length_append, h1 (by omega)]; omega
theorem prefix_snoc {o i : List UInt8} {c : UInt8} (h : o <+: i) (hc : i[o.length]? = some c) : o ++ [c] <+: i := by
  obtain ⟨t, rfl⟩ := h
  rw [List.getElem?_append_right (Nat.le_refl _), Nat.sub_self] at hc
  cases t with
  | nil => simp at hc
  | cons d t =>
    simp only [List.getElem?_cons_zero, Option.some.injEq] at hc
    subst hc
    exact ⟨t, by simp⟩
theorem Tkn.way1 {N : Nat} {x y r : En} {l : Lt} (t : Tkn y l r) (hy : Fine N y) (h : Way x y) (h2 : Way y x) (hl : Came x l) : Way x r := by
  obtain ⟨a1, a2, a3, a4, a5⟩ := hl
  obtain ⟨o, g, hog, hro⟩ := t.o
  have hp := t.p.1
  have hb := t.bt
  have hp2 := h2.p
  have hm := hy.m
  have hlen : (o.length : Int) = g := by
    rcases hog with ⟨_, rfl, rfl⟩ | ⟨_, rfl, rfl⟩
    · rfl
    · exact hy.o
  refine ⟨by rw [t.lt]; exact h.l, by rw [hp]; exact a2, fun b1 b2 => ?_, fun b1 b2 => ?_⟩
  · rw [hp] at b1
    rw [hb] at b2
    have ho : o = [] := by
      rcases hog with ⟨_, e, _⟩ | ⟨e0, e, _⟩
      · exact e
      · rw [e]; exact h.no (by omega) b2
    rcases hro with ⟨e1, e2⟩ | ⟨e0, _, e1, e2⟩
    · rw [e1, ho]
    · have := a4 b1
      exact absurd (by omega : x.s.p = y.bt) b2
  · rw [hp] at b1
    rw [hb] at b2
    have ho : o <+: x.i := by
      rcases hog with ⟨_, e, _⟩ | ⟨e0, e, _⟩
      · rw [e]; exact List.nil_prefix
      · rw [e]; exact h.pf (by omega) b2
    rcases hro with ⟨e1, e2⟩ | ⟨e0, e3, e1, e2⟩
    · rw [e1]; exact ho
    · obtain ⟨c, c1, c2⟩ := a5 b1 (by omega) (by omega)
      rw [e1, c2]
      refine prefix_snoc ho ?_
      rw [← c1]
      congr 1
      omega
theorem Tkn.way2 {N : Nat} {x y r : En} {l : Lt} (t : Tkn y l r) (hy : Fine N y) (h : Way y x) (hl : Came x l) : Way r x := by
  obtain ⟨a1, a2, a3, a4, a5⟩ := hl
  have hp := t.p.1
  have hb := t.bt
  obtain ⟨k, hk⟩ := t.n
  have hpp : y.s.p ≤ l.m := by rcases hk with ⟨e, _⟩ | ⟨e, _⟩ <;> omega
  refine ⟨fun z hz => ?_, by rw [hb]; exact h.p, fun b1 b2 => ?_, fun b1 b2 => ?_⟩
  · obtain ⟨c1, c2, c3, c4, c5⟩ := h.l z hz
    refine ⟨c1, by rw [hb]; exact c2, c3, fun b1 => ?_, fun b1 b2 b3 => ?_⟩
    · rw [hb] at b1
      have := c4 b1
      omega
    · rw [hb] at b1
      have := c4 b1
      rcases hk with ⟨e, _⟩ | ⟨e, _, e1, _⟩
      · omega
      · rw [e1]; exact c5 b1 (by omega) b3
  · rw [hb] at b1
    rcases hk with ⟨e, _⟩ | ⟨e, _, e1, _⟩
    · exact h.no b1 (by omega)
    · exact h.no b1 (by omega)
  · rw [hb] at b1
    rcases hk with ⟨e, _⟩ | ⟨e, _, e1, _⟩
    · rw [h.no b1 (by omega)]; exact List.nil_prefix
    · rw [e1]; exact h.pf b1 (by omega)
/-- Both ends stand right to one another. -/
structure Both (N : Nat) (u v : En) : Prop where
  x : Fine N u
  y : Fine N v
  a : Way u v
  b : Way v u
theorem Both.swap {N : Nat} {x y : En} (h : Both N x y) : Both N y x := ⟨h.y, h.x, h.b, h.a⟩
theorem both_new : Both 0 (En.new 1) (En.new 1) := ⟨fine_new (by omega) (by omega), fine_new (by omega) (by omega), way_new, way_new⟩
theorem Both.beg {N : Nat} {x y : En} (h : Both N x y) : SeS.beg x y = true := beg_ok h.y h.x h.b
theorem Both.re {N : Nat} {x y : En} (h : Both N x y) (hN : N ≤ 1000) : Both (N + 1) x y.re := ⟨h.x.mono (by omega), fine_re h.y hN, way_re2 h.x h.a, way_re1 h.y h.b⟩
/-- A move of x, to y. -/
def act (x y : En) (w a : Nat) (c : UInt8) : En × En × Bool :=
  if w % 10 < 3 then (x.push c, y, true)
  else if w % 10 < 5 then (x, y.gets x.s.out, true)
  else match x.l[a % x.l.length]? with
    | some l => ((x.take l).1, y, (x.take l).2)
    | none => (x, y, true)
theorem act_ok {N : Nat} {x y : En} (h : Both N x y) (hN : N ≤ 1000) (w a : Nat) (c : UInt8) : (act x y w a c).2.2 = true ∧ Both (N + 1) (act x y w a c).1 (act x y w a c).2.1 := by
  unfold act
  split
  · exact ⟨rfl, fine_push h.x c, h.y.mono (by omega), way_push1 h.a c, way_push2 h.b c⟩
  · split
    · exact ⟨rfl, h.x.mono (by omega), (fine_gets h.y _).mono (by omega), way_gets1 h.a (came_out h.x hN), way_gets2 h.b _⟩
    · split
      · rename_i l hl
        have hc := h.b.l l (List.mem_of_getElem? hl)
        rcases take_cases h.x hc.1 hc.2.2.1 with e | ⟨r, e, t⟩
        · rw [e]; exact ⟨rfl, h.x.mono (by omega), h.y.mono (by omega), h.a, h.b⟩
        · rw [e]; exact ⟨rfl, (t.fine h.x hc.2.2.1).mono (by omega), h.y.mono (by omega), t.way2 h.x h.a hc, t.way1 h.x h.b h.a hc⟩
      · exact ⟨rfl, h.x.mono (by omega), h.y.mono (by omega), h.a, h.b⟩
end Go.Proofs.Ytanhmbdcdbcfmaa.SeS
