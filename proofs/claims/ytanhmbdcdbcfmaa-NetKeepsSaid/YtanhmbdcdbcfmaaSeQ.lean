/- What a session takes, in plain Lean. -/
import Derived.Test.YtanhmbdcdbcfmaaSeS
set_option linter.unusedVariables false
set_option linter.unusedSimpArgs false
namespace Go.Proofs.Ytanhmbdcdbcfmaa.SeS
open Go Go.Sl Go.Proofs Go.Proofs.Ytanhmbdcdbcfmaa.Buf Go.Proofs.Ytanhmbdcdbcfmaa.BufRd Go.Proofs.Ytanhmbdcdbcfmaa.BufRe Go.Proofs.Ytanhmbdcdbcfmaa.BufP Go.Proofs.Ytanhmbdcdbcfmaa.SeP Go.Proofs.Ytanhmbdcdbcfmaa.Se
def ackq : List (List UInt8) → Int → Int → List (List UInt8) × Int
  | [], n, _ => ([], n)
  | b :: q, n, a => if n ≤ a then ackq q (n + 1) a else (b :: q, n)
/-- What is taken: a body, whether one was handed out, whether it was reset. -/
structure Tk where
  b : List UInt8
  got : Bool
  rst : Bool
def tk0 : Tk := ⟨[], false, false⟩
def Ses.rs (s : Ses) (x : Lt) : Ses := if s.p < x.m then ⟨s.m, x.m, 1, 0, []⟩ else s
def Ses.ak (s : Ses) (a : Int) : Ses := ⟨s.m, s.p, (ackq s.q s.n a).2, s.g, (ackq s.q s.n a).1⟩
def Ses.take (s : Ses) (x : Lt) : Ses × Tk × Int :=
  if x.ok = true then
    if x.m < s.p then (s, tk0, 7)
    else if x.p = s.m then
      if x.s = ((s.rs x).ak x.a).g + 1 then (⟨s.m, ((s.rs x).ak x.a).p, ((s.rs x).ak x.a).n, x.s, ((s.rs x).ak x.a).q⟩, ⟨x.b, true, decide (s.p < x.m)⟩, 0)
      else ((s.rs x).ak x.a, ⟨[], false, decide (s.p < x.m)⟩, 0)
    else (s.rs x, ⟨[], false, decide (s.p < x.m)⟩, 0)
  else (s, tk0, 1)
theorem ackq_n : ∀ (q : List (List UInt8)) (n a : Int), 1 ≤ n → n ≤ 1099511627777 → a ≤ 1099511627776 → 1 ≤ (ackq q n a).2 ∧ (ackq q n a).2 ≤ 1099511627777
  | [], n, a, h, h2, _ => ⟨h, h2⟩
  | b :: q, n, a, h, h2, h3 => by
    unfold ackq
    split
    · exact ackq_n q (n + 1) a (by omega) (by omega) h3
    · exact ⟨h, h2⟩
theorem ackq_sub : ∀ (q : List (List UInt8)) (n a : Int), (ackq q n a).1.length ≤ q.length ∧ ∀ b ∈ (ackq q n a).1, b ∈ q
  | [], n, a => ⟨Nat.le_refl _, fun _ h => h⟩
  | b :: q, n, a => by
    unfold ackq
    split
    · obtain ⟨h1, h2⟩ := ackq_sub q (n + 1) a
      exact ⟨by simp only [List.length_cons]; omega, fun x hx => List.mem_cons_of_mem _ (h2 x hx)⟩
    · exact ⟨Nat.le_refl _, fun _ h => h⟩
theorem Ses.wf_rs {s : Ses} (h : s.wf) {x : Lt} (hx : x.ok = true) : (s.rs x).wf := by
  obtain ⟨k1, k2, k3, k4, k5⟩ := Lt.kk hx
  unfold Ses.rs
  split
  · exact ⟨h.m, ⟨by show 0 ≤ x.m; omega, k1.2⟩, by simp, by simp, by simp, by simp⟩
  · exact h
theorem Ses.wf_ak {s : Ses} (h : s.wf) {a : Int} (ha : a ≤ 1099511627776) : (s.ak a).wf := by
  obtain ⟨h1, h2⟩ := ackq_sub s.q s.n a
  exact ⟨h.m, h.p, ackq_n s.q s.n a h.n.1 h.n.2 ha, h.g, Nat.le_trans h1 h.q, fun b hb => h.b b (h2 b hb)⟩
theorem Ses.wf_take {s : Ses} (h : s.wf) (x : Lt) : (s.take x).1.wf := by
  unfold Ses.take
  split
  · rename_i hx
    obtain ⟨k1, k2, k3, k4, k5⟩ := Lt.kk hx
    have hr := Ses.wf_rs h hx
    have ha := Ses.wf_ak hr k3.2
    split
    · exact h
    · split
      · split
        · exact ⟨h.m, ha.p, ha.n, k4, ha.q, ha.b⟩
        · exact ha
      · exact hr
  · exact h
theorem ackq_stop {q : List (List UInt8)} {n a : Int} (h : ¬ (0 < (q.length : Int) ∧ n ≤ a)) : ackq q n a = (q, n) := by
  cases q with
  | nil => rfl
  | cons b q =>
    unfold ackq
    rw [if_neg]
    intro hn
    exact h ⟨by simp only [List.length_cons]; omega, hn⟩
theorem ackq_step {q : List (List UInt8)} {n a : Int} (h : 0 < (q.length : Int)) (hn : n ≤ a) : ackq q n a = ackq (q.drop 1) (n + 1) a := by
  cases q with
  | nil => simp at h
  | cons b q => rw [ackq, if_pos hn]; rfl
end Go.Proofs.Ytanhmbdcdbcfmaa.SeS
