/- Letters, in plain Lean. -/
import Derived.Test.YtanhmbdcdbcfmaaBufP
set_option linter.unusedVariables false
set_option linter.unusedSimpArgs false
namespace Go.Proofs.Ytanhmbdcdbcfmaa.SeP
open Go Go.Sl Go.Proofs Go.Proofs.Ytanhmbdcdbcfmaa.Buf Go.Proofs.Ytanhmbdcdbcfmaa.BufRd Go.Proofs.Ytanhmbdcdbcfmaa.BufRe Go.Proofs.Ytanhmbdcdbcfmaa.BufP
structure Lt where
  m : Int
  p : Int
  a : Int
  s : Int
  b : List UInt8
deriving DecidableEq
def right (m p a s : Int) (n : Nat) : Bool := decide ((1 ≤ m ∧ m ≤ 4294967296) ∧ (0 ≤ p ∧ p ≤ 4294967296) ∧ (0 ≤ a ∧ a ≤ 1099511627776) ∧ (0 ≤ s ∧ s ≤ 1099511627776) ∧ ((s = 0 ∧ n = 0) ∨ (0 < s ∧ 1 ≤ n ∧ n ≤ 1000)))
def Lt.ok (x : Lt) : Bool := right x.m x.p x.a x.s x.b.length
def Lt.enc (x : Lt) : List UInt8 := num 5 x.m.toNat ++ (num 5 x.p.toNat ++ (num 6 x.a.toNat ++ (num 6 x.s.toNat ++ (num 2 x.b.length ++ (x.b ++ [])))))
def ldec (l : List UInt8) : Option Lt :=
  let a1 := R.get ⟨l, false⟩ 5
  let a2 := R.get a1.1 5
  let a3 := R.get a2.1 6
  let a4 := R.get a3.1 6
  let a5 := R.bytes a4.1 1000
  if R.done a5.1 = 0 ∧ right a1.2 a2.2 a3.2 a4.2 a5.2.length = true then some ⟨a1.2, a2.2, a3.2, a4.2, a5.2⟩ else none
theorem Lt.kk {x : Lt} (h : x.ok = true) : (1 ≤ x.m ∧ x.m ≤ 4294967296) ∧ (0 ≤ x.p ∧ x.p ≤ 4294967296) ∧ (0 ≤ x.a ∧ x.a ≤ 1099511627776) ∧ (0 ≤ x.s ∧ x.s ≤ 1099511627776) ∧ x.b.length ≤ 1000 := by
  unfold Lt.ok right at h
  simp only [decide_eq_true_eq] at h
  omega
theorem dec_enc {x : Lt} (h : x.ok = true) : ldec x.enc = some x := by
  have hk := Lt.kk h
  obtain ⟨m, p, a, s, b⟩ := x
  simp only at hk
  have p5 : (256 : Nat) ^ (5 : Int).toNat = 1099511627776 := by decide
  have p6 : (256 : Nat) ^ (6 : Int).toNat = 281474976710656 := by decide
  have G5 : ∀ (x : Nat) (t : List UInt8), x < 1099511627776 → (R.mk (num 5 x ++ t) false).get 5 = (⟨t, false⟩, x) := fun x t hx => get_fwd (k := 5) (by omega) (by omega) (by rw [p5]; exact hx)
  have G6 : ∀ (x : Nat) (t : List UInt8), x < 281474976710656 → (R.mk (num 6 x ++ t) false).get 6 = (⟨t, false⟩, x) := fun x t hx => get_fwd (k := 6) (by omega) (by omega) (by rw [p6]; exact hx)
  unfold ldec Lt.enc
  simp only
  rw [G5 _ _ (by omega)]; simp only
  rw [G5 _ _ (by omega)]; simp only
  rw [G6 _ _ (by omega)]; simp only
  rw [G6 _ _ (by omega)]; simp only
  rw [bytes_fwd (by omega) (by omega)]; simp only
  have e : ∀ y : Int, 0 ≤ y → ((y.toNat : Nat) : Int) = y := fun y hy => Int.toNat_of_nonneg hy
  rw [e m (by omega), e p (by omega), e a (by omega), e s (by omega)]
  exact if_pos ⟨rfl, h⟩
theorem enc_dec {l : List UInt8} {x : Lt} (h : ldec l = some x) : x.ok = true ∧ x.enc = l := by
  unfold ldec at h
  simp only at h
  obtain ⟨r1, x1, e1⟩ : ∃ r x, R.get ⟨l, false⟩ 5 = (r, x) := ⟨_, _, rfl⟩
  rw [e1] at h; simp only at h
  obtain ⟨r2, x2, e2⟩ : ∃ r x, R.get r1 5 = (r, x) := ⟨_, _, rfl⟩
  rw [e2] at h; simp only at h
  obtain ⟨r3, x3, e3⟩ : ∃ r x, R.get r2 6 = (r, x) := ⟨_, _, rfl⟩
  rw [e3] at h; simp only at h
  obtain ⟨r4, x4, e4⟩ : ∃ r x, R.get r3 6 = (r, x) := ⟨_, _, rfl⟩
  rw [e4] at h; simp only at h
  obtain ⟨r5, x5, e5⟩ : ∃ r x, R.bytes r4 1000 = (r, x) := ⟨_, _, rfl⟩
  rw [e5] at h; simp only at h
  split at h
  · rename_i hc
    obtain ⟨hd, ho⟩ := hc
    cases h
    refine ⟨ho, ?_⟩
    obtain ⟨d1, d2⟩ := done_back hd
    obtain ⟨f5, b5, _, _⟩ := bytes_back e5 d1
    obtain ⟨f4, b4, _⟩ := get_back e4 f5
    obtain ⟨f3, b3, _⟩ := get_back e3 f4
    obtain ⟨f2, b2, _⟩ := get_back e2 f3
    obtain ⟨f1, b1, _⟩ := get_back e1 f2
    rw [d2] at b5
    rw [b5] at b4; rw [b4] at b3; rw [b3] at b2; rw [b2] at b1
    simp only at b1
    rw [b1]; rfl
  · cases h
theorem ldec_at {l : List UInt8} {r1 r2 r3 r4 r5 : R} {x1 x2 x3 x4 : Nat} {x5 : List UInt8} (e1 : R.get ⟨l, false⟩ 5 = (r1, x1)) (e2 : R.get r1 5 = (r2, x2)) (e3 : R.get r2 6 = (r3, x3)) (e4 : R.get r3 6 = (r4, x4)) (e5 : R.bytes r4 1000 = (r5, x5)) :
    ldec l = if R.done r5 = 0 ∧ right x1 x2 x3 x4 x5.length = true then some ⟨x1, x2, x3, x4, x5⟩ else none := by
  unfold ldec
  simp only [e1, e2, e3, e4, e5]
theorem bytes_len (r : R) (m : Int) : (R.bytes r m).2.length ≤ r.b.length := by
  have := get_len r 2
  unfold R.bytes
  split <;> simp <;> omega
theorem enc_len (x : Lt) : x.enc.length = 24 + x.b.length := by
  unfold Lt.enc
  simp [num_length]; omega
end Go.Proofs.Ytanhmbdcdbcfmaa.SeP
