/- Packets, in plain Lean. -/
import Derived.Test.YtanhmbdcdbcfmaaBufP
set_option linter.unusedVariables false
set_option linter.unusedSimpArgs false
namespace Go.Proofs.Ytanhmbdcdbcfmaa.TunP
open Go Go.Sl Go.Proofs Go.Proofs.Ytanhmbdcdbcfmaa.Buf Go.Proofs.Ytanhmbdcdbcfmaa.BufRd Go.Proofs.Ytanhmbdcdbcfmaa.BufRe Go.Proofs.Ytanhmbdcdbcfmaa.BufP
structure Pk where
  k : Int
  o : Int
  f : Int
  t : Int
  p : Int
  g : Int
  i : Int
  fr : List UInt8
def way (k o f t : Int) : Bool := decide ((k = 1 ∧ f = o ∧ t ≠ f) ∨ (k = 2 ∧ f ≠ o ∧ t ≠ o ∧ t ≠ f))
def right (k o f t p g i : Int) (n : Nat) : Bool := decide ((0 ≤ o ∧ o ≤ 15) ∧ (0 ≤ f ∧ f ≤ 15) ∧ (0 ≤ t ∧ t ≤ 15) ∧ way k o f t = true ∧ (0 ≤ p ∧ p ≤ 31) ∧ (1 ≤ g ∧ g ≤ 4294967296) ∧ (0 ≤ i ∧ i ≤ 1099511627776) ∧ 14 ≤ n ∧ n ≤ 1514)
def Pk.ok (x : Pk) : Bool := right x.k x.o x.f x.t x.p x.g x.i x.fr.length
def Pk.enc (x : Pk) : List UInt8 := num 1 1 ++ (num 1 x.k.toNat ++ (num 1 x.o.toNat ++ (num 1 x.f.toNat ++ (num 1 x.t.toNat ++ (num 1 x.p.toNat ++ (num 5 x.g.toNat ++ (num 6 x.i.toNat ++ (num 2 x.fr.length ++ (x.fr ++ [])))))))))
def pdec (l : List UInt8) : Option Pk :=
  let a0 := R.get ⟨l, false⟩ 1
  let a1 := R.get a0.1 1
  let a2 := R.get a1.1 1
  let a3 := R.get a2.1 1
  let a4 := R.get a3.1 1
  let a5 := R.get a4.1 1
  let a6 := R.get a5.1 5
  let a7 := R.get a6.1 6
  let a8 := R.bytes a7.1 1514
  if R.done a8.1 = 0 ∧ a0.2 = 1 ∧ right a1.2 a2.2 a3.2 a4.2 a5.2 a6.2 a7.2 a8.2.length = true then some ⟨a1.2, a2.2, a3.2, a4.2, a5.2, a6.2, a7.2, a8.2⟩ else none
theorem Pk.kk {x : Pk} (h : x.ok = true) : (x.k = 1 ∨ x.k = 2) ∧ (0 ≤ x.o ∧ x.o ≤ 15) ∧ (0 ≤ x.f ∧ x.f ≤ 15) ∧ (0 ≤ x.t ∧ x.t ≤ 15) ∧ (0 ≤ x.p ∧ x.p ≤ 31) ∧ (1 ≤ x.g ∧ x.g ≤ 4294967296) ∧ (0 ≤ x.i ∧ x.i ≤ 1099511627776) ∧ 14 ≤ x.fr.length ∧ x.fr.length ≤ 1514 := by
  unfold Pk.ok right way at h
  simp only [decide_eq_true_eq] at h
  omega
theorem dec_enc {x : Pk} (h : x.ok = true) : pdec x.enc = some x := by
  have hk := Pk.kk h
  obtain ⟨k, o, f, t, p, g, i, fr⟩ := x
  simp only at hk
  have p1 : (256 : Nat) ^ (1 : Int).toNat = 256 := by decide
  have p5 : (256 : Nat) ^ (5 : Int).toNat = 1099511627776 := by decide
  have p6 : (256 : Nat) ^ (6 : Int).toNat = 281474976710656 := by decide
  have G1 : ∀ (x : Nat) (t : List UInt8), x < 256 → (R.mk (num 1 x ++ t) false).get 1 = (⟨t, false⟩, x) := fun x t hx => get_fwd (k := 1) (by omega) (by omega) (by rw [p1]; exact hx)
  have G5 : ∀ (x : Nat) (t : List UInt8), x < 1099511627776 → (R.mk (num 5 x ++ t) false).get 5 = (⟨t, false⟩, x) := fun x t hx => get_fwd (k := 5) (by omega) (by omega) (by rw [p5]; exact hx)
  have G6 : ∀ (x : Nat) (t : List UInt8), x < 281474976710656 → (R.mk (num 6 x ++ t) false).get 6 = (⟨t, false⟩, x) := fun x t hx => get_fwd (k := 6) (by omega) (by omega) (by rw [p6]; exact hx)
  unfold pdec Pk.enc
  simp only
  rw [G1 _ _ (by omega)]; simp only
  rw [G1 _ _ (by omega)]; simp only
  rw [G1 _ _ (by omega)]; simp only
  rw [G1 _ _ (by omega)]; simp only
  rw [G1 _ _ (by omega)]; simp only
  rw [G1 _ _ (by omega)]; simp only
  rw [G5 _ _ (by omega)]; simp only
  rw [G6 _ _ (by omega)]; simp only
  rw [bytes_fwd (by omega) (by omega)]; simp only
  have e : ∀ y : Int, 0 ≤ y → ((y.toNat : Nat) : Int) = y := fun y hy => Int.toNat_of_nonneg hy
  rw [e k (by omega), e o (by omega), e f (by omega), e t (by omega), e p (by omega), e g (by omega), e i (by omega)]
  exact if_pos ⟨rfl, by trivial, h⟩
theorem enc_dec {l : List UInt8} {x : Pk} (h : pdec l = some x) : x.ok = true ∧ x.enc = l := by
  unfold pdec at h
  simp only at h
  obtain ⟨r0, x0, e0⟩ : ∃ r x, R.get ⟨l, false⟩ 1 = (r, x) := ⟨_, _, rfl⟩
  rw [e0] at h; simp only at h
  obtain ⟨r1, x1, e1⟩ : ∃ r x, R.get r0 1 = (r, x) := ⟨_, _, rfl⟩
  rw [e1] at h; simp only at h
  obtain ⟨r2, x2, e2⟩ : ∃ r x, R.get r1 1 = (r, x) := ⟨_, _, rfl⟩
  rw [e2] at h; simp only at h
  obtain ⟨r3, x3, e3⟩ : ∃ r x, R.get r2 1 = (r, x) := ⟨_, _, rfl⟩
  rw [e3] at h; simp only at h
  obtain ⟨r4, x4, e4⟩ : ∃ r x, R.get r3 1 = (r, x) := ⟨_, _, rfl⟩
  rw [e4] at h; simp only at h
  obtain ⟨r5, x5, e5⟩ : ∃ r x, R.get r4 1 = (r, x) := ⟨_, _, rfl⟩
  rw [e5] at h; simp only at h
  obtain ⟨r6, x6, e6⟩ : ∃ r x, R.get r5 5 = (r, x) := ⟨_, _, rfl⟩
  rw [e6] at h; simp only at h
  obtain ⟨r7, x7, e7⟩ : ∃ r x, R.get r6 6 = (r, x) := ⟨_, _, rfl⟩
  rw [e7] at h; simp only at h
  obtain ⟨r8, x8, e8⟩ : ∃ r x, R.bytes r7 1514 = (r, x) := ⟨_, _, rfl⟩
  rw [e8] at h; simp only at h
  split at h
  · rename_i hc
    obtain ⟨hd, hv, ho⟩ := hc
    cases h
    refine ⟨ho, ?_⟩
    obtain ⟨d1, d2⟩ := done_back hd
    obtain ⟨f8, b8, _, _⟩ := bytes_back e8 d1
    obtain ⟨f7, b7, _⟩ := get_back e7 f8
    obtain ⟨f6, b6, _⟩ := get_back e6 f7
    obtain ⟨f5, b5, _⟩ := get_back e5 f6
    obtain ⟨f4, b4, _⟩ := get_back e4 f5
    obtain ⟨f3, b3, _⟩ := get_back e3 f4
    obtain ⟨f2, b2, _⟩ := get_back e2 f3
    obtain ⟨f1, b1, _⟩ := get_back e1 f2
    obtain ⟨f0, b0, _⟩ := get_back e0 f1
    have hv' : x0 = 1 := by omega
    subst hv'
    rw [d2] at b8
    rw [b8] at b7; rw [b7] at b6; rw [b6] at b5; rw [b5] at b4; rw [b4] at b3; rw [b3] at b2; rw [b2] at b1; rw [b1] at b0
    simp only at b0
    rw [b0]; rfl
  · cases h
end Go.Proofs.Ytanhmbdcdbcfmaa.TunP
