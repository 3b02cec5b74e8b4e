/- tunnel's Same, Encode, Decode, over the machine. -/
import Derived.Test.YtanhmbdcdbcfmaaTun
set_option linter.unusedVariables false
set_option linter.unusedSimpArgs false
set_option maxRecDepth 10000
namespace Go.Proofs.Ytanhmbdcdbcfmaa.TunD
open Go Go.Sl Go.Proofs Go.Proofs.Ytanhmbdcdbcfmaa.Buf Go.Proofs.Ytanhmbdcdbcfmaa.BufRd Go.Proofs.Ytanhmbdcdbcfmaa.BufRe Go.Proofs.Ytanhmbdcdbcfmaa.BufP Go.Proofs.Ytanhmbdcdbcfmaa.TunP Go.Proofs.Ytanhmbdcdbcfmaa.Tun
def samep (x y : Pk) : Bool := decide (x.k = y.k ∧ x.o = y.o ∧ x.f = y.f ∧ x.t = y.t ∧ x.p = y.p ∧ x.g = y.g ∧ x.i = y.i ∧ x.fr = y.fr)
abbrev Pk.v (x : Pk) (u : Value) : Value := pkv x.k x.o x.f x.t x.p x.g x.i u
theorem put_st {b : List UInt8} {K : Int} {l : List Int} (h1 : 1 ≤ K) (h8 : K ≤ 8) (h : ∀ x ∈ l, fits K x) : (W.mk b false).put K l = ⟨b ++ flat K.toNat l, false⟩ := put_fits h1 h8 h
def EncR (x : Pk) (r : Value) (B : List Asn) : Prop := if x.ok = true then ∃ u, r = .tuple #[u, .int .i64 0] ∧ B = [own 5 1 u (bv x.enc)] else r = .tuple #[.slice none 0 0, .int .i64 1] ∧ B = []
def DecR (l : List UInt8) (r : Value) (B : List Asn) : Prop := match pdec l with
  | some x => ∃ u, r = .tuple #[Pk.v x u, .int .i64 0] ∧ B = [own 5 1 u (bv x.fr)]
  | none => r = .tuple #[pkv 0 0 0 0 0 0 0 (.slice none 0 0), .int .i64 2] ∧ B = []
theorem pdec_at {l : List UInt8} {r0 r1 r2 r3 r4 r5 r6 r7 r8 : R} {x0 x1 x2 x3 x4 x5 x6 x7 : Nat} {x8 : List UInt8} (e0 : R.get ⟨l, false⟩ 1 = (r0, x0)) (e1 : R.get r0 1 = (r1, x1)) (e2 : R.get r1 1 = (r2, x2)) (e3 : R.get r2 1 = (r3, x3))
    (e4 : R.get r3 1 = (r4, x4)) (e5 : R.get r4 1 = (r5, x5)) (e6 : R.get r5 5 = (r6, x6)) (e7 : R.get r6 6 = (r7, x7)) (e8 : R.bytes r7 1514 = (r8, x8)) :
    pdec l = if R.done r8 = 0 ∧ x0 = 1 ∧ right x1 x2 x3 x4 x5 x6 x7 x8.length = true then some ⟨x1, x2, x3, x4, x5, x6, x7, x8⟩ else none := by
  unfold pdec
  simp only [e0, e1, e2, e3, e4, e5, e6, e7, e8]
theorem bytes_len (r : R) (m : Int) : (R.bytes r m).2.length ≤ r.b.length := by
  have := get_len r 2
  unfold R.bytes
  split <;> simp <;> omega
end Go.Proofs.Ytanhmbdcdbcfmaa.TunD
