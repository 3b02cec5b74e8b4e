/- Writers that were never wrong; readers that have what is read. -/
import Derived.Test.YtanhmbdcdbcfmaaBufP
import Derived.Test.YtanhmbdcdbcfmaaBuf
set_option linter.unusedVariables false
set_option linter.unusedSimpArgs false
namespace Go.Proofs.Ytanhmbdcdbcfmaa.Wr
open Go Go.Sl Go.Proofs Go.Proofs.Ytanhmbdcdbcfmaa.Buf Go.Proofs.Ytanhmbdcdbcfmaa.BufRd Go.Proofs.Ytanhmbdcdbcfmaa.BufRe Go.Proofs.Ytanhmbdcdbcfmaa.BufP
theorem putF {G : Hp} {p : Nat} {acc : List UInt8} {n : Int} {v : Value} {l : List Int} (hv : rds G 1 v (iv l)) (h1 : 1 ≤ n) (h8 : n ≤ 8) (hf : ∀ x ∈ l, fits n x) (hb : acc.length + 8 * l.length ≤ 70368744177664) :
    Con Try.prog G 120 [.pointer (some ⟨p, 0, none⟩), .int .i64 n, v] [isW p ⟨acc, false⟩] (fun v B => v = .pointer (some ⟨p, 0, none⟩) ∧ B = [isW p ⟨acc ++ flat n.toNat l, false⟩]) := by
  have := put_ok (p := p) (w := ⟨acc, false⟩) (n := n) hv hb
  rwa [put_fits h1 h8 hf] at this
theorem fits_i {n x : Int} (h0 : 0 ≤ x) (h : x < 256 ^ n.toNat) : fits n x := ⟨h0, .inr (by
  have e : ((x.toNat : Nat) : Int) = x := Int.toNat_of_nonneg h0
  have : ((x.toNat : Nat) : Int) < ((256 ^ n.toNat : Nat) : Int) := by rw [e]; simpa using h
  exact Int.ofNat_lt.1 this)⟩
theorem putF1 {G : Hp} {p : Nat} {acc : List UInt8} {n : Int} {v : Value} {x : Int} (hv : rds G 1 v [.int .i64 x]) (h1 : 1 ≤ n) (h8 : n ≤ 8) (hx : 0 ≤ x) (hx' : x < 256 ^ n.toNat) (hb : acc.length + 8 ≤ 70368744177664) :
    Con Try.prog G 120 [.pointer (some ⟨p, 0, none⟩), .int .i64 n, v] [isW p ⟨acc, false⟩] (fun v B => v = .pointer (some ⟨p, 0, none⟩) ∧ B = [isW p ⟨acc ++ flat n.toNat [x], false⟩]) :=
  putF (l := [x]) hv h1 h8 (by simpa using fits_i hx hx') (by simpa using hb)
theorem putF2 {G : Hp} {p : Nat} {acc : List UInt8} {n : Int} {v : Value} {x y : Int} (hv : rds G 1 v [.int .i64 x, .int .i64 y]) (h1 : 1 ≤ n) (h8 : n ≤ 8) (hx : 0 ≤ x) (hx' : x < 256 ^ n.toNat) (hy : 0 ≤ y) (hy' : y < 256 ^ n.toNat)
    (hb : acc.length + 16 ≤ 70368744177664) :
    Con Try.prog G 120 [.pointer (some ⟨p, 0, none⟩), .int .i64 n, v] [isW p ⟨acc, false⟩] (fun v B => v = .pointer (some ⟨p, 0, none⟩) ∧ B = [isW p ⟨acc ++ flat n.toNat [x, y], false⟩]) :=
  putF (l := [x, y]) hv h1 h8 (by simp; exact ⟨fits_i hx hx', fits_i hy hy'⟩) (by simpa using hb)
theorem putF4 {G : Hp} {p : Nat} {acc : List UInt8} {n : Int} {v : Value} {x y z w : Int} (hv : rds G 1 v [.int .i64 x, .int .i64 y, .int .i64 z, .int .i64 w]) (h1 : 1 ≤ n) (h8 : n ≤ 8) (hx : 0 ≤ x) (hx' : x < 256 ^ n.toNat) (hy : 0 ≤ y) (hy' : y < 256 ^ n.toNat)
    (hz : 0 ≤ z) (hz' : z < 256 ^ n.toNat) (hw : 0 ≤ w) (hw' : w < 256 ^ n.toNat) (hb : acc.length + 32 ≤ 70368744177664) :
    Con Try.prog G 120 [.pointer (some ⟨p, 0, none⟩), .int .i64 n, v] [isW p ⟨acc, false⟩] (fun v B => v = .pointer (some ⟨p, 0, none⟩) ∧ B = [isW p ⟨acc ++ flat n.toNat [x, y, z, w], false⟩]) :=
  putF (l := [x, y, z, w]) hv h1 h8 (by simp; exact ⟨fits_i hx hx', fits_i hy hy', fits_i hz hz', fits_i hw hw'⟩) (by simpa using hb)
theorem doneF {G : Hp} {p : Nat} {acc : List UInt8} (hb : acc.length ≤ 70368744177664) :
    Con Try.prog G 122 [.pointer (some ⟨p, 0, none⟩)] [isW p ⟨acc, false⟩] (fun r B => ∃ v, r = .tuple #[v, .int .i64 0] ∧ B = [own 5 1 v (bv acc), isW p ⟨acc, false⟩]) := by
  have := Buf.done_ok (G := G) (p := p) (w := ⟨acc, false⟩) hb
  simpa using this
/-- A new writer. -/
theorem newW {G H : Hp} {L : List Asn} {p : Nat} (h : sg G (ob p (.cells #[.slice none 0 0, .bool false] 227 (0, 0)) :: L) H) : sg G (isW p ⟨[], false⟩ :: L) H :=
  isW_shut (w := ⟨[], false⟩) (((h.nil_ 5 1).fronts [1, 0]))
/-- A reader that has it. -/
theorem getF {G : Hp} {p : Nat} {b : List UInt8} {n : Int} (h1 : 1 ≤ n) (h7 : n ≤ 7) (hl : n.toNat ≤ b.length) (hb : b.length ≤ 70368744177664) :
    Con Try.prog G 126 [.pointer (some ⟨p, 0, none⟩), .int .i64 n] [isR p ⟨b, false⟩] (fun v B => v = .int .i64 (val (b.take n.toNat)) ∧ B = [isR p ⟨b.drop n.toNat, false⟩]) := by
  have := get_ok (G := G) (p := p) (r := ⟨b, false⟩) n hb
  rwa [get_good h1 h7 hl] at this
/-- A reader that has it not, in the end. -/
def isB (p k : Nat) : Asn := fun H => ∃ r : R, rem k r ∧ r.b.length ≤ 70368744177664 ∧ isR p r H
theorem isB_of {G H : Hp} {L : List Asn} {p k : Nat} {r : R} (h : sg G (isR p r :: L) H) (h1 : rem k r) (h2 : r.b.length ≤ 70368744177664) : sg G (isB p k :: L) H :=
  h.shut (M := [isR p r]) fun H _ h => by
    obtain ⟨H1, hr, hl⟩ := seps_get h
    obtain ⟨H1', H2', rfl, hd, ⟨s, hs⟩, _⟩ := h
    refine ⟨r, h1, h2, s, ?_⟩
    rw [Hp.un_comm hd]
    exact seps_more (Hp.disj_symm hd) hs
theorem isB_get {G H : Hp} {L : List Asn} {p k : Nat} (h : sg G (isB p k :: L) H) : ∃ r : R, rem k r ∧ r.b.length ≤ 70368744177664 ∧ sg G (isR p r :: L) H := by
  obtain ⟨hd, H1, H2, rfl, hd2, ⟨r, h1, h2, h3⟩, h4⟩ := h
  exact ⟨r, h1, h2, hd, H1, H2, rfl, hd2, h3, h4⟩
theorem getB {G : Hp} {p k : Nat} {n : Int} (h1 : 1 ≤ n) (h7 : n ≤ 7) (hk : n.toNat ≤ k) :
    Con Try.prog G 126 [.pointer (some ⟨p, 0, none⟩), .int .i64 n] [isB p k] (fun v B => (∃ x : Nat, v = .int .i64 x) ∧ B = [isB p (k - n.toNat)]) := by
  intro H h
  obtain ⟨r, h2, h3, h4⟩ := isB_get h
  refine (CallsH.ok (get_ok (p := p) n h3 H h4)).mono ?_
  rintro z H' ⟨⟨v, B, rfl, ⟨rfl, rfl⟩, hB⟩, hg⟩
  exact ⟨_, _, rfl, ⟨⟨_, rfl⟩, rfl⟩, (isB_of ⟨hg, hB⟩ (rem_get h2 h1 h7 hk) (Nat.le_trans (get_len _ _) h3)).2⟩
theorem doneB {G : Hp} {p : Nat} : Con Try.prog G 128 [.pointer (some ⟨p, 0, none⟩)] [isB p 0] (fun v B => v = .int .i64 2 ∧ B = [isB p 0]) := by
  intro H h
  obtain ⟨r, h2, h3, h4⟩ := isB_get h
  have hf : r.failed = true := by rcases h2 with h2 | h2; exact h2; omega
  have hd : R.done r = 2 := by unfold R.done; rw [if_pos (.inl hf)]
  refine (CallsH.ok (BufRe.done_ok (p := p) (r := r) H h4)).mono ?_
  rintro z H' ⟨⟨v, B, rfl, ⟨rfl, rfl⟩, hB⟩, hg⟩
  exact ⟨_, _, rfl, ⟨by rw [hd], rfl⟩, (isB_of ⟨hg, hB⟩ h2 h3).2⟩
theorem doneE {G : Hp} {p : Nat} {b : List UInt8} (hb : b.length = 0) : Con Try.prog G 128 [.pointer (some ⟨p, 0, none⟩)] [isR p ⟨b, false⟩] (fun v B => v = .int .i64 0 ∧ B = [isR p ⟨b, false⟩]) := by
  have := BufRe.done_ok (G := G) (p := p) (r := ⟨b, false⟩)
  have e : R.done ⟨b, false⟩ = 0 := by unfold R.done; simp [hb]
  rwa [e] at this
theorem doneN {G : Hp} {p : Nat} {b : List UInt8} (hb : 0 < b.length) : Con Try.prog G 128 [.pointer (some ⟨p, 0, none⟩)] [isR p ⟨b, false⟩] (fun v B => v = .int .i64 2 ∧ B = [isR p ⟨b, false⟩]) := by
  have := BufRe.done_ok (G := G) (p := p) (r := ⟨b, false⟩)
  have e : R.done ⟨b, false⟩ = 2 := by unfold R.done; simp [hb]
  rwa [e] at this
end Go.Proofs.Ytanhmbdcdbcfmaa.Wr
