/- Messages: there and back, in plain Lean. -/
import Derived.Test.YtfjmejideoklpaaCtD
set_option linter.unusedVariables false
set_option linter.unusedSimpArgs false
set_option maxRecDepth 10000
set_option maxHeartbeats 1000000
namespace Go.Proofs.Ytfjmejideoklpaa.CtP
open Go Go.Sl Go.Proofs Go.Proofs.Ytfjmejideoklpaa.Buf Go.Proofs.Ytfjmejideoklpaa.BufRd Go.Proofs.Ytfjmejideoklpaa.BufRe Go.Proofs.Ytfjmejideoklpaa.BufP Go.Proofs.Ytfjmejideoklpaa.Wr Go.Proofs.Ytfjmejideoklpaa.Ph Go.Proofs.Ytfjmejideoklpaa.PhA Go.Proofs.Ytfjmejideoklpaa.Ct Go.Proofs.Ytfjmejideoklpaa.CtE Go.Proofs.Ytfjmejideoklpaa.CtD
theorem gn {n : Nat} {x : Int} {t : List UInt8} (h1 : 1 ≤ n) (h7 : n ≤ 7) (h0 : 0 ≤ x) (hx : x < 256 ^ n) : (R.mk (num n x.toNat ++ t) false).get n = (⟨t, false⟩, x.toNat) := by
  have hle : (256 : Int) ^ n ≤ 256 ^ 7 := by
    have := Nat.pow_le_pow_right (n := 256) (by omega) h7
    exact_mod_cast this
  have hp : (256 : Int) ^ 7 = 72057594037927936 := by decide
  have := get_num (k := (n : Int)) (x := x) (t := t) (by omega) (by omega) ⟨h0, .inr (by
    rw [Int.toNat_natCast]
    have h : (x.toNat : Int) < ((256 ^ n : Nat) : Int) := by rw [Int.toNat_of_nonneg h0]; push_cast; exact hx
    exact_mod_cast h)⟩ (by omega)
  rwa [Int.toNat_natCast] at this
theorem g1 {x : Int} {t : List UInt8} (h0 : 0 ≤ x) (hx : x < 256) : (R.mk (num 1 x.toNat ++ t) false).get 1 = (⟨t, false⟩, x.toNat) := gn (n := 1) (by omega) (by omega) h0 (by simpa using hx)
theorem g2 {x : Int} {t : List UInt8} (h0 : 0 ≤ x) (hx : x < 65536) : (R.mk (num 2 x.toNat ++ t) false).get 2 = (⟨t, false⟩, x.toNat) := gn (n := 2) (by omega) (by omega) h0 (by simpa using hx)
theorem g4 {x : Int} {t : List UInt8} (h0 : 0 ≤ x) (hx : x < 4294967296) : (R.mk (num 4 x.toNat ++ t) false).get 4 = (⟨t, false⟩, x.toNat) := gn (n := 4) (by omega) (by omega) h0 (by simpa using hx)
theorem g5 {x : Int} {t : List UInt8} (h0 : 0 ≤ x) (hx : x < 1099511627776) : (R.mk (num 5 x.toNat ++ t) false).get 5 = (⟨t, false⟩, x.toNat) := gn (n := 5) (by omega) (by omega) h0 (by simpa using hx)
theorem g6 {x : Int} {t : List UInt8} (h0 : 0 ≤ x) (hx : x < 281474976710656) : (R.mk (num 6 x.toNat ++ t) false).get 6 = (⟨t, false⟩, x.toNat) := gn (n := 6) (by omega) (by omega) h0 (by simpa using hx)
theorem gb {r : R} {n : Int} (h : (r.get n).1.failed = false) : r.failed = false ∧ r.b = num n.toNat (r.get n).2 ++ (r.get n).1.b ∧ (r.get n).2 < 256 ^ n.toNat := get_back rfl h
/-- a row's bytes -/
def rowB (x : Rw) : List UInt8 := num 1 x.port.toNat ++ (num 6 x.mac.toNat ++ (num 1 (x.own + 1).toNat ++ (num 1 (x.tgt + 1).toNat ++ (num 1 (x.old + 1).toNat ++ (num 1 x.ph.toNat ++ (num 5 x.gen.toNat ++ (num 6 x.ver.toNat ++ num 6 x.since.toNat)))))))
theorem rowF {x : Rw} (h : x.ok = true) (hm : 0 ≤ x.mac) (t : List UInt8) : rdRow ⟨rowB x ++ t, false⟩ = (⟨t, false⟩, x) := by
  obtain ⟨b1, b2, b3, b4, b5, b6, b7, b8, b9⟩ := row_b h hm
  obtain ⟨p, m, o, tg, ol, ge, ph, ve, si⟩ := x
  simp only at b1 b2 b3 b4 b5 b6 b7 b8 b9
  have hw : IntKind.u64.wrap m = m := wrap_u64_id (by omega) (by omega)
  unfold rdRow rowB
  simp only [List.append_assoc]
  rw [g1 (by omega) (by omega)]; simp only
  rw [g6 (by omega) (by omega)]; simp only
  rw [g1 (by omega) (by omega)]; simp only
  rw [g1 (by omega) (by omega)]; simp only
  rw [g1 (by omega) (by omega)]; simp only
  rw [g1 (by omega) (by omega)]; simp only
  rw [g5 (by omega) (by omega)]; simp only
  rw [g6 (by omega) (by omega)]; simp only
  rw [g6 (by omega) (by omega)]; simp only
  rw [Int.toNat_of_nonneg (by omega), Int.toNat_of_nonneg (by omega), Int.toNat_of_nonneg (by omega), Int.toNat_of_nonneg (by omega), Int.toNat_of_nonneg (by omega), Int.toNat_of_nonneg (by omega), Int.toNat_of_nonneg (by omega), Int.toNat_of_nonneg (by omega), Int.toNat_of_nonneg (by omega), hw, Int.add_sub_cancel, Int.add_sub_cancel, Int.add_sub_cancel]
theorem rowBk {r : R} (h : (rdRow r).1.failed = false) : r.failed = false ∧ r.b = rowB (rdRow r).2 ++ (rdRow r).1.b ∧ 0 ≤ (rdRow r).2.mac := by
  unfold rdRow at h ⊢
  simp only at h ⊢
  obtain ⟨h, i1, i2⟩ := gb h
  obtain ⟨h, h1, h2⟩ := gb h
  obtain ⟨h, g1, g2⟩ := gb h
  obtain ⟨h, f1, f2⟩ := gb h
  obtain ⟨h, e1, e2⟩ := gb h
  obtain ⟨h, d1, d2⟩ := gb h
  obtain ⟨h, c1, c2⟩ := gb h
  obtain ⟨h, b1, b2⟩ := gb h
  obtain ⟨h, a1, a2⟩ := gb h
  simp only [Int.reduceToNat, Nat.reducePow] at *
  have hw : IntKind.u64.wrap ((((r.get 1).1.get 6).2 : Nat) : Int) = (((r.get 1).1.get 6).2 : Nat) := wrap_u64_id (by omega) (by omega)
  refine ⟨h, ?_, by rw [hw]; omega⟩
  unfold rowB
  simp only [hw, List.append_assoc, Int.sub_add_cancel, Int.toNat_natCast]
  rw [← i1, ← h1, ← g1, ← f1, ← e1, ← d1, ← c1, ← b1, ← a1]
/-- a record's bytes -/
def oneB (x : Rc) : List UInt8 := num 1 x.p.toNat ++ (num 4 x.s.toNat ++ (num 4 x.d.toNat ++ (num 2 x.a.toNat ++ (num 2 x.b.toNat ++ num 6 x.u.toNat))))
theorem oneB_eq (x : Rc) : x.enc = oneB x := by simp [Rc.enc, oneB, flat, List.append_assoc]
theorem oneF {x : Rc} (h : x.ok = true) (hs : 0 ≤ x.s ∧ x.s < 4294967296) (hd : 0 ≤ x.d ∧ x.d < 4294967296) (t : List UInt8) : rdOne ⟨oneB x ++ t, false⟩ = (⟨t, false⟩, x) := by
  obtain ⟨p, s, d, a, b, u⟩ := x
  simp only [Rc.ok, fok, Bool.and_eq_true, decide_eq_true_eq] at h
  simp only at hs hd
  have w1 : IntKind.u32.wrap s = s := by show s % 4294967296 = s; omega
  have w2 : IntKind.u32.wrap d = d := by show d % 4294967296 = d; omega
  unfold rdOne oneB
  simp only [List.append_assoc]
  rw [g1 (by omega) (by omega)]; simp only
  rw [g4 (by omega) (by omega)]; simp only
  rw [g4 (by omega) (by omega)]; simp only
  rw [g2 (by omega) (by omega)]; simp only
  rw [g2 (by omega) (by omega)]; simp only
  rw [g6 (by omega) (by omega)]; simp only
  rw [Int.toNat_of_nonneg (by omega), Int.toNat_of_nonneg (by omega), Int.toNat_of_nonneg (by omega), Int.toNat_of_nonneg (by omega), Int.toNat_of_nonneg (by omega), Int.toNat_of_nonneg (by omega), w1, w2]
def Rc.good (x : Rc) : Prop := (0 ≤ x.s ∧ x.s < 4294967296) ∧ 0 ≤ x.d ∧ x.d < 4294967296
theorem oneBk {r : R} (h : (rdOne r).1.failed = false) : r.failed = false ∧ r.b = oneB (rdOne r).2 ++ (rdOne r).1.b ∧ Rc.good (rdOne r).2 := by
  unfold rdOne Rc.good at *
  simp only at h ⊢
  obtain ⟨h, f1, f2⟩ := gb h
  obtain ⟨h, e1, e2⟩ := gb h
  obtain ⟨h, d1, d2⟩ := gb h
  obtain ⟨h, c1, c2⟩ := gb h
  obtain ⟨h, b1, b2⟩ := gb h
  obtain ⟨h, a1, a2⟩ := gb h
  simp only [Int.reduceToNat, Nat.reducePow] at *
  have w1 : IntKind.u32.wrap ((((r.get 1).1.get 4).2 : Nat) : Int) = (((r.get 1).1.get 4).2 : Nat) := by show _ % (4294967296 : Int) = _; omega
  have w2 : IntKind.u32.wrap (((((r.get 1).1.get 4).1.get 4).2 : Nat) : Int) = ((((r.get 1).1.get 4).1.get 4).2 : Nat) := by show _ % (4294967296 : Int) = _; omega
  refine ⟨h, ?_, by rw [w1, w2]; omega⟩
  unfold oneB
  simp only [w1, w2, List.append_assoc, Int.toNat_natCast]
  rw [← f1, ← e1, ← d1, ← c1, ← b1, ← a1]
theorem nF : ∀ (l : List Rc) (t : List UInt8), (∀ x ∈ l, x.ok = true) → (∀ x ∈ l, Rc.good x) → rdN l.length ⟨rencs l ++ t, false⟩ = (⟨t, false⟩, l)
  | [], t, _, _ => by simp [rdN, rencs]
  | x :: l, t, h, g => by
    have e : rencs (x :: l) ++ t = oneB x ++ (rencs l ++ t) := by simp [rencs, oneB_eq, List.append_assoc]
    have gx := g x (by simp)
    rw [e]
    show ((rdN l.length (rdOne _).1).1, (rdOne _).2 :: (rdN l.length (rdOne _).1).2) = _
    rw [oneF (h x (by simp)) gx.1 gx.2]
    simp only
    rw [nF l t (fun y hy => h y (by simp [hy])) (fun y hy => g y (by simp [hy]))]
theorem nBk : ∀ (n : Nat) (r : R), (rdN n r).1.failed = false → r.failed = false ∧ r.b = rencs (rdN n r).2 ++ (rdN n r).1.b ∧ ∀ x ∈ (rdN n r).2, Rc.good x
  | 0, r, h => ⟨h, by simp [rdN, rencs], by simp [rdN]⟩
  | n + 1, r, h => by
    have e : rdN (n + 1) r = ((rdN n (rdOne r).1).1, (rdOne r).2 :: (rdN n (rdOne r).1).2) := rfl
    rw [e] at h ⊢
    simp only at h ⊢
    obtain ⟨h, b1, b2⟩ := nBk n _ h
    obtain ⟨h, a1, a2⟩ := oneBk h
    refine ⟨h, ?_, ?_⟩
    · rw [a1, b1]; simp [rencs, oneB_eq, List.append_assoc]
    · intro x hx
      rcases List.mem_cons.1 hx with rfl | hx
      · exact a2
      · exact b2 x hx
def Mg.good (m : Mg) : Prop := 0 ≤ m.row.mac ∧ ∀ x ∈ m.recs, Rc.good x
theorem msgF {m : Mg} (h : m.ok = true) (g : Mg.good m) (t : List UInt8) : rdMsg ⟨m.enc ++ t, false⟩ = (⟨t, false⟩, m) := by
  obtain ⟨hr, hk⟩ := ok_cases h
  obtain ⟨k, row, port, ver, recs⟩ := m
  obtain ⟨gm, gr⟩ := g
  simp only at hr hk gm gr
  rcases hk with ⟨rfl, h1, rfl, rfl, rfl⟩ | ⟨rfl, ⟨h1, h2, rfl⟩, rfl⟩ | ⟨rfl, ⟨h1, h2, rfl⟩, h3⟩
  · have e : Mg.enc ⟨1, row, 0, 0, []⟩ ++ t = num 1 (1 : Int).toNat ++ (rowB row ++ t) := by simp [Mg.enc, Mg.hdr, rencs, rowB, flat, List.append_assoc]
    rw [e]
    unfold rdMsg
    rw [g1 (by omega) (by omega)]
    simp only [Int.reduceToNat, if_true]
    rw [rowF h1 gm]
  · have e : Mg.enc ⟨2, zr, port, ver, []⟩ ++ t = num 1 (2 : Int).toNat ++ (num 1 port.toNat ++ (num 6 ver.toNat ++ t)) := by simp [Mg.enc, Mg.hdr, rencs, flat, List.append_assoc]
    rw [e]
    unfold rdMsg
    rw [g1 (by omega) (by omega)]
    simp only [Int.reduceToNat]
    rw [if_neg (by decide), if_pos trivial, g1 (by omega) (by omega)]
    simp only
    rw [g6 (by omega) (by omega)]
    simp only
    rw [Int.toNat_of_nonneg (by omega), Int.toNat_of_nonneg (by omega)]
  · have e : Mg.enc ⟨3, zr, port, ver, recs⟩ ++ t = num 1 (3 : Int).toNat ++ (num 1 port.toNat ++ (num 6 ver.toNat ++ (num 1 (recs.length : Int).toNat ++ (rencs recs ++ t)))) := by simp [Mg.enc, Mg.hdr, flat, List.append_assoc]
    rw [e]
    unfold rdMsg
    rw [g1 (by omega) (by omega)]
    simp only [Int.reduceToNat]
    rw [if_neg (by decide), if_neg (by decide), if_pos trivial, g1 (by omega) (by omega)]
    simp only
    rw [g6 (by omega) (by omega)]
    simp only
    rw [g1 (by omega) (by omega)]
    simp only [Int.toNat_natCast]
    rw [nF recs t hr gr]
    simp only
    rw [Int.toNat_of_nonneg (by omega), Int.toNat_of_nonneg (by omega)]
theorem msgBk {r : R} (h : (rdMsg r).1.failed = false) (ho : (rdMsg r).2.ok = true) : r.failed = false ∧ r.b = (rdMsg r).2.enc ++ (rdMsg r).1.b ∧ Mg.good (rdMsg r).2 := by
  unfold rdMsg at h ho ⊢
  simp only at h ho ⊢
  by_cases a1 : (r.get 1).2 = 1
  · rw [if_pos a1] at h ho ⊢
    simp only at h ho ⊢
    obtain ⟨h, b1, b2⟩ := rowBk h
    obtain ⟨h, c1, c2⟩ := gb h
    rw [a1] at c1
    refine ⟨h, ?_, b2, by simp⟩
    simp only [Int.reduceToNat] at c1
    rw [c1, b1]
    simp [Mg.enc, Mg.hdr, rencs, rowB, flat, List.append_assoc]
  · rw [if_neg a1] at h ho ⊢
    by_cases a2 : (r.get 1).2 = 2
    · rw [if_pos a2] at h ho ⊢
      simp only at h ho ⊢
      obtain ⟨h, b1, b2⟩ := gb h
      obtain ⟨h, d1, d2⟩ := gb h
      obtain ⟨h, c1, c2⟩ := gb h
      rw [a2] at c1
      refine ⟨h, ?_, by simp [zr], by simp⟩
      simp only [Int.reduceToNat] at c1 d1 b1
      rw [c1, d1, b1]
      simp [Mg.enc, Mg.hdr, rencs, flat, List.append_assoc]
    · rw [if_neg a2] at h ho ⊢
      by_cases a3 : (r.get 1).2 = 3
      · rw [if_pos a3] at h ho ⊢
        simp only at h ho ⊢
        obtain ⟨h, f1, f2⟩ := nBk _ _ h
        obtain ⟨h, e1, e2⟩ := gb h
        obtain ⟨h, b1, b2⟩ := gb h
        obtain ⟨h, d1, d2⟩ := gb h
        obtain ⟨h, c1, c2⟩ := gb h
        rw [a3] at c1
        refine ⟨h, ?_, by simp [zr], f2⟩
        simp only [Int.reduceToNat] at c1 d1 b1 e1
        rw [c1, d1, b1, e1, f1]
        simp [Mg.enc, Mg.hdr, flat, rdN_len, List.append_assoc]
      · rw [if_neg a3] at h ho ⊢
        have b1 : ¬ ((r.get 1).2 : Int) = 1 := by omega
        have b2 : ¬ ((r.get 1).2 : Int) = 2 := by omega
        have b3 : ¬ ((r.get 1).2 : Int) = 3 := by omega
        simp [Mg.ok, b1, b2, b3] at ho
theorem decF {m : Mg} (h : m.ok = true) (g : Mg.good m) : decM m.enc = (m, 0) := by
  have := msgF h g []
  rw [List.append_nil] at this
  unfold decM
  rw [this]
  rw [if_pos ⟨by simp [R.done], h⟩]
theorem decBk {l : List UInt8} {m : Mg} (h : decM l = (m, 0)) : l = m.enc ∧ m.ok = true ∧ Mg.good m := by
  unfold decM at h
  split at h
  · rename_i hd
    obtain ⟨h1, h2⟩ := hd
    cases h
    have hf : (rdMsg ⟨l, false⟩).1.failed = false ∧ (rdMsg ⟨l, false⟩).1.b = [] := by
      unfold R.done at h1
      split at h1
      · cases h1
      · rename_i hn
        simp only [not_or, Bool.not_eq_true, Nat.not_lt] at hn
        exact ⟨hn.1, List.length_eq_zero_iff.1 (by omega)⟩
    obtain ⟨_, b1, b2⟩ := msgBk hf.1 h2
    rw [hf.2, List.append_nil] at b1
    exact ⟨b1, h2, b2⟩
  · cases h
theorem dec_or (l : List UInt8) : (decM l).2 = 0 ∨ decM l = (mz, 2) := by
  unfold decM
  split
  · exact .inl rfl
  · exact .inr rfl
theorem decCut {m : Mg} (h : m.ok = true) (g : Mg.good m) {c : Nat} (hc : c < m.enc.length) : decM (m.enc.take c) = (mz, 2) := by
  rcases dec_or (m.enc.take c) with e | e
  · obtain ⟨m', e'⟩ : ∃ m', decM (m.enc.take c) = (m', 0) := ⟨_, Prod.ext rfl e⟩
    obtain ⟨b1, b2, b3⟩ := decBk e'
    have f1 := msgF b2 b3 (m.enc.drop c)
    rw [← b1, List.take_append_drop] at f1
    have f2 := msgF h g []
    rw [List.append_nil, f1] at f2
    have : m.enc.drop c = [] := by have := congrArg (·.1.b) f2; simpa using this
    have := congrArg List.length this
    simp at this; omega
  · exact e
end Go.Proofs.Ytfjmejideoklpaa.CtP
