/- What is made is parsed, in plain Lean. -/
import Derived.Test.YtfdcllpedfifpaaInQ
import Derived.Test.YtfdcllpedfifpaaInM
set_option linter.unusedVariables false
set_option linter.unusedSimpArgs false
namespace Go.Proofs.Ytfdcllpedfifpaa.InX
open Go Go.Sl Go.Proofs Go.Proofs.Ytfdcllpedfifpaa.Buf Go.Proofs.Ytfdcllpedfifpaa.BufRd Go.Proofs.Ytfdcllpedfifpaa.BufRe Go.Proofs.Ytfdcllpedfifpaa.BufP Go.Proofs.Ytfdcllpedfifpaa.Inp Go.Proofs.Ytfdcllpedfifpaa.InF Go.Proofs.Ytfdcllpedfifpaa.InP Go.Proofs.Ytfdcllpedfifpaa.InM
theorem at_skip {x y : List UInt8} {n o k : Nat} (h : x.length = n) : at_ (x ++ y) (n + o) k = at_ y o k := by
  unfold at_
  rw [← h, List.drop_append, List.drop_of_length_le (by omega), List.nil_append, Nat.add_sub_cancel_left]
theorem at_here {k v : Nat} {t : List UInt8} (h : v < 256 ^ k) : at_ (num k v ++ t) 0 k = v := by
  unfold at_
  rw [List.drop_zero, List.take_left' (num_length k v), val_num k v h]
theorem mk4_eq (p s d a b : Nat) (l : List UInt8) : ∃ c, c = check (hdr4 p s d (24 + l.length) 0) ∧ mk4 p s d a b l =
    num 1 69 ++ (num 1 0 ++ (num 2 (24 + l.length) ++ (num 2 0 ++ (num 2 0 ++ (num 1 64 ++ (num 1 p ++ (num 2 c ++ (num 4 s ++ (num 4 d ++ (num 2 a ++ (num 2 b ++ l))))))))))) :=
  ⟨_, rfl, by
    have h24 : (24 + (l.length : Int)).toNat = 24 + l.length := by omega
    simp [mk4, hdr4, flat, List.append_assoc, h24]⟩
theorem hdr4_sum (p s d n c : Nat) (hc : c ≤ 65535) : wsum 0 (hdr4 p s d n c) = wsum 0 (hdr4 p s d n 0) + c ∧ 0 < wsum 0 (hdr4 p s d n 0) := by
  have h : ∀ c, c ≤ 65535 → wsum 0 (hdr4 p s d n c) = wsum 0 (flat 1 [69, 0] ++ (flat 2 [(n : Int), 0, 0] ++ flat 1 [64, (p : Int)])) + (c + wsum 12 (flat 4 [(s : Int), (d : Int)])) := by
    intro c hc
    have e : hdr4 p s d n c = (flat 1 [69, 0] ++ (flat 2 [(n : Int), 0, 0] ++ flat 1 [64, (p : Int)])) ++ (num 2 c ++ flat 4 [(s : Int), (d : Int)]) := by
      simp [hdr4, flat, List.append_assoc]
    have l1 : (flat 1 [69, 0] ++ (flat 2 [(n : Int), 0, 0] ++ flat 1 [64, (p : Int)])).length = 10 := by simp [flat, num_length]
    rw [e, wsum_append 0 (flat 1 [69, 0] ++ (flat 2 [(n : Int), 0, 0] ++ flat 1 [64, (p : Int)])) _, l1, wsum_append (0 + 10) (num 2 c) _, num_length]
    rw [wsum_num2 (0 + 10) c (by omega) hc]
  have pos : 0 < wsum 0 (flat 1 [69, 0] ++ (flat 2 [(n : Int), 0, 0] ++ flat 1 [64, (p : Int)])) := by
    have : flat 1 [69, 0] = [69, 0] := by decide
    rw [this, List.cons_append, wsum]
    simp; omega
  rw [h c hc, h 0 (by omega)]
  exact ⟨by omega, by omega⟩
theorem hdr4_check (p s d n : Nat) : check (hdr4 p s d n (check (hdr4 p s d n 0))) = 0 := by
  obtain ⟨h1, h2⟩ := hdr4_sum p s d n (check (hdr4 p s d n 0)) (check_le _)
  have := whole_sum h2
  unfold check at h1 ⊢
  rw [h1, this]
theorem mk4_take (p s d a b : Nat) (l : List UInt8) : (mk4 p s d a b l).take 20 = hdr4 p s d (24 + l.length) (check (hdr4 p s d (24 + l.length) 0)) := by
  unfold mk4; exact List.take_left' (hdr4_length _ _ _ _ _)
theorem mk4_drop (p s d a b : Nat) (l : List UInt8) : (mk4 p s d a b l).drop 24 = l := by
  unfold mk4
  rw [show 24 = 20 + 4 from rfl, ← List.drop_drop, List.drop_left' (hdr4_length _ _ _ _ _)]
  exact List.drop_left' (by simp [flat, num_length])
theorem mk4_length (p s d a b : Nat) (l : List UInt8) : (mk4 p s d a b l).length = 24 + l.length := by
  unfold mk4; rw [List.length_append, hdr4_length, List.length_append]; simp [flat, num_length]; omega
theorem mk4_at {p s d a b : Nat} {l : List UInt8} (hp : p < 256) (hs : s < 4294967296) (hd : d < 4294967296) (ha : a < 65536) (hb : b < 65536) (hl : l.length ≤ 1400) :
    at_ (mk4 p s d a b l) 0 1 = 69 ∧ at_ (mk4 p s d a b l) 2 2 = 24 + l.length ∧ at_ (mk4 p s d a b l) 9 1 = p ∧ at_ (mk4 p s d a b l) 12 4 = s ∧ at_ (mk4 p s d a b l) 16 4 = d ∧ at_ (mk4 p s d a b l) 20 2 = a ∧ at_ (mk4 p s d a b l) 22 2 = b := by
  obtain ⟨c, _, e⟩ := mk4_eq p s d a b l
  rw [e]
  have L1 : ∀ x, (num 1 x).length = 1 := num_length 1
  have L2 : ∀ x, (num 2 x).length = 2 := num_length 2
  have L4 : ∀ x, (num 4 x).length = 4 := num_length 4
  refine ⟨at_here (by decide), ?_, ?_, ?_, ?_, ?_, ?_⟩
  · rw [show 2 = 1 + (1 + 0) from rfl, at_skip (L1 _), at_skip (L1 _)]
    exact at_here (by have : (256 : Nat) ^ 2 = 65536 := by decide
                      omega)
  · rw [show 9 = 1 + (1 + (2 + (2 + (2 + (1 + 0))))) from rfl, at_skip (L1 _), at_skip (L1 _), at_skip (L2 _), at_skip (L2 _), at_skip (L2 _), at_skip (L1 _)]
    exact at_here (by omega)
  · rw [show 12 = 1 + (1 + (2 + (2 + (2 + (1 + (1 + (2 + 0))))))) from rfl, at_skip (L1 _), at_skip (L1 _), at_skip (L2 _), at_skip (L2 _), at_skip (L2 _), at_skip (L1 _), at_skip (L1 _), at_skip (L2 _)]
    exact at_here (by have : (256 : Nat) ^ 4 = 4294967296 := by decide
                      omega)
  · rw [show 16 = 1 + (1 + (2 + (2 + (2 + (1 + (1 + (2 + (4 + 0)))))))) from rfl, at_skip (L1 _), at_skip (L1 _), at_skip (L2 _), at_skip (L2 _), at_skip (L2 _), at_skip (L1 _), at_skip (L1 _), at_skip (L2 _), at_skip (L4 _)]
    exact at_here (by have : (256 : Nat) ^ 4 = 4294967296 := by decide
                      omega)
  · rw [show 20 = 1 + (1 + (2 + (2 + (2 + (1 + (1 + (2 + (4 + (4 + 0))))))))) from rfl, at_skip (L1 _), at_skip (L1 _), at_skip (L2 _), at_skip (L2 _), at_skip (L2 _), at_skip (L1 _), at_skip (L1 _), at_skip (L2 _), at_skip (L4 _), at_skip (L4 _)]
    exact at_here (by have : (256 : Nat) ^ 2 = 65536 := by decide
                      omega)
  · rw [show 22 = 1 + (1 + (2 + (2 + (2 + (1 + (1 + (2 + (4 + (4 + (2 + 0)))))))))) from rfl, at_skip (L1 _), at_skip (L1 _), at_skip (L2 _), at_skip (L2 _), at_skip (L2 _), at_skip (L1 _), at_skip (L1 _), at_skip (L2 _), at_skip (L4 _), at_skip (L4 _), at_skip (L2 _)]
    exact at_here (by have : (256 : Nat) ^ 2 = 65536 := by decide
                      omega)
/-- What is made is parsed. -/
theorem par_mk {p s d a b : Nat} {l : List UInt8} (g : fright p a b = true) (hs : s < 4294967296) (hd : d < 4294967296) (hl : l.length ≤ 1400) {r : Value} {B : List Asn} (h : ParR (mk4 p s d a b l) r B) :
    ∃ u, r = .tuple #[flv p s d a b, u, .int .i64 0] ∧ B = [own 5 1 u (bv l)] := by
  have g' := g
  unfold fright at g'
  simp only [decide_eq_true_eq] at g'
  obtain ⟨t1, t2, t3, t4, t5, t6, t7⟩ := mk4_at (p := p) (s := s) (d := d) (a := a) (b := b) (l := l) (by omega) hs hd (by omega) (by omega) hl
  unfold ParR at h
  rw [mk4_length, mk4_take, hdr4_check, t1, t2, t3, t4, t5, t6, t7, mk4_drop] at h
  rw [if_neg (by omega), if_neg (by omega), if_neg (by rw [g]; simp)] at h
  exact h
/-- A parse: numbers, bytes, an error. -/
theorem par_form (l : List UInt8) : ∃ (p s d a b e : Int) (m : List UInt8), ∀ r B, ParR l r B → ∃ v, r = .tuple #[flv p s d a b, v, .int .i64 e] ∧ ((B = [] ∧ v = .slice none 0 0 ∧ m = []) ∨ B = [own 5 1 v (bv m)]) := by
  unfold ParR
  by_cases h1 : ¬ (24 ≤ l.length ∧ at_ l 0 1 = 69 ∧ at_ l 2 2 = l.length)
  · refine ⟨0, 0, 0, 0, 0, 2, [], fun r B h => ?_⟩
    rw [if_pos h1] at h
    exact ⟨_, h.1, .inl ⟨h.2, rfl, rfl⟩⟩
  · by_cases h2 : ¬ check (l.take 20) = 0
    · refine ⟨0, 0, 0, 0, 0, 6, [], fun r B h => ?_⟩
      rw [if_neg h1, if_pos h2] at h
      exact ⟨_, h.1, .inl ⟨h.2, rfl, rfl⟩⟩
    · by_cases h3 : fright (at_ l 9 1) (at_ l 20 2) (at_ l 22 2) = false
      · refine ⟨0, 0, 0, 0, 0, 14, [], fun r B h => ?_⟩
        rw [if_neg h1, if_neg h2, if_pos h3] at h
        exact ⟨_, h.1, .inl ⟨h.2, rfl, rfl⟩⟩
      · refine ⟨at_ l 9 1, at_ l 12 4, at_ l 16 4, at_ l 20 2, at_ l 22 2, 0, l.drop 24, fun r B h => ?_⟩
        rw [if_neg h1, if_neg h2, if_neg h3] at h
        obtain ⟨u, h4, h5⟩ := h
        exact ⟨u, h4, .inr h5⟩
/-- A datagram: bytes, an error. -/
theorem make_form (p s d a b : Int) (l : List UInt8) : ∃ (e : Int) (m : List UInt8), (e = 0 ∧ fright p a b = true ∧ l.length ≤ 1400 ∧ m = mk4 p.toNat s.toNat d.toNat a.toNat b.toNat l ∨ e = 1 ∧ m = []) ∧
    ∀ r B, MakeR p s d a b l r B → ∃ v, r = .tuple #[v, .int .i64 e] ∧ ((B = [] ∧ v = .slice none 0 0 ∧ m = []) ∨ B = [own 5 1 v (bv m)]) := by
  unfold MakeR
  by_cases h1 : fright p a b = true ∧ l.length ≤ 1400
  · refine ⟨0, _, .inl ⟨rfl, h1.1, h1.2, rfl⟩, fun r B h => ?_⟩
    rw [if_pos h1] at h
    obtain ⟨u, h4, h5⟩ := h
    exact ⟨u, h4, .inr h5⟩
  · refine ⟨1, [], .inr ⟨rfl, rfl⟩, fun r B h => ?_⟩
    rw [if_neg h1] at h
    exact ⟨_, h.1, .inl ⟨h.2, rfl, rfl⟩⟩
theorem sg.orNil {G H : Hp} {v : Value} {m : List UInt8} {B L : List Asn} (h : sg G (B ++ L) H) (hB : (B = [] ∧ v = .slice none 0 0 ∧ m = []) ∨ B = [own 5 1 v (bv m)]) : sg G (own 5 1 v (bv m) :: L) H := by
  rcases hB with ⟨rfl, rfl, rfl⟩ | rfl
  · exact Go.Sl.sg.nil_ h 5 1
  · exact h
end Go.Proofs.Ytfdcllpedfifpaa.InX
