/- There and back, in plain Lean: what a writer wrote, a reader reads. -/
import Derived.Test.YtanhmbdcdbcfmaaBufRe
set_option linter.unusedVariables false
set_option linter.unusedSimpArgs false
namespace Go.Proofs.Ytanhmbdcdbcfmaa.BufP
open Go Go.Sl Go.Proofs Go.Proofs.Ytanhmbdcdbcfmaa.Buf Go.Proofs.Ytanhmbdcdbcfmaa.BufRd Go.Proofs.Ytanhmbdcdbcfmaa.BufRe
theorem val_num : ∀ (n x : Nat), x < 256 ^ n → val (num n x) = x
  | 0, x, h => by simp at h; subst h; rfl
  | n + 1, x, h => by
    rw [num, val_cons, num_length]
    have e : ∀ m y, num m (y % 256 ^ m) = num m y := by
      intro m
      induction m with
      | zero => intro y; rfl
      | succ m ih =>
        intro y
        rw [num, num]
        congr 1
        · apply UInt8.toNat_inj.1
          rw [UInt8.toNat_ofNat', UInt8.toNat_ofNat', Nat.pow_succ, Nat.mod_mul_right_div_self]
          omega
        · rw [← ih (y % 256 ^ (m + 1)), ← ih y, Nat.mod_mod_of_dvd _ ⟨256, by rw [Nat.pow_succ]⟩]
    rw [← e n x, val_num n (x % 256 ^ n) (Nat.mod_lt _ (Nat.pos_of_ne_zero (by simp)))]
    have h2 : x / 256 ^ n < 256 := by
      apply Nat.div_lt_of_lt_mul
      rw [Nat.pow_succ] at h; exact h
    rw [UInt8.toNat_ofNat', Nat.mod_eq_of_lt h2, Nat.mul_comm]
    exact Nat.div_add_mod x (256 ^ n)
/-- numbers, one behind the other -/
def flat (k : Nat) : List Int → List UInt8
  | [] => []
  | x :: l => num k x.toNat ++ flat k l
theorem flat_length (k : Nat) : ∀ l : List Int, (flat k l).length = k * l.length
  | [] => rfl
  | x :: l => by rw [flat, List.length_append, num_length, flat_length k l, List.length_cons, Nat.mul_succ, Nat.add_comm]
theorem fold_good (k : Int) : ∀ (l : List Int) (w : W), (l.foldl (W.put1 k) w).wrong = false → w.wrong = false ∧ (∀ x ∈ l, fits k x) ∧ (l.foldl (W.put1 k) w).b = w.b ++ flat k.toNat l
  | [], w, h => ⟨h, by simp, by simp [flat]⟩
  | x :: l, w, h => by
    obtain ⟨h1, h2, h3⟩ := fold_good k l _ h
    have hp : W.put1 k w x = if fits k x then ⟨w.b ++ num k.toNat x.toNat, w.wrong⟩ else ⟨w.b, true⟩ := rfl
    by_cases hx : fits k x
    · rw [if_pos hx] at hp
      rw [hp] at h1 h3
      refine ⟨h1, ?_, ?_⟩
      · intro y hy
        rcases List.mem_cons.1 hy with rfl | hy
        · exact hx
        · exact h2 y hy
      · rw [List.foldl_cons, hp, h3, flat, List.append_assoc]
    · rw [if_neg hx] at hp
      rw [hp] at h1; cases h1
theorem fold_fits (k : Int) : ∀ (l : List Int) (w : W), (∀ x ∈ l, fits k x) → l.foldl (W.put1 k) w = ⟨w.b ++ flat k.toNat l, w.wrong⟩
  | [], w, h => by simp [flat]
  | x :: l, w, h => by
    have hp : W.put1 k w x = ⟨w.b ++ num k.toNat x.toNat, w.wrong⟩ := by unfold W.put1; rw [if_pos (h x (by simp))]
    rw [List.foldl_cons, hp, fold_fits k l _ fun y hy => h y (by simp [hy]), flat, List.append_assoc]
theorem put_fits {k : Int} {l : List Int} {w : W} (h1 : 1 ≤ k) (h8 : k ≤ 8) (h : ∀ x ∈ l, fits k x) : w.put k l = ⟨w.b ++ flat k.toNat l, w.wrong⟩ := by
  unfold W.put
  rw [if_neg (by omega)]
  exact fold_fits k l w h
theorem num_val : ∀ l : List UInt8, num l.length (val l) = l
  | [] => rfl
  | x :: l => by
    rw [List.length_cons, num, val_cons]
    have h := val_lt l
    have hp : 0 < 256 ^ l.length := Nat.pow_pos (by decide)
    have e : ∀ m y z, num m (z * 256 ^ m + y) = num m y := by
      intro m
      induction m with
      | zero => intro y z; rfl
      | succ m ih =>
        intro y z
        rw [num, num]
        have : z * 256 ^ (m + 1) + y = (z * 256) * 256 ^ m + y := by rw [Nat.pow_succ, Nat.mul_comm (256 ^ m) 256, Nat.mul_assoc]
        rw [this, ih y (z * 256)]
        congr 1
        apply UInt8.toNat_inj.1
        rw [UInt8.toNat_ofNat', UInt8.toNat_ofNat', Nat.add_comm, Nat.add_mul_div_right _ _ (Nat.pow_pos (by decide))]
        omega
    rw [e, num_val l]
    congr 1
    apply UInt8.toNat_inj.1
    rw [UInt8.toNat_ofNat', Nat.add_comm, Nat.add_mul_div_right _ _ hp, Nat.div_eq_of_lt h, Nat.zero_add]
    have := x.toNat_lt
    omega
theorem put_good {k : Int} {l : List Int} {w : W} (h1 : 1 ≤ k) (h8 : k ≤ 8) (h : (w.put k l).wrong = false) : w.wrong = false ∧ (∀ x ∈ l, fits k x) ∧ (w.put k l).b = w.b ++ flat k.toNat l := by
  unfold W.put at h ⊢
  rw [if_neg (by omega)] at h ⊢
  exact fold_good k l w h
theorem bytes_good {k : Int} {l : List Int} {b : List UInt8} (h1 : 1 ≤ k) (h8 : k ≤ 8) (h : (((W.mk [] false).put k l).bytes b).wrong = false) :
    (∀ x ∈ l, fits k x) ∧ b.length < 65536 ∧ (((W.mk [] false).put k l).bytes b).b = flat k.toNat l ++ (num 2 b.length ++ b) := by
  unfold W.bytes at h ⊢
  obtain ⟨g1, g2, g3⟩ := put_good (by omega) (by omega) h
  obtain ⟨_, f2, f3⟩ := put_good h1 h8 g1
  have := g2 (b.length : Int) (by simp)
  unfold fits at this
  refine ⟨f2, by simp at this; omega, ?_⟩
  rw [g3, f3]
  simp [flat]
theorem get_num {k : Int} {x : Int} {t : List UInt8} (h1 : 1 ≤ k) (h8 : k ≤ 8) (hx : fits k x) (hb : x < 9223372036854775808) :
    (R.mk (num k.toNat x.toNat ++ t) false).get k = (⟨t, false⟩, x.toNat) := by
  unfold R.get
  have hk : x.toNat < 256 ^ k.toNat := by
    rcases hx.2 with rfl | h
    · have : (256 : Nat) ^ (8 : Int).toNat = 18446744073709551616 := by decide
      omega
    · exact h
  have hbad : ¬ (R.mk (num k.toNat x.toNat ++ t) false).bad k := by
    unfold R.bad
    simp only [List.length_append, num_length]
    rintro (h | h | h | h | ⟨rfl, h⟩)
    · cases h
    · omega
    · omega
    · omega
    · rw [show (8 : Int).toNat = 7 + 1 from rfl, num, List.cons_append, List.headD_cons, UInt8.toNat_ofNat'] at h
      have : x.toNat / 256 ^ 7 < 128 := Nat.div_lt_of_lt_mul (by have : (256 : Nat) ^ 7 * 128 = 9223372036854775808 := by decide
                                                                 omega)
      omega
  rw [if_neg hbad]
  have hl := num_length k.toNat x.toNat
  simp only [List.drop_append, List.take_append, hl, Nat.sub_self, List.drop_zero, List.take_zero, List.append_nil]
  rw [List.drop_of_length_le (by omega), List.take_of_length_le (by omega), List.nil_append, val_num _ _ hk]
/-- the reader at number i -/
theorem get_at {k : Int} {l : List Int} {t : List UInt8} (h1 : 1 ≤ k) (h8 : k ≤ 8) (hf : ∀ x ∈ l, fits k x) (hb : ∀ x ∈ l, x < 9223372036854775808) {i : Nat} (hi : i < l.length) :
    (R.mk (flat k.toNat (l.drop i) ++ t) false).get k = (⟨flat k.toNat (l.drop (i + 1)) ++ t, false⟩, l[i].toNat) := by
  rw [← List.getElem_cons_drop hi, flat, List.append_assoc]
  exact get_num h1 h8 (hf _ (List.getElem_mem hi)) (hb _ (List.getElem_mem hi))
theorem get_len2 {b t : List UInt8} (hb : b.length < 65536) : (R.mk (num 2 b.length ++ t) false).get 2 = (⟨t, false⟩, b.length) := by
  have := get_num (k := 2) (x := (b.length : Int)) (t := t) (by omega) (by omega) ⟨by omega, .inr (by simp; omega)⟩ (by omega)
  simpa using this
theorem bytes_whole {b t : List UInt8} (hb : b.length < 65536) : R.bytes (R.mk (num 2 b.length ++ (b ++ t)) false) b.length = (⟨t, false⟩, b) := by
  unfold R.bytes
  rw [get_len2 hb]
  rw [if_neg (by simp only [List.length_append]; rintro (h | h); cases h; omega)]
  simp
theorem bytes_cut {b : List UInt8} (hb : b.length < 65536) : R.bytes (R.mk ((num 2 b.length ++ b).take (b.length + 1)) false) b.length = (⟨(R.bytes (R.mk ((num 2 b.length ++ b).take (b.length + 1)) false) b.length).1.b, true⟩, []) := by
  have key : ∀ r : R, ((r.get 2).1.failed = true ∨ min (b.length : Int) (r.get 2).1.b.length < (r.get 2).2) → R.bytes r b.length = (⟨(R.bytes r b.length).1.b, true⟩, []) := by
    intro r h
    unfold R.bytes
    rw [if_pos h]
  apply key
  rcases b with _ | ⟨c, b⟩
  · left
    unfold R.get
    rw [if_pos (by unfold R.bad; simp only [List.length_nil]; right; right; right; left; rw [List.length_take]; omega)]
  · right
    have e : (num 2 (c :: b).length ++ (c :: b)).take ((c :: b).length + 1) = num 2 (c :: b).length ++ (c :: b).take b.length := by
      rw [List.take_append, num_length, List.take_of_length_le (by rw [num_length]; simp)]
      simp
    rw [e, get_len2 hb]
    simp only [List.length_take, List.length_cons]
    omega
theorem get_good {b : List UInt8} {k : Int} (h1 : 1 ≤ k) (h7 : k ≤ 7) (hl : k.toNat ≤ b.length) : (R.mk b false).get k = (⟨b.drop k.toNat, false⟩, val (b.take k.toNat)) := by
  unfold R.get
  rw [if_neg (by unfold R.bad; simp only; rintro (h | h | h | h | ⟨h, _⟩); cases h; all_goals omega)]
theorem get_bad {r : R} {k : Int} (h : r.failed = true ∨ r.b.length < k.toNat) : (r.get k).1.failed = true := by
  unfold R.get
  rw [if_pos (by unfold R.bad; rcases h with h | h; exact .inl h; exact .inr (.inr (.inr (.inl (by omega)))))]
/-- Less is there than is wanted. -/
def rem (k : Nat) (r : R) : Prop := r.failed = true ∨ r.b.length < k
theorem rem_get {k : Nat} {r : R} {n : Int} (h : rem k r) (h1 : 1 ≤ n) (h7 : n ≤ 7) (hk : n.toNat ≤ k) : rem (k - n.toNat) (r.get n).1 := by
  by_cases z : r.failed = true ∨ r.b.length < n.toNat
  · exact .inl (get_bad z)
  · obtain ⟨b, f⟩ := r
    simp only [not_or, Bool.not_eq_true] at z
    obtain ⟨rfl, z⟩ := z
    rw [get_good h1 h7 (by omega)]
    rcases h with h | h
    · cases h
    · right; simp only at h ⊢; rw [List.length_drop]; omega
/-- What was got was there. -/
theorem get_back {r r' : R} {k : Int} {x : Nat} (e : r.get k = (r', x)) (h : r'.failed = false) : r.failed = false ∧ r.b = num k.toNat x ++ r'.b ∧ x < 256 ^ k.toNat := by
  unfold R.get at e
  split at e
  · cases e; cases h
  · rename_i hb
    unfold R.bad at hb
    simp only [not_or, Bool.not_eq_true] at hb
    obtain ⟨h1, h2, h3, h4, _⟩ := hb
    cases e
    have hl : (r.b.take k.toNat).length = k.toNat := by rw [List.length_take]; omega
    refine ⟨h1, ?_, ?_⟩
    · have := num_val (r.b.take k.toNat)
      rw [hl] at this
      rw [this]
      exact (List.take_append_drop _ _).symm
    · have := val_lt (r.b.take k.toNat)
      rwa [hl] at this
theorem bytes_back {r r' : R} {m : Int} {x : List UInt8} (e : R.bytes r m = (r', x)) (h : r'.failed = false) : r.failed = false ∧ r.b = num 2 x.length ++ (x ++ r'.b) ∧ (x.length : Int) ≤ m ∧ x.length < 65536 := by
  unfold R.bytes at e
  split at e
  · cases e; cases h
  · rename_i hb
    simp only [not_or, Bool.not_eq_true] at hb
    obtain ⟨h1, h2⟩ := hb
    cases e
    obtain ⟨g1, g2, g3⟩ := get_back (r := r) (r' := (r.get 2).1) (k := 2) (x := (r.get 2).2) rfl h1
    have e2 : (2 : Int).toNat = 2 := rfl
    rw [e2] at g2 g3
    have hl : ((r.get 2).1.b.take (r.get 2).2).length = (r.get 2).2 := by rw [List.length_take]; omega
    refine ⟨g1, ?_, by rw [hl]; omega, by rw [hl]; exact g3⟩
    rw [hl]
    simp only [List.take_append_drop]
    exact g2
theorem bytes_fwd {b t : List UInt8} {m : Int} (hm : (b.length : Int) ≤ m) (hb : b.length < 65536) : R.bytes (R.mk (num 2 b.length ++ (b ++ t)) false) m = (⟨t, false⟩, b) := by
  unfold R.bytes
  rw [get_len2 hb]
  rw [if_neg (by simp only [List.length_append]; rintro (h | h); cases h; omega)]
  simp
theorem get_fwd {k : Int} {x : Nat} {t : List UInt8} (h1 : 1 ≤ k) (h7 : k ≤ 7) (hx : x < 256 ^ k.toNat) : (R.mk (num k.toNat x ++ t) false).get k = (⟨t, false⟩, x) := by
  have h : (256 : Nat) ^ k.toNat ≤ 256 ^ 7 := Nat.pow_le_pow_right (by decide) (by omega)
  have e : (256 : Nat) ^ 7 = 72057594037927936 := by decide
  have := get_num (k := k) (x := (x : Int)) (t := t) h1 (by omega) ⟨by omega, .inr (by simpa using hx)⟩ (by omega)
  simpa using this
theorem done_back {r : R} (h : R.done r = 0) : r.failed = false ∧ r.b = [] := by
  unfold R.done at h
  split at h
  · cases h
  · rename_i g
    simp only [not_or, Bool.not_eq_true, Nat.not_lt, Nat.le_zero_eq, List.length_eq_zero_iff] at g
    exact g
end Go.Proofs.Ytanhmbdcdbcfmaa.BufP
