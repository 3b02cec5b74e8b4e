/- Records of bodies, plainly: what stands in bytes. -/
import Derived.Test.YtfjmejideoklpaaJn
set_option linter.unusedVariables false
set_option linter.unusedSimpArgs false
namespace Go.Proofs.Ytfjmejideoklpaa.JnP
open Go Go.Sl Go.Proofs Go.Proofs.Ytfjmejideoklpaa.Buf Go.Proofs.Ytfjmejideoklpaa.BufRd Go.Proofs.Ytfjmejideoklpaa.BufRe Go.Proofs.Ytfjmejideoklpaa.BufP Go.Proofs.Ytfjmejideoklpaa.Jn
def good (b : List UInt8) : Prop := 1 ≤ b.length ∧ b.length ≤ 200
instance (b : List UInt8) : Decidable (good b) := by unfold good; infer_instance
def rcd (b : List UInt8) : List UInt8 := num 2 b.length ++ (b ++ num 4 (sum b))
theorem rcd_len (b : List UInt8) : (rcd b).length = b.length + 6 := by
  unfold rcd
  simp only [List.length_append, num_length]; omega
theorem rcd_inj {b c t u : List UInt8} (hb : good b) (hc : good c) (h : rcd b ++ t = rcd c ++ u) : b = c ∧ t = u := by
  unfold rcd at h
  simp only [List.append_assoc] at h
  have h1 := List.append_inj h (by simp [num_length])
  have hl : b.length = c.length := by
    have := congrArg val h1.1
    rwa [val_num 2 _ (by have := hb.2; omega), val_num 2 _ (by have := hc.2; omega)] at this
  have h2 := List.append_inj h1.2 hl
  have h3 := List.append_inj h2.2 (by simp [num_length])
  exact ⟨h2.1, h3.2⟩
theorem rcd_ne {b t : List UInt8} : ([] : List UInt8) ≠ rcd b ++ t := by
  intro h
  have := congrArg List.length h
  rw [List.length_append, rcd_len, List.length_nil] at this; omega
def Scans (l : List UInt8) (bs : List (List UInt8)) (r : List UInt8) : Prop := l = bs.flatMap rcd ++ r ∧ (∀ b ∈ bs, good b) ∧ ∀ b t, good b → r ≠ rcd b ++ t
theorem Scans.uniq : ∀ {bs cs : List (List UInt8)} {l r s : List UInt8}, Scans l bs r → Scans l cs s → bs = cs ∧ r = s
  | [], [], l, r, s, h, k => by
    have h1 := h.1; have k1 := k.1
    rw [List.flatMap_nil, List.nil_append] at h1 k1
    exact ⟨rfl, by rw [← h1, ← k1]⟩
  | [], c :: cs, l, r, s, h, k => by
    have h1 := h.1; have k1 := k.1
    rw [List.flatMap_nil, List.nil_append] at h1
    rw [List.flatMap_cons, List.append_assoc] at k1
    exact absurd (h1 ▸ k1) (h.2.2 c _ (k.2.1 c (by simp)))
  | b :: bs, [], l, r, s, h, k => by
    have h1 := h.1; have k1 := k.1
    rw [List.flatMap_nil, List.nil_append] at k1
    rw [List.flatMap_cons, List.append_assoc] at h1
    exact absurd (k1 ▸ h1) (k.2.2 b _ (h.2.1 b (by simp)))
  | b :: bs, c :: cs, l, r, s, h, k => by
    have h1 := h.1; have k1 := k.1
    rw [List.flatMap_cons, List.append_assoc] at h1 k1
    obtain ⟨rfl, e⟩ := rcd_inj (h.2.1 b (by simp)) (k.2.1 c (by simp)) (h1 ▸ k1)
    have := Scans.uniq (l := bs.flatMap rcd ++ r) (bs := bs) (cs := cs) (r := r) (s := s) ⟨rfl, fun x hx => h.2.1 x (by simp [hx]), h.2.2⟩ ⟨e, fun x hx => k.2.1 x (by simp [hx]), k.2.2⟩
    exact ⟨by rw [this.1], this.2⟩
theorem Scans.nil : Scans [] [] [] := ⟨rfl, by simp, fun b t _ => rcd_ne⟩
theorem Scans.all {bs : List (List UInt8)} (h : ∀ b ∈ bs, good b) : Scans (bs.flatMap rcd) bs [] := ⟨by simp, h, fun b t _ => rcd_ne⟩
theorem Scans.len {bs : List (List UInt8)} {l r : List UInt8} (h : Scans l bs r) : bs.length ≤ l.length := by
  have : ∀ cs : List (List UInt8), cs.length ≤ (cs.flatMap rcd).length := by
    intro cs
    induction cs with
    | nil => simp
    | cons c cs ih => rw [List.flatMap_cons, List.length_append, rcd_len, List.length_cons]; omega
  have h2 := this bs
  rw [h.1, List.length_append]; omega
/-- What is left of records that were cut. -/
theorem scans_take : ∀ (bs : List (List UInt8)) (n : Nat), (∀ b ∈ bs, good b) → ∃ k r, k ≤ bs.length ∧ Scans ((bs.flatMap rcd).take n) (bs.take k) r ∧
    ∀ m, m ≤ bs.length → ((bs.take m).flatMap rcd).length ≤ n → m ≤ k ∧ (n ≤ ((bs.take m).flatMap rcd).length → k ≤ m)
  | [], n, _ => ⟨0, [], by simp, by simpa using Scans.nil, fun m hm _ => by simp at hm; subst hm; simp⟩
  | b :: bs, n, h => by
    have hb := h b (by simp)
    have hl := rcd_len b
    by_cases g : (rcd b).length ≤ n
    · obtain ⟨k, r, h1, h2, h3⟩ := scans_take bs (n - (rcd b).length) fun x hx => h x (by simp [hx])
      refine ⟨k + 1, r, by simpa using h1, ⟨?_, ?_, h2.2.2⟩, ?_⟩
      · rw [List.flatMap_cons, List.take_append, List.take_of_length_le g, h2.1, List.take_succ_cons, List.flatMap_cons, List.append_assoc]
      · intro x hx
        rw [List.take_succ_cons] at hx
        rcases List.mem_cons.1 hx with rfl | hx
        · exact hb
        · exact h2.2.1 x hx
      · intro m hm hn
        cases m with
        | zero => exact ⟨by omega, fun q => by simp at q; omega⟩
        | succ m =>
          rw [List.take_succ_cons, List.flatMap_cons, List.length_append] at hn ⊢
          have := h3 m (by simpa using hm) (by omega)
          exact ⟨by omega, fun q => by have := this.2 (by omega); omega⟩
    · refine ⟨0, (rcd b).take n, by simp, ⟨?_, by simp, ?_⟩, ?_⟩
      · rw [List.flatMap_cons, List.take_append_of_le_length (by omega), List.take_zero]; rfl
      · intro c t hc q
        have e : rcd b ++ [] = rcd c ++ (t ++ (rcd b).drop n) := by rw [List.append_nil, ← List.append_assoc, ← q, List.take_append_drop]
        have e2 := congrArg List.length (rcd_inj hb hc e).2
        rw [List.length_nil, List.length_append, List.length_drop] at e2
        omega
      · intro m hm hn
        cases m with
        | zero => exact ⟨by omega, fun _ => by omega⟩
        | succ m =>
          rw [List.take_succ_cons, List.flatMap_cons, List.length_append] at hn
          omega
/-- The record that comes first, by a reader. -/
def firstM (l : List UInt8) : List UInt8 × Bool :=
  ((R.bytes ⟨l.take 206, false⟩ 200).2, decide (R.done (R.rest ((R.bytes ⟨l.take 206, false⟩ 200).1.get 4).1).1 = 0 ∧ 0 < (R.bytes ⟨l.take 206, false⟩ 200).2.length ∧ ((R.bytes ⟨l.take 206, false⟩ 200).1.get 4).2 = sum (R.bytes ⟨l.take 206, false⟩ 200).2))
theorem first_yes {l : List UInt8} (h : (firstM l).2 = true) : good (firstM l).1 ∧ ∃ t, l = rcd (firstM l).1 ++ t := by
  obtain ⟨⟨a, x⟩, ha⟩ : ∃ r, R.bytes ⟨l.take 206, false⟩ 200 = r := ⟨_, rfl⟩
  obtain ⟨⟨c, w⟩, hc⟩ : ∃ r, a.get 4 = r := ⟨_, rfl⟩
  unfold firstM at h ⊢
  rw [ha] at h ⊢
  simp only [hc] at h ⊢
  rw [decide_eq_true_eq] at h
  obtain ⟨h1, h2, h3⟩ := h
  have h4 := (done_back h1).1
  have h5 : c.failed = false := by
    cases e : c.failed with
    | false => rfl
    | true => unfold R.rest at h4; rw [if_pos e] at h4; simp only at h4; rw [e] at h4; cases h4
  obtain ⟨k1, k2, -⟩ := get_back hc h5
  obtain ⟨-, k3, k4, -⟩ := bytes_back ha k1
  refine ⟨⟨by omega, by omega⟩, c.b ++ l.drop 206, ?_⟩
  unfold rcd
  simp only at k3
  rw [← h3]
  rw [show (4 : Int).toNat = 4 from rfl] at k2
  conv => lhs; rw [← List.take_append_drop 206 l, k3, k2]
  simp only [List.append_assoc]
theorem first_at {b t : List UInt8} (hb : good b) : firstM (rcd b ++ t) = (b, true) := by
  have hl := rcd_len b
  have e : (rcd b ++ t).take 206 = num 2 b.length ++ (b ++ (num 4 (sum b) ++ t.take (206 - (b.length + 6)))) := by
    rw [List.take_append, List.take_of_length_le (by have := hb.2; omega), hl]
    unfold rcd
    simp only [List.append_assoc]
  have e1 : R.bytes ⟨(rcd b ++ t).take 206, false⟩ 200 = (⟨num 4 (sum b) ++ t.take (206 - (b.length + 6)), false⟩, b) := by
    rw [e]; exact bytes_fwd (by have := hb.2; omega) (by have := hb.2; omega)
  have e2 : (R.mk (num 4 (sum b) ++ t.take (206 - (b.length + 6))) false).get 4 = (⟨t.take (206 - (b.length + 6)), false⟩, sum b) := get_fwd (k := 4) (by omega) (by omega) (by have := sum_lt b; exact this)
  unfold firstM
  rw [e1]
  simp only [e2]
  rw [decide_eq_true ⟨rfl, hb.1, trivial⟩]
theorem first_no {l : List UInt8} (h : (firstM l).2 = false) : ∀ b t, good b → l ≠ rcd b ++ t := by
  intro b t hb e
  rw [e, first_at hb] at h; cases h
end Go.Proofs.Ytfjmejideoklpaa.JnP
