/- Records of bodies: those that stand in bytes, the program's and the document's; two lists of bodies compared. -/
import Derived.Test.YtfjmejideoklpaaJnE
set_option linter.unusedVariables false
set_option linter.unusedSimpArgs false
set_option maxRecDepth 10000
set_option maxHeartbeats 1000000
namespace Go.Proofs.Ytfjmejideoklpaa.JnT
open Nat renaming reduceEqDiff → nq0, reduceAdd → nq1, reduceLeDiff → nq2, reduceBEq → nq3, reduceMul → nq4
open Int renaming reduceBEq → iq0, reduceEq → iq1, reduceLT → iq2, reduceLE → iq3, reduceAdd → iq4, reduceSub → iq5, reduceMul → iq6, reduceToNat → iq7, cast_ofNat_Int → iq8
open Go Go.Sl Go.Proofs Go.Proofs.Ytfjmejideoklpaa.Buf Go.Proofs.Ytfjmejideoklpaa.BufRd Go.Proofs.Ytfjmejideoklpaa.BufRe Go.Proofs.Ytfjmejideoklpaa.BufP Go.Proofs.Ytfjmejideoklpaa.BufOne Go.Proofs.Ytfjmejideoklpaa.Wr Go.Proofs.Ytfjmejideoklpaa.Jn Go.Proofs.Ytfjmejideoklpaa.JnP Go.Proofs.Ytfjmejideoklpaa.JnS Go.Proofs.Ytfjmejideoklpaa.JnE
theorem TY : aggN Try.prog 3 = some none ∧
  aggN Try.prog 5 = some none ∧
  aggN Try.prog 9 = some none ∧
  aggN Try.prog 33 = some none ∧
  aggN Try.prog 34 = some none ∧
  aggN Try.prog 90 = some none ∧
  apI Try.prog 33 = some (5, 1, 1) ∧
  apI Try.prog 90 = some (33, 1, 24) ∧
  bySl Try.prog 33 = true ∧
  csz Try.prog 3 = some 1 ∧
  csz Try.prog 5 = some 1 ∧
  csz Try.prog 9 = some 1 ∧
  csz Try.prog 33 = some 1 ∧
  csz Try.prog 34 = some 1 ∧
  csz Try.prog 90 = some 1 ∧
  goes Try.prog 64 = true ∧
  goes Try.prog 127 = true ∧
  inIs Try.prog 3 = some .i64 ∧
  inIs Try.prog 5 = some .u8 ∧
  inIs Try.prog 34 = some .i64 ∧
  slEl Try.prog 33 = 5 ∧
  slEl Try.prog 90 = 33 ∧
  slIs Try.prog 33 = true ∧
  slIs Try.prog 90 = true ∧
  slSz Try.prog 33 = 1 ∧
  slSz Try.prog 90 = 1 ∧
  stIs Try.prog 9 = true ∧
  zro Try.prog 3 = some (.int .i64 0) ∧
  zro Try.prog 5 = some (.int .u8 0) ∧
  zro Try.prog 9 = some (.string ByteArray.empty) ∧
  zro Try.prog 33 = some (.slice none 0 0) ∧
  zro Try.prog 34 = some (.int .i64 0) ∧
  zro Try.prog 90 = some (.slice none 0 0) :=
  ⟨by kernel_rfl, by kernel_rfl, by kernel_rfl, by kernel_rfl, by kernel_rfl, by kernel_rfl, by kernel_rfl, by kernel_rfl, by kernel_rfl, by kernel_rfl, by kernel_rfl, by kernel_rfl, by kernel_rfl, by kernel_rfl, by kernel_rfl, by kernel_rfl, by kernel_rfl, by kernel_rfl, by kernel_rfl, by kernel_rfl, by kernel_rfl, by kernel_rfl, by kernel_rfl, by kernel_rfl, by kernel_rfl, by kernel_rfl, by kernel_rfl, by kernel_rfl, by kernel_rfl, by kernel_rfl, by kernel_rfl, by kernel_rfl, by kernel_rfl⟩
def D62_5 : List Note := Go.Sl.nn [0, 0, 0, 1, 0, 0, 0, 0, 0, 0, 1, 0, 0, 0]
def D62_10 : List Note := Go.Sl.nn [0, 0, 0, 0, 1, 0, 0, 0, 0, 0, 0, 0, 1, 0, 0]
/-- What Scan answers. -/
def ScanR (l : List UInt8) (r : Value) (B : List Asn) : Prop := ∃ bs rest vs u, Scans l bs rest ∧ r = .tuple #[u, .int .i64 ((bs.flatMap rcd).length : Nat)] ∧ B = [own 33 1 u vs, blobs vs bs]
theorem scan_len {bs : List (List UInt8)} (h : ∀ b ∈ bs, good b) : bs.length ≤ (bs.flatMap rcd).length := by
  have := (Scans.all h).len; exact this
theorem Scan_ok {G : Hp} {v : Value} {l : List UInt8} (hv : rds G 1 v (bv l)) (hll : l.length ≤ 100000) : Con Try.prog G 61 [v] [] (ScanR l) := by
  have hv0 := hv
  obtain ⟨a, n, c, rfl, e1, e2⟩ := hv.slice
  rw [bv_length, Nat.mul_one] at e1
  subst e1
  refine Con.intro Try.func61 rfl (Nat.le_of_ble_eq_true (by kernel_rfl)) (by kernel_rfl) Try.results61 ?_
  intro H h
  ((try simp only [S, TY, reduceCtorEq, nq0, nq1, nq2, nq3, nq4, iq0, iq1, iq2, iq3, iq4, iq5, iq6, iq7, iq8]); (try (simp (disch := omega) only [W2, Int.cast_ofNat_Int]; (try simp only [S, TY, reduceCtorEq, nq0, nq1, nq2, nq3, nq4, iq0, iq1, iq2, iq3, iq4, iq5, iq6, iq7, iq8]))))
  refine (first_ok hv hll).at_ h [] _ rfl fun r B H1 hr h1 => ?_
  obtain ⟨u, rfl, rfl⟩ := hr
  ((try simp only [S, TY, reduceCtorEq, nq0, nq1, nq2, nq3, nq4, iq0, iq1, iq2, iq3, iq4, iq5, iq6, iq7, iq8]); (try (simp (disch := omega) only [W2, Int.cast_ofNat_Int]; (try simp only [S, TY, reduceCtorEq, nq0, nq1, nq2, nq3, nq4, iq0, iq1, iq2, iq3, iq4, iq5, iq6, iq7, iq8]))))
  refine cl_loop (fun (bs : List (List UInt8)) e H => ∃ rest vs o u, l = bs.flatMap rcd ++ rest ∧ (∀ b ∈ bs, good b) ∧ vs.length = bs.length ∧ e 0 = .slice a l.length c ∧ e 4 = o ∧ e 5 = .int .i64 ((bs.flatMap rcd).length : Nat) ∧ e 6 = u ∧ e 7 = .bool (firstM rest).2 ∧
    sg G [own 33 1 o vs, own 5 1 u (bv (firstM rest).1), blobs vs bs] H) (fun bs => l.length - (bs.flatMap rcd).length) []
    ⟨l, [], .slice none 0 0, u, rfl, by simp, rfl, rfl, rfl, rfl, rfl, rfl, ((h1.blob_nil.fronts [1, 0]).nil_ 33 1)⟩ ?_
  clear h h1
  rintro bs e H ⟨rest, vs, o, u, hl, hgd, hvl, q0, q4, q5, q6, q7, h⟩
  obtain ⟨oa, on, oc, rfl, g1, g2⟩ := h.sl 0 rfl Rd_own
  rw [Nat.mul_one] at g1
  obtain ⟨ua, un, uc, rfl, g3, g4⟩ := h.sl 1 rfl Rd_own
  rw [bv_length, Nat.mul_one] at g3
  obtain ⟨at_, hat⟩ : ∃ m, (bs.flatMap rcd).length = m := ⟨_, rfl⟩
  have hbl := scan_len hgd
  rw [hat] at q5 hbl
  have hln : l.length = at_ + rest.length := by rw [hl, List.length_append, hat]
  cases hf : (firstM rest).2 with
  | false =>
    rw [hf] at q7
    ((try simp only [S, TY, reduceCtorEq, nq0, nq1, nq2, nq3, nq4, iq0, iq1, iq2, iq3, iq4, iq5, iq6, iq7, iq8, q0, q4, q5, q6, q7]); (try (simp (disch := omega) only [W2, Int.cast_ofNat_Int]; (try simp only [S, TY, reduceCtorEq, nq0, nq1, nq2, nq3, nq4, iq0, iq1, iq2, iq3, iq4, iq5, iq6, iq7, iq8, q0, q4, q5, q6, q7]))))
    exact fin_take (B := [_, _]) (h.fronts [0, 1]) ⟨bs, rest, vs, _, ⟨hl, hgd, first_no hf⟩, by rw [hat], rfl⟩
  | true =>
    rw [hf] at q7
    obtain ⟨hb, t, ht⟩ := first_yes hf
    obtain ⟨b, hbb⟩ : ∃ b, (firstM rest).1 = b := ⟨_, rfl⟩
    rw [hbb] at hb ht g3 h
    subst ht
    subst g3
    have hrl := rcd_len b
    rw [List.length_append, hrl] at hln
    have hb2 := hb.2
    have hat2 : ((bs ++ [b]).flatMap rcd).length = at_ + (b.length + 6) := by rw [List.flatMap_append, List.length_append, hat]; simp [hrl]
    have hl2 : l = (bs ++ [b]).flatMap rcd ++ t := by rw [hl, List.flatMap_append]; simp
    ((try simp only [S, TY, reduceCtorEq, nq0, nq1, nq2, nq3, nq4, iq0, iq1, iq2, iq3, iq4, iq5, iq6, iq7, iq8, q0, q4, q5, q6, q7]); (try (simp (disch := omega) only [W2, Int.cast_ofNat_Int]; (try simp only [S, TY, reduceCtorEq, nq0, nq1, nq2, nq3, nq4, iq0, iq1, iq2, iq3, iq4, iq5, iq6, iq7, iq8, q0, q4, q5, q6, q7]))))
    intro nb hnb hng
    have h2 := h.newsl (e := 33) (sz := 1) (n := 1) (xs := [.slice ua b.length uc]) hnb hng rfl
    ((try simp only [S, TY, reduceCtorEq, nq0, nq1, nq2, nq3, nq4, iq0, iq1, iq2, iq3, iq4, iq5, iq6, iq7, iq8]); (try (simp (disch := omega) only [W2, Int.cast_ofNat_Int]; (try simp only [S, TY, reduceCtorEq, nq0, nq1, nq2, nq3, nq4, iq0, iq1, iq2, iq3, iq4, iq5, iq6, iq7, iq8]))))
    refine append_sl (show apI Try.prog 90 = some (33, 1, 24) from by kernel_rfl) (show slIs Try.prog 90 = true from by kernel_rfl) (h2.front 1) (h2.rdsi 0 rfl Rd_own) (by simp [Value.oneCell']) (by simp; omega) fun o2 H3 h3 => ?_
    obtain ⟨oa2, on2, oc2, rfl, _, _⟩ := h3.sl 0 rfl Rd_own
    have k1 : (b.length : Int) + 6 = ((b.length + 6 : Nat) : Int) := by omega
    have k2 : (at_ : Int) + ((b.length + 6 : Nat) : Int) = ((at_ + (b.length + 6) : Nat) : Int) := by omega
    have k3 : (0 : Int) ≤ ((at_ + (b.length + 6) : Nat) : Int) ∧ ((at_ + (b.length + 6) : Nat) : Int) ≤ (l.length : Nat) := by omega
    have hv3 := hv0.drop (m := at_ + (b.length + 6)) (by omega)
    rw [Nat.mul_one, ← bv_drop, show l.drop (at_ + (b.length + 6)) = t by rw [hl2, ← hat2, List.drop_left]] at hv3
    ((try simp only [S, TY, reduceCtorEq, nq0, nq1, nq2, nq3, nq4, iq0, iq1, iq2, iq3, iq4, iq5, iq6, iq7, iq8, q0, q4, q5, q6, k1, k2, k3]); (try (simp (disch := omega) only [W2, Int.cast_ofNat_Int]; (try simp only [S, TY, reduceCtorEq, nq0, nq1, nq2, nq3, nq4, iq0, iq1, iq2, iq3, iq4, iq5, iq6, iq7, iq8, q0, q4, q5, q6, k1, k2, k3]))))
    refine (first_ok hv3 (by omega)).at_ h3 [] _ rfl fun r B H4 hr h4 => ?_
    obtain ⟨u4, rfl, rfl⟩ := hr
    ((try simp only [S, TY, reduceCtorEq, nq0, nq1, nq2, nq3, nq4, iq0, iq1, iq2, iq3, iq4, iq5, iq6, iq7, iq8]); (try (simp (disch := omega) only [W2, Int.cast_ofNat_Int]; (try simp only [S, TY, reduceCtorEq, nq0, nq1, nq2, nq3, nq4, iq0, iq1, iq2, iq3, iq4, iq5, iq6, iq7, iq8]))))
    refine .go (bs ++ [b]) (by rw [hat2, hat]; omega) ⟨t, vs ++ [.slice ua b.length uc], _, u4, hl2, ?_, by simp [hvl], q0, rfl, by rw [hat2]; rfl, rfl, rfl, ?_⟩
    · intro x hx
      rcases List.mem_append.1 hx with hx | hx
      · exact hgd x hx
      · rw [List.mem_singleton] at hx; subst hx; exact hb
    · have h5 := (h4.fronts [3, 3]).blob_push
      exact ⟨h5.1, seps_take (B := [_, _, _]) (h5.fronts [2, 1, 0]).2⟩
theorem dScan_ok {G : Hp} {v : Value} {l : List UInt8} (hv : rds G 1 v (bv l)) (hll : l.length ≤ 100000) : Con Try.prog G 62 [v] [] (ScanR l) := by
  have hv0 := hv
  obtain ⟨a, n, c, rfl, e1, e2⟩ := hv.slice
  rw [bv_length, Nat.mul_one] at e1
  subst e1
  refine Con.intro Try.func62 rfl (Nat.le_of_ble_eq_true (by kernel_rfl)) (by kernel_rfl) Try.results62 ?_
  intro H h
  ((try simp only [S, TY, reduceCtorEq, nq0, nq1, nq2, nq3, nq4, iq0, iq1, iq2, iq3, iq4, iq5, iq6, iq7, iq8]); (try (simp (disch := omega) only [W2, Int.cast_ofNat_Int]; (try simp only [S, TY, reduceCtorEq, nq0, nq1, nq2, nq3, nq4, iq0, iq1, iq2, iq3, iq4, iq5, iq6, iq7, iq8]))); repeat ((first | (refine cl_drawi 5 D62_5 (List.range 14) (by decide) (by kernel_rfl) ?_; unfold D62_5) | (refine cl_drawi 10 D62_10 (List.range 15) (by decide) (by kernel_rfl) ?_; unfold D62_10)); simp only [S, TY, reduceCtorEq, nq0, nq1, nq2, nq3, nq4, iq0, iq1, iq2, iq3, iq4, iq5, iq6, iq7, iq8]; (try (simp (disch := omega) only [W2, Int.cast_ofNat_Int]; (try simp only [S, TY, reduceCtorEq, nq0, nq1, nq2, nq3, nq4, iq0, iq1, iq2, iq3, iq4, iq5, iq6, iq7, iq8])))))
  refine cl_loop (fun (bs : List (List UInt8)) e H => ∃ rest vs o, l = bs.flatMap rcd ++ rest ∧ (∀ b ∈ bs, good b) ∧ vs.length = bs.length ∧ e 0 = .slice a l.length c ∧ e 4 = o ∧ e 5 = .int .i64 ((bs.flatMap rcd).length : Nat) ∧
    sg G [own 33 1 o vs, blobs vs bs] H) (fun bs => l.length - (bs.flatMap rcd).length) []
    ⟨l, [], .slice none 0 0, rfl, by simp, rfl, rfl, rfl, rfl, (h.blob_nil.nil_ 33 1)⟩ ?_
  clear h
  rintro bs e H ⟨rest, vs, o, hl, hgd, hvl, q0, q4, q5, h⟩
  obtain ⟨oa, on, oc, rfl, g1, g2⟩ := h.sl 0 rfl Rd_own
  rw [Nat.mul_one] at g1
  obtain ⟨at_, hat⟩ : ∃ m, (bs.flatMap rcd).length = m := ⟨_, rfl⟩
  have hbl := scan_len hgd
  rw [hat] at q5 hbl
  have hln : l.length = at_ + rest.length := by rw [hl, List.length_append, hat]
  have hdr : l.drop at_ = rest := by rw [hl, ← hat, List.drop_left]
  have out : (∀ b t, good b → rest ≠ rcd b ++ t) → ∀ (H : Hp) (L : List Asn), sg G (own 33 1 (.slice oa on oc) vs :: blobs vs bs :: L) H → fin (ScanR l) (.returned (.tuple #[.slice oa on oc, .int .i64 (at_ : Nat)])) H := by
    intro hno H L h
    exact fin_take (B := [_, _]) h ⟨bs, rest, vs, _, ⟨hl, hgd, hno⟩, by rw [hat], rfl⟩
  have kl : (l.length : Int) - (at_ : Int) = (rest.length : Int) := by omega
  by_cases g5 : (rest.length : Int) < 2
  · have hno : ∀ b t, good b → rest ≠ rcd b ++ t := by
      intro b t hb e
      have := congrArg List.length e
      rw [List.length_append, rcd_len] at this; omega
    ((try simp only [S, TY, reduceCtorEq, nq0, nq1, nq2, nq3, nq4, iq0, iq1, iq2, iq3, iq4, iq5, iq6, iq7, iq8, q0, q4, q5, kl, g5]); (try (simp (disch := omega) only [W2, Int.cast_ofNat_Int]; (try simp only [S, TY, reduceCtorEq, nq0, nq1, nq2, nq3, nq4, iq0, iq1, iq2, iq3, iq4, iq5, iq6, iq7, iq8, q0, q4, q5, kl, g5]))); repeat ((first | (refine cl_drawi 5 D62_5 (List.range 14) (by decide) (by kernel_rfl) ?_; unfold D62_5) | (refine cl_drawi 10 D62_10 (List.range 15) (by decide) (by kernel_rfl) ?_; unfold D62_10)); simp only [S, TY, reduceCtorEq, nq0, nq1, nq2, nq3, nq4, iq0, iq1, iq2, iq3, iq4, iq5, iq6, iq7, iq8, q0, q4, q5, kl, g5]; (try (simp (disch := omega) only [W2, Int.cast_ofNat_Int]; (try simp only [S, TY, reduceCtorEq, nq0, nq1, nq2, nq3, nq4, iq0, iq1, iq2, iq3, iq4, iq5, iq6, iq7, iq8, q0, q4, q5, kl, g5])))))
    exact out hno _ _ h
  · have hi0 : at_ < l.length := by omega
    have hi1 : at_ + 1 < l.length := by omega
    obtain ⟨bk, off, rfl, c0⟩ := byte_at h hv hi0
    obtain ⟨bk', off', hbk, c1⟩ := byte_at h hv hi1
    cases hbk
    have b0 := l[at_].toNat_lt
    have b1 := l[at_ + 1].toNat_lt
    obtain ⟨x0, hx0⟩ : ∃ x, l[at_].toNat = x := ⟨_, rfl⟩
    obtain ⟨x1, hx1⟩ : ∃ x, l[at_ + 1].toNat = x := ⟨_, rfl⟩
    rw [hx0] at c0 b0
    rw [hx1] at c1 b1
    have k0 : (0 : Int) ≤ (at_ : Int) ∧ (at_ : Int) < (l.length : Nat) := by omega
    have ka : (at_ : Int) + 1 = ((at_ + 1 : Nat) : Int) := by omega
    have kb : (0 : Int) ≤ ((at_ + 1 : Nat) : Int) ∧ ((at_ + 1 : Nat) : Int) < (l.length : Nat) := by omega
    have km : (256 : Int) * (x0 : Int) = ((256 * x0 : Nat) : Int) := by omega
    have ks : ((256 * x0 : Nat) : Int) + (x1 : Int) = ((256 * x0 + x1 : Nat) : Int) := by omega
    have w1 : IntKind.i64.wrap (x0 : Int) = (x0 : Int) := by rw [wrap_id] <;> omega
    have w2 : IntKind.i64.wrap (x1 : Int) = (x1 : Int) := by rw [wrap_id] <;> omega
    have w3 : IntKind.i64.wrap ((256 * x0 : Nat) : Int) = ((256 * x0 : Nat) : Int) := by rw [wrap_id] <;> omega
    obtain ⟨n, hn⟩ : ∃ n, 256 * x0 + x1 = n := ⟨_, rfl⟩
    have w4 : IntKind.i64.wrap ((n : Nat) : Int) = (n : Int) := by rw [wrap_id] <;> omega
    rw [hn] at ks
    -- what a record here would be
    have hrec : ∀ b t, good b → rest = rcd b ++ t → b.length = n ∧ rest.length = n + 6 + t.length ∧ b = (l.drop (at_ + 2)).take n := by
      intro b t hb e
      have hbn : b.length = n := by
        have hv2 : val (num 2 b.length) = b.length := val_num 2 _ (by have := hb.2; omega)
        have : rest.take 2 = num 2 b.length := by
          rw [e]; unfold rcd
          rw [List.append_assoc, List.take_append_of_le_length (by simp [num_length]), List.take_of_length_le (by simp [num_length])]
        have e2 : (l.drop at_).take 2 = [l[at_], l[at_ + 1]] := by rw [List.drop_eq_getElem_cons hi0, List.drop_eq_getElem_cons hi1]; rfl
        rw [← hv2, ← this, ← hdr, e2]
        simp [val, hx0, hx1, hn]
      refine ⟨hbn, by rw [e, List.length_append, rcd_len, hbn], ?_⟩
      rw [← List.drop_drop, hdr, e]
      unfold rcd
      rw [List.append_assoc, List.drop_append_of_le_length (by simp [num_length]), List.drop_of_length_le (by simp [num_length]), List.nil_append, List.append_assoc, ← hbn, List.take_left]
    have wr1 : IntKind.i64.wrap (rest.length : Int) = (rest.length : Int) := by rw [wrap_id] <;> omega
    have wr2 : IntKind.i64.wrap ((rest.length : Int) - 6) = (rest.length : Int) - 6 := by rw [wrap_id] <;> omega
    by_cases g6 : (rest.length : Int) - 6 < (n : Int)
    · have hno : ∀ b t, good b → rest ≠ rcd b ++ t := by
        intro b t hb e
        have := (hrec b t hb e).2.1; omega
      ((try simp only [S, TY, reduceCtorEq, nq0, nq1, nq2, nq3, nq4, iq0, iq1, iq2, iq3, iq4, iq5, iq6, iq7, iq8, q0, q4, q5, kl, g5, c0, c1, k0, ka, kb, km, ks, w1, w2, w3, w4, wr1, wr2, g6]); (try (simp (disch := omega) only [W2, Int.cast_ofNat_Int]; (try simp only [S, TY, reduceCtorEq, nq0, nq1, nq2, nq3, nq4, iq0, iq1, iq2, iq3, iq4, iq5, iq6, iq7, iq8, q0, q4, q5, kl, g5, c0, c1, k0, ka, kb, km, ks, w1, w2, w3, w4, wr1, wr2, g6]))); repeat ((first | (refine cl_drawi 5 D62_5 (List.range 14) (by decide) (by kernel_rfl) ?_; unfold D62_5) | (refine cl_drawi 10 D62_10 (List.range 15) (by decide) (by kernel_rfl) ?_; unfold D62_10)); simp only [S, TY, reduceCtorEq, nq0, nq1, nq2, nq3, nq4, iq0, iq1, iq2, iq3, iq4, iq5, iq6, iq7, iq8, q0, q4, q5, kl, g5, c0, c1, k0, ka, kb, km, ks, w1, w2, w3, w4, wr1, wr2, g6]; (try (simp (disch := omega) only [W2, Int.cast_ofNat_Int]; (try simp only [S, TY, reduceCtorEq, nq0, nq1, nq2, nq3, nq4, iq0, iq1, iq2, iq3, iq4, iq5, iq6, iq7, iq8, q0, q4, q5, kl, g5, c0, c1, k0, ka, kb, km, ks, w1, w2, w3, w4, wr1, wr2, g6])))))
      exact out hno _ _ h
    · have n1 : (at_ : Int) + 2 = ((at_ + 2 : Nat) : Int) := by omega
      have n2 : ((at_ + 2 : Nat) : Int) + (n : Int) = ((at_ + 2 + n : Nat) : Int) := by omega
      have n3 : (0 : Int) ≤ ((at_ + 2 + n : Nat) : Int) ∧ ((at_ + 2 + n : Nat) : Int) ≤ (c : Nat) := by omega
      have n4 : (0 : Int) ≤ ((at_ + 2 : Nat) : Int) ∧ ((at_ + 2 : Nat) : Int) ≤ ((at_ + 2 + n : Nat) : Int) := by omega
      have hv3 := (hv0.take (m := at_ + 2 + n) (by omega)).drop (m := at_ + 2) (by omega)
      obtain ⟨body, hbody⟩ : ∃ b, (l.drop (at_ + 2)).take n = b := ⟨_, rfl⟩
      have hbl : body.length = n := by rw [← hbody, List.length_take, List.length_drop]; omega
      rw [Nat.mul_one, Nat.mul_one, ← bv_take, ← bv_drop, show (l.take (at_ + 2 + n)).drop (at_ + 2) = body by rw [← hbody, List.drop_take]; congr 1; omega] at hv3
      ((try simp only [S, TY, reduceCtorEq, nq0, nq1, nq2, nq3, nq4, iq0, iq1, iq2, iq3, iq4, iq5, iq6, iq7, iq8, q0, q4, q5, kl, g5, c0, c1, k0, ka, kb, km, ks, w1, w2, w3, w4, wr1, wr2, g6, n1, n2, n3, n4]); (try (simp (disch := omega) only [W2, Int.cast_ofNat_Int]; (try simp only [S, TY, reduceCtorEq, nq0, nq1, nq2, nq3, nq4, iq0, iq1, iq2, iq3, iq4, iq5, iq6, iq7, iq8, q0, q4, q5, kl, g5, c0, c1, k0, ka, kb, km, ks, w1, w2, w3, w4, wr1, wr2, g6, n1, n2, n3, n4]))); repeat ((first | (refine cl_drawi 5 D62_5 (List.range 14) (by decide) (by kernel_rfl) ?_; unfold D62_5) | (refine cl_drawi 10 D62_10 (List.range 15) (by decide) (by kernel_rfl) ?_; unfold D62_10)); simp only [S, TY, reduceCtorEq, nq0, nq1, nq2, nq3, nq4, iq0, iq1, iq2, iq3, iq4, iq5, iq6, iq7, iq8, q0, q4, q5, kl, g5, c0, c1, k0, ka, kb, km, ks, w1, w2, w3, w4, wr1, wr2, g6, n1, n2, n3, n4]; (try (simp (disch := omega) only [W2, Int.cast_ofNat_Int]; (try simp only [S, TY, reduceCtorEq, nq0, nq1, nq2, nq3, nq4, iq0, iq1, iq2, iq3, iq4, iq5, iq6, iq7, iq8, q0, q4, q5, kl, g5, c0, c1, k0, ka, kb, km, ks, w1, w2, w3, w4, wr1, wr2, g6, n1, n2, n3, n4])))))
      intro nb hnb hng
      have h2 := h.newsl (e := 5) (sz := 1) (n := 0) (xs := []) hnb hng rfl
      ((try simp only [S, TY, reduceCtorEq, nq0, nq1, nq2, nq3, nq4, iq0, iq1, iq2, iq3, iq4, iq5, iq6, iq7, iq8, n1, n2, n3, n4, q0, q4, q5]); (try (simp (disch := omega) only [W2, Int.cast_ofNat_Int]; (try simp only [S, TY, reduceCtorEq, nq0, nq1, nq2, nq3, nq4, iq0, iq1, iq2, iq3, iq4, iq5, iq6, iq7, iq8, n1, n2, n3, n4, q0, q4, q5]))); repeat ((first | (refine cl_drawi 5 D62_5 (List.range 14) (by decide) (by kernel_rfl) ?_; unfold D62_5) | (refine cl_drawi 10 D62_10 (List.range 15) (by decide) (by kernel_rfl) ?_; unfold D62_10)); simp only [S, TY, reduceCtorEq, nq0, nq1, nq2, nq3, nq4, iq0, iq1, iq2, iq3, iq4, iq5, iq6, iq7, iq8, n1, n2, n3, n4, q0, q4, q5]; (try (simp (disch := omega) only [W2, Int.cast_ofNat_Int]; (try simp only [S, TY, reduceCtorEq, nq0, nq1, nq2, nq3, nq4, iq0, iq1, iq2, iq3, iq4, iq5, iq6, iq7, iq8, n1, n2, n3, n4, q0, q4, q5])))))
      refine append_sl (show apI Try.prog 33 = some (5, 1, 1) from by kernel_rfl) (show slIs Try.prog 33 = true from by kernel_rfl) h2 (h2.ro hv3) (bv_one _) (by simp [bv_length]; omega) fun o2 H3 h3 => ?_
      rw [List.nil_append] at h3
      obtain ⟨ya, yn, yc, rfl, y1, y2⟩ := h3.sl 0 rfl Rd_own
      rw [bv_length, Nat.mul_one] at y1
      ((try simp only [S, TY, reduceCtorEq, nq0, nq1, nq2, nq3, nq4, iq0, iq1, iq2, iq3, iq4, iq5, iq6, iq7, iq8, q0, q4, q5]); (try (simp (disch := omega) only [W2, Int.cast_ofNat_Int]; (try simp only [S, TY, reduceCtorEq, nq0, nq1, nq2, nq3, nq4, iq0, iq1, iq2, iq3, iq4, iq5, iq6, iq7, iq8, q0, q4, q5]))); repeat ((first | (refine cl_drawi 5 D62_5 (List.range 14) (by decide) (by kernel_rfl) ?_; unfold D62_5) | (refine cl_drawi 10 D62_10 (List.range 15) (by decide) (by kernel_rfl) ?_; unfold D62_10)); simp only [S, TY, reduceCtorEq, nq0, nq1, nq2, nq3, nq4, iq0, iq1, iq2, iq3, iq4, iq5, iq6, iq7, iq8, q0, q4, q5]; (try (simp (disch := omega) only [W2, Int.cast_ofNat_Int]; (try simp only [S, TY, reduceCtorEq, nq0, nq1, nq2, nq3, nq4, iq0, iq1, iq2, iq3, iq4, iq5, iq6, iq7, iq8, q0, q4, q5])))))
      refine Con.lend_at [] [own 5 1 _ _] h3 [0] rfl (fun F hF hs => dEncode_ok (l := body) (seps_own hs 0 rfl).left (by omega)) fun r B H4 hr h4 => ?_
      unfold EncR at hr
      by_cases hgb : good body
      · rw [if_pos hgb] at hr
        obtain ⟨u, rfl, rfl⟩ := hr
        obtain ⟨ua, un, uc, rfl, _, _⟩ := h4.sl 0 rfl Rd_own
        have s1 := rStr_of (P := Try.prog) (h4.rdsi 0 rfl Rd_own)
        have hv4 := (hv0.take (m := at_ + n + 6) (by omega)).drop (m := at_) (by omega)
        obtain ⟨cm, hcm⟩ : ∃ b, (l.take (at_ + n + 6)).drop at_ = b := ⟨_, rfl⟩
        have hcr : cm = rest.take (n + 6) := by rw [← hcm, List.drop_take, hdr]; congr 1; omega
        rw [Nat.mul_one, Nat.mul_one, ← bv_take, ← bv_drop, hcm] at hv4
        simp only [Option.map_some, addr_mk] at hv4
        have s2 := rStr_of (P := Try.prog) (h4.ro hv4)
        have p1 : (at_ : Int) + (n : Int) = ((at_ + n : Nat) : Int) := by omega
        have p2 : ((at_ + n : Nat) : Int) + 6 = ((at_ + n + 6 : Nat) : Int) := by omega
        have p3 : (0 : Int) ≤ ((at_ + n + 6 : Nat) : Int) ∧ ((at_ + n + 6 : Nat) : Int) ≤ (c : Nat) := by omega
        have p4 : (0 : Int) ≤ (at_ : Int) ∧ (at_ : Int) ≤ ((at_ + n + 6 : Nat) : Int) := by omega
        by_cases hcmp : rcd body = cm
        · have hrst : rest = rcd body ++ rest.drop (n + 6) := by rw [hcmp, hcr, List.take_append_drop]
          ((try simp only [S, TY, reduceCtorEq, nq0, nq1, nq2, nq3, nq4, iq0, iq1, iq2, iq3, iq4, iq5, iq6, iq7, iq8, s1, s2, p1, p2, p3, p4, hcmp, q0, q4, q5]); (try (simp (disch := omega) only [W2, Int.cast_ofNat_Int]; (try simp only [S, TY, reduceCtorEq, nq0, nq1, nq2, nq3, nq4, iq0, iq1, iq2, iq3, iq4, iq5, iq6, iq7, iq8, s1, s2, p1, p2, p3, p4, hcmp, q0, q4, q5]))); repeat ((first | (refine cl_drawi 5 D62_5 (List.range 14) (by decide) (by kernel_rfl) ?_; unfold D62_5) | (refine cl_drawi 10 D62_10 (List.range 15) (by decide) (by kernel_rfl) ?_; unfold D62_10)); simp only [S, TY, reduceCtorEq, nq0, nq1, nq2, nq3, nq4, iq0, iq1, iq2, iq3, iq4, iq5, iq6, iq7, iq8, s1, s2, p1, p2, p3, p4, hcmp, q0, q4, q5]; (try (simp (disch := omega) only [W2, Int.cast_ofNat_Int]; (try simp only [S, TY, reduceCtorEq, nq0, nq1, nq2, nq3, nq4, iq0, iq1, iq2, iq3, iq4, iq5, iq6, iq7, iq8, s1, s2, p1, p2, p3, p4, hcmp, q0, q4, q5])))))
          intro nb2 hnb2 hng2
          have h5 := h4.newsl (e := 33) (sz := 1) (n := 1) (xs := [.slice ya yn yc]) hnb2 hng2 rfl
          ((try simp only [S, TY, reduceCtorEq, nq0, nq1, nq2, nq3, nq4, iq0, iq1, iq2, iq3, iq4, iq5, iq6, iq7, iq8, q0, q4, q5]); (try (simp (disch := omega) only [W2, Int.cast_ofNat_Int]; (try simp only [S, TY, reduceCtorEq, nq0, nq1, nq2, nq3, nq4, iq0, iq1, iq2, iq3, iq4, iq5, iq6, iq7, iq8, q0, q4, q5]))); repeat ((first | (refine cl_drawi 5 D62_5 (List.range 14) (by decide) (by kernel_rfl) ?_; unfold D62_5) | (refine cl_drawi 10 D62_10 (List.range 15) (by decide) (by kernel_rfl) ?_; unfold D62_10)); simp only [S, TY, reduceCtorEq, nq0, nq1, nq2, nq3, nq4, iq0, iq1, iq2, iq3, iq4, iq5, iq6, iq7, iq8, q0, q4, q5]; (try (simp (disch := omega) only [W2, Int.cast_ofNat_Int]; (try simp only [S, TY, reduceCtorEq, nq0, nq1, nq2, nq3, nq4, iq0, iq1, iq2, iq3, iq4, iq5, iq6, iq7, iq8, q0, q4, q5])))))
          refine append_sl (show apI Try.prog 90 = some (33, 1, 24) from by kernel_rfl) (show slIs Try.prog 90 = true from by kernel_rfl) (h5.front 3) (h5.rdsi 0 rfl Rd_own) (by simp [Value.oneCell']) (by simp; omega) fun o3 H6 h6 => ?_
          have r1 : ((at_ + n : Nat) : Int) + 6 = ((at_ + n + 6 : Nat) : Int) := by omega
          ((try simp only [S, TY, reduceCtorEq, nq0, nq1, nq2, nq3, nq4, iq0, iq1, iq2, iq3, iq4, iq5, iq6, iq7, iq8, q0, q4, q5, p1, p2]); (try (simp (disch := omega) only [W2, Int.cast_ofNat_Int]; (try simp only [S, TY, reduceCtorEq, nq0, nq1, nq2, nq3, nq4, iq0, iq1, iq2, iq3, iq4, iq5, iq6, iq7, iq8, q0, q4, q5, p1, p2]))); repeat ((first | (refine cl_drawi 5 D62_5 (List.range 14) (by decide) (by kernel_rfl) ?_; unfold D62_5) | (refine cl_drawi 10 D62_10 (List.range 15) (by decide) (by kernel_rfl) ?_; unfold D62_10)); simp only [S, TY, reduceCtorEq, nq0, nq1, nq2, nq3, nq4, iq0, iq1, iq2, iq3, iq4, iq5, iq6, iq7, iq8, q0, q4, q5, p1, p2]; (try (simp (disch := omega) only [W2, Int.cast_ofNat_Int]; (try simp only [S, TY, reduceCtorEq, nq0, nq1, nq2, nq3, nq4, iq0, iq1, iq2, iq3, iq4, iq5, iq6, iq7, iq8, q0, q4, q5, p1, p2])))))
          have hat2 : ((bs ++ [body]).flatMap rcd).length = at_ + n + 6 := by rw [List.flatMap_append, List.length_append, hat]; simp [rcd_len, hbl]; omega
          refine .go (bs ++ [body]) (by rw [hat2, hat]; omega) ⟨rest.drop (n + 6), vs ++ [.slice ya yn yc], o3, ?_, ?_, by simp [hvl], q0, rfl, by rw [hat2]; rfl, ?_⟩
          · rw [List.flatMap_append]
            simp only [List.flatMap_cons, List.flatMap_nil, List.append_nil, List.append_assoc]
            rw [← hrst]; exact hl
          · intro x hx
            rcases List.mem_append.1 hx with hx | hx
            · exact hgd x hx
            · rw [List.mem_singleton] at hx; subst hx; exact hgb
          · have h7 := (h6.fronts [3, 3]).blob_push
            exact ⟨h7.1, seps_take (B := [_, _]) (h7.fronts [1, 0]).2⟩
        · ((try simp only [S, TY, reduceCtorEq, nq0, nq1, nq2, nq3, nq4, iq0, iq1, iq2, iq3, iq4, iq5, iq6, iq7, iq8, s1, s2, p1, p2, p3, p4, hcmp, q0, q4, q5]); (try (simp (disch := omega) only [W2, Int.cast_ofNat_Int]; (try simp only [S, TY, reduceCtorEq, nq0, nq1, nq2, nq3, nq4, iq0, iq1, iq2, iq3, iq4, iq5, iq6, iq7, iq8, s1, s2, p1, p2, p3, p4, hcmp, q0, q4, q5]))); repeat ((first | (refine cl_drawi 5 D62_5 (List.range 14) (by decide) (by kernel_rfl) ?_; unfold D62_5) | (refine cl_drawi 10 D62_10 (List.range 15) (by decide) (by kernel_rfl) ?_; unfold D62_10)); simp only [S, TY, reduceCtorEq, nq0, nq1, nq2, nq3, nq4, iq0, iq1, iq2, iq3, iq4, iq5, iq6, iq7, iq8, s1, s2, p1, p2, p3, p4, hcmp, q0, q4, q5]; (try (simp (disch := omega) only [W2, Int.cast_ofNat_Int]; (try simp only [S, TY, reduceCtorEq, nq0, nq1, nq2, nq3, nq4, iq0, iq1, iq2, iq3, iq4, iq5, iq6, iq7, iq8, s1, s2, p1, p2, p3, p4, hcmp, q0, q4, q5])))))
          refine out ?_ _ [] ?_
          · intro b t hb e
            obtain ⟨e1, e2, e3⟩ := hrec b t hb e
            rw [hbody] at e3
            subst e3
            apply hcmp
            rw [hcr, e, List.take_append_of_le_length (by rw [rcd_len]; omega), List.take_of_length_le (by rw [rcd_len]; omega)]
          · exact ⟨h4.1, seps_take (B := [_, _]) (h4.fronts [2, 2]).2⟩
      · rw [if_neg hgb] at hr
        obtain ⟨rfl, rfl⟩ := hr
        ((try simp only [S, TY, reduceCtorEq, nq0, nq1, nq2, nq3, nq4, iq0, iq1, iq2, iq3, iq4, iq5, iq6, iq7, iq8, q0, q4, q5]); (try (simp (disch := omega) only [W2, Int.cast_ofNat_Int]; (try simp only [S, TY, reduceCtorEq, nq0, nq1, nq2, nq3, nq4, iq0, iq1, iq2, iq3, iq4, iq5, iq6, iq7, iq8, q0, q4, q5]))); repeat ((first | (refine cl_drawi 5 D62_5 (List.range 14) (by decide) (by kernel_rfl) ?_; unfold D62_5) | (refine cl_drawi 10 D62_10 (List.range 15) (by decide) (by kernel_rfl) ?_; unfold D62_10)); simp only [S, TY, reduceCtorEq, nq0, nq1, nq2, nq3, nq4, iq0, iq1, iq2, iq3, iq4, iq5, iq6, iq7, iq8, q0, q4, q5]; (try (simp (disch := omega) only [W2, Int.cast_ofNat_Int]; (try simp only [S, TY, reduceCtorEq, nq0, nq1, nq2, nq3, nq4, iq0, iq1, iq2, iq3, iq4, iq5, iq6, iq7, iq8, q0, q4, q5])))))
        refine out ?_ _ [] ?_
        · intro b t hb e
          obtain ⟨e1, e2, e3⟩ := hrec b t hb e
          rw [hbody] at e3
          subst e3
          exact hgb hb
        · exact ⟨h4.1, seps_take (B := [_, _]) (h4.fronts [1, 1]).2⟩
end Go.Proofs.Ytfjmejideoklpaa.JnT
