/- The law on what is left of a journal. -/
import Derived.Test.YtfjmejideoklpaaJnW
set_option linter.unusedVariables false
set_option linter.unusedSimpArgs false
set_option maxRecDepth 10000
set_option maxHeartbeats 2000000
namespace Go.Proofs.Ytfjmejideoklpaa.JnY
open Nat renaming reduceEqDiff → nq0, reduceAdd → nq1, reduceLeDiff → nq2, reduceBEq → nq3, reduceMul → nq4
open Int renaming reduceBEq → iq0, reduceEq → iq1, reduceLT → iq2, reduceLE → iq3, reduceAdd → iq4, reduceSub → iq5, reduceMul → iq6, reduceToNat → iq7, cast_ofNat_Int → iq8
open Go Go.Sl Go.Proofs Go.Proofs.Ytfjmejideoklpaa.Disk Go.Proofs.Ytfjmejideoklpaa.DiskR Go.Proofs.Ytfjmejideoklpaa.Jn Go.Proofs.Ytfjmejideoklpaa.JnP Go.Proofs.Ytfjmejideoklpaa.JnS Go.Proofs.Ytfjmejideoklpaa.JnE Go.Proofs.Ytfjmejideoklpaa.JnT Go.Proofs.Ytfjmejideoklpaa.JnM Go.Proofs.Ytfjmejideoklpaa.JnO Go.Proofs.Ytfjmejideoklpaa.JnL Go.Proofs.Ytfjmejideoklpaa.JnA Go.Proofs.Ytfjmejideoklpaa.JnW
theorem TY : aggN Try.prog 3 = some none ∧
  aggN Try.prog 5 = some none ∧
  aggN Try.prog 33 = some none ∧
  aggN Try.prog 34 = some none ∧
  aggN Try.prog 84 = some none ∧
  aggN Try.prog 86 = some none ∧
  aggN Try.prog 89 = some none ∧
  aggN Try.prog 90 = some none ∧
  aggN Try.prog 100 = some (some 3) ∧
  apI Try.prog 33 = some (5, 1, 1) ∧
  apI Try.prog 84 = some (100, 3, 40) ∧
  apI Try.prog 90 = some (33, 1, 24) ∧
  bIs Try.prog 100 = true ∧
  bySl Try.prog 33 = true ∧
  csz Try.prog 3 = some 1 ∧
  csz Try.prog 5 = some 1 ∧
  csz Try.prog 33 = some 1 ∧
  csz Try.prog 34 = some 1 ∧
  csz Try.prog 84 = some 1 ∧
  csz Try.prog 86 = some 1 ∧
  csz Try.prog 89 = some 1 ∧
  csz Try.prog 90 = some 1 ∧
  csz Try.prog 100 = some 3 ∧
  fIs Try.prog 100 1 = true ∧
  fOff Try.prog 100 1 = 1 ∧
  fTy Try.prog 100 1 = 33 ∧
  goes Try.prog 46 = true ∧
  goes Try.prog 47 = true ∧
  goes Try.prog 48 = true ∧
  goes Try.prog 49 = true ∧
  goes Try.prog 51 = true ∧
  goes Try.prog 53 = true ∧
  goes Try.prog 55 = true ∧
  goes Try.prog 56 = true ∧
  inIs Try.prog 3 = some .i64 ∧
  inIs Try.prog 5 = some .u8 ∧
  inIs Try.prog 34 = some .i64 ∧
  plcs Try.prog 100 = [(0, 1), (1, 1), (2, 1)] ∧
  ptIs Try.prog 86 = true ∧
  ptIs Try.prog 89 = true ∧
  slEl Try.prog 33 = 5 ∧
  slEl Try.prog 84 = 100 ∧
  slEl Try.prog 90 = 33 ∧
  slIs Try.prog 33 = true ∧
  slIs Try.prog 84 = true ∧
  slIs Try.prog 90 = true ∧
  slSz Try.prog 33 = 1 ∧
  slSz Try.prog 84 = 3 ∧
  slSz Try.prog 90 = 1 ∧
  zcs Try.prog 100 = [.int .u8 0, .slice none 0 0, .int .i64 0] ∧
  zro Try.prog 3 = some (.int .i64 0) ∧
  zro Try.prog 5 = some (.int .u8 0) ∧
  zro Try.prog 33 = some (.slice none 0 0) ∧
  zro Try.prog 34 = some (.int .i64 0) ∧
  zro Try.prog 84 = some (.slice none 0 0) ∧
  zro Try.prog 86 = some (.pointer none) ∧
  zro Try.prog 89 = some (.pointer none) ∧
  zro Try.prog 90 = some (.slice none 0 0) ∧
  zro Try.prog 100 = some (.agg #[.int .u8 0, .slice none 0 0, .int .i64 0]) :=
  ⟨by kernel_rfl, by kernel_rfl, by kernel_rfl, by kernel_rfl, by kernel_rfl, by kernel_rfl, by kernel_rfl, by kernel_rfl, by kernel_rfl, by kernel_rfl, by kernel_rfl, by kernel_rfl, by kernel_rfl, by kernel_rfl, by kernel_rfl, by kernel_rfl, by kernel_rfl, by kernel_rfl, by kernel_rfl, by kernel_rfl, by kernel_rfl, by kernel_rfl, by kernel_rfl, by kernel_rfl, by kernel_rfl, by kernel_rfl, by kernel_rfl, by kernel_rfl, by kernel_rfl, by kernel_rfl, by kernel_rfl, by kernel_rfl, by kernel_rfl, by kernel_rfl, by kernel_rfl, by kernel_rfl, by kernel_rfl, by kernel_rfl, by kernel_rfl, by kernel_rfl, by kernel_rfl, by kernel_rfl, by kernel_rfl, by kernel_rfl, by kernel_rfl, by kernel_rfl, by kernel_rfl, by kernel_rfl, by kernel_rfl, by kernel_rfl, by kernel_rfl, by kernel_rfl, by kernel_rfl, by kernel_rfl, by kernel_rfl, by kernel_rfl, by kernel_rfl, by kernel_rfl, by kernel_rfl⟩
theorem blobs_take : ∀ {vs : List Value} {bs : List (List UInt8)} {H : Hp}, blobs vs bs H → ∀ n : Nat, blobs (vs.take n) (bs.take n) H
  | _, _, _, _, 0 => by rw [List.take_zero, List.take_zero]; trivial
  | [], [], _, _, _ + 1 => trivial
  | _ :: _, _ :: _, _, h, n + 1 => ⟨h.1, blobs_take h.2 n⟩
  | [], _ :: _, _, h, _ + 1 => h.elim
  | _ :: _, [], _, h, _ + 1 => h.elim
theorem flat_le : ∀ {bs : List (List UInt8)}, (∀ b ∈ bs, good b) → (bs.flatMap rcd).length ≤ 206 * bs.length
  | [], _ => by simp
  | b :: bs, h => by
    have h1 := (h b (by simp)).2
    have h2 := flat_le (bs := bs) fun x hx => h x (by simp [hx])
    rw [List.flatMap_cons, List.length_append, rcd_len, List.length_cons]; omega
/-- What stands in a file: records, of which the first ones are safe. -/
structure St (f : F) (bs : List (List UInt8)) (m : Nat) : Prop where
  g : ∀ b ∈ bs, good b
  s : f.safe = (bs.take m).flatMap rcd
  l : f.loose = (bs.drop m).flatMap rcd
  m : m ≤ bs.length
  r : f.room = 65536
theorem St.all {f : F} {bs : List (List UInt8)} {m : Nat} (h : St f bs m) : f.safe ++ f.loose = bs.flatMap rcd := by
  rw [h.s, h.l, ← List.flatMap_append, List.take_append_drop]
theorem St.len {f : F} {bs : List (List UInt8)} {m : Nat} (h : St f bs m) : f.safe.length + f.loose.length ≤ 206 * bs.length := by
  rw [← List.length_append, h.all]; exact flat_le h.g
theorem St.ok {f : F} {bs : List (List UInt8)} {m : Nat} (h : St f bs m) (hb : bs.length ≤ 60) : f.ok := by
  have := h.len
  exact ⟨by rw [h.r]; decide, by rw [h.r]; omega⟩
theorem St.put {f : F} {bs : List (List UInt8)} {m : Nat} (h : St f bs m) (hb : bs.length < 60) {b : List UInt8} (hg : good b) (n : Nat) : ∃ f', putM f n b = (f', n + 1, 0) ∧ St f' (bs ++ [b]) m := by
  have h1 := h.len
  have h2 := rcd_len b
  have h3 := hg.2
  have e : f.add (rcd b) = ({ f with loose := f.loose ++ rcd b }, 0) := by
    unfold F.add
    rw [if_pos (by rw [h.r]; omega)]
  refine ⟨{ f with loose := f.loose ++ rcd b }, ?_, ?_⟩
  · unfold putM
    rw [if_pos hg, e]; rfl
  · refine ⟨?_, ?_, ?_, by rw [List.length_append]; have := h.m; omega, h.r⟩
    · intro x hx
      rcases List.mem_append.1 hx with hx | hx
      · exact h.g x hx
      · rw [List.mem_singleton] at hx; subst hx; exact hg
    · rw [List.take_append_of_le_length h.m]; exact h.s
    · rw [List.drop_append_of_le_length h.m, List.flatMap_append, ← h.l]; simp
theorem St.sync {f : F} {bs : List (List UInt8)} {m : Nat} (h : St f bs m) : St f.sync bs bs.length := by
  refine ⟨h.g, ?_, ?_, Nat.le_refl _, h.r⟩
  · rw [List.take_length, ← h.all]; rfl
  · rw [List.drop_length]; rfl
theorem St.new : St ⟨[], [], 65536⟩ [] 0 := ⟨by simp, rfl, rfl, by simp, rfl⟩
/-- Behind a crash. -/
theorem St.crash {f : F} {bs : List (List UInt8)} {m : Nat} (h : St f bs m) (keep : Int) : ∃ k r, m ≤ k ∧ k ≤ bs.length ∧ (keep ≤ 0 → k = m) ∧ Scans ((f.crash keep).1.safe ++ (f.crash keep).1.loose) (bs.take k) r := by
  obtain ⟨st, hst⟩ : ∃ st, (min (max keep 0) f.loose.length).toNat = st := ⟨_, rfl⟩
  obtain ⟨k, r, h1, h2, h3⟩ := scans_take bs (f.safe.length + st) h.g
  have hs : ((bs.take m).flatMap rcd).length = f.safe.length := by rw [h.s]
  obtain ⟨h4, h5⟩ := h3 m h.m (by omega)
  refine ⟨k, r, h4, h1, ?_, ?_⟩
  · intro hk
    have : k ≤ m := h5 (by omega)
    omega
  · rw [← h.all, List.take_append, List.take_of_length_le (by omega), Nat.add_sub_cancel_left] at h2
    unfold F.crash
    simp only [hst, List.append_nil]
    exact h2
theorem keepsLaw {G : Hp} (sy keep : Int) {v : Value} {l : List AT.den} (hv : Acts G v l) : Con Try.prog G 10 [v, .int .i64 sy, .int .i64 keep] [] (fun r B => r = .bool true ∧ B = []) := by
  have hv0 := hv
  obtain ⟨a, n, c, rfl, e1, e2⟩ := hv.shape (by decide)
  refine Con.intro Try.func10 rfl (Nat.le_of_ble_eq_true (by kernel_rfl)) (by kernel_rfl) Try.results10 ?_
  intro H hH
  ((try simp only [S, TY, reduceCtorEq, nq0, nq1, nq2, nq3, nq4, iq0, iq1, iq2, iq3, iq4, iq5, iq6, iq7, iq8]); (try (simp (disch := omega) only [W2, Int.cast_ofNat_Int]; (try simp only [S, TY, reduceCtorEq, nq0, nq1, nq2, nq3, nq4, iq0, iq1, iq2, iq3, iq4, iq5, iq6, iq7, iq8]))))
  refine (fits hv0).at_ hH [] _ rfl fun r B H1 hr h1 => ?_
  obtain ⟨ok, rfl, rfl, hok⟩ := hr
  ((try simp only [S, TY, reduceCtorEq, nq0, nq1, nq2, nq3, nq4, iq0, iq1, iq2, iq3, iq4, iq5, iq6, iq7, iq8]); (try (simp (disch := omega) only [W2, Int.cast_ofNat_Int]; (try simp only [S, TY, reduceCtorEq, nq0, nq1, nq2, nq3, nq4, iq0, iq1, iq2, iq3, iq4, iq5, iq6, iq7, iq8]))))
  refine (new_ok 65536 (by omega) (by omega)).at_ h1 [] _ rfl fun r B H2 hr h2 => ?_
  obtain ⟨q, rfl, rfl⟩ := hr
  have f0 := St.new.ok (by decide)
  ((try simp only [S, TY, reduceCtorEq, nq0, nq1, nq2, nq3, nq4, iq0, iq1, iq2, iq3, iq4, iq5, iq6, iq7, iq8]); (try (simp (disch := omega) only [W2, Int.cast_ofNat_Int]; (try simp only [S, TY, reduceCtorEq, nq0, nq1, nq2, nq3, nq4, iq0, iq1, iq2, iq3, iq4, iq5, iq6, iq7, iq8]))))
  refine (Open_ok f0 (by decide)).at_ h2 [0] _ rfl fun r B H3 hr h3 => ?_
  obtain ⟨jp, bs, rest, vs, u, hsc, rfl, rfl⟩ := hr
  obtain ⟨rfl, rfl⟩ := Scans.uniq Scans.nil hsc
  obtain ⟨ua, un, uc, rfl, y1, y2⟩ := h3.sl 1 rfl Rd_own
  have vl := (h3.front 2).blobs.len
  rw [Nat.mul_one, vl] at y1
  subst y1
  have l0 : ([] : List (List UInt8)).length = 0 := rfl
  have n0 : ((0 : Nat) : Int) = 0 := rfl
  rw [show fopen ⟨[], [], 65536⟩ ((([] : List (List UInt8)).flatMap rcd).length) = ⟨[], [], 65536⟩ from rfl, l0] at h3
  cases ok with
  | false =>
    ((try simp only [S, TY, reduceCtorEq, nq0, nq1, nq2, nq3, nq4, iq0, iq1, iq2, iq3, iq4, iq5, iq6, iq7, iq8]); (try (simp (disch := omega) only [W2, Int.cast_ofNat_Int]; (try simp only [S, TY, reduceCtorEq, nq0, nq1, nq2, nq3, nq4, iq0, iq1, iq2, iq3, iq4, iq5, iq6, iq7, iq8]))))
    refine alive.at_ h3 [] _ rfl fun r B H4 hr h4 => ?_
    obtain ⟨rfl, rfl⟩ := hr
    ((try simp only [S, TY, reduceCtorEq, nq0, nq1, nq2, nq3, nq4, iq0, iq1, iq2, iq3, iq4, iq5, iq6, iq7, iq8]); (try (simp (disch := omega) only [W2, Int.cast_ofNat_Int]; (try simp only [S, TY, reduceCtorEq, nq0, nq1, nq2, nq3, nq4, iq0, iq1, iq2, iq3, iq4, iq5, iq6, iq7, iq8]))))
    exact fin_take (B := []) h4 ⟨rfl, rfl⟩
  | true =>
    have hn := (hok rfl).1
    ((try simp only [S, TY, reduceCtorEq, nq0, nq1, nq2, nq3, nq4, iq0, iq1, iq2, iq3, iq4, iq5, iq6, iq7, iq8, l0, n0]); (try (simp (disch := omega) only [W2, Int.cast_ofNat_Int]; (try simp only [S, TY, reduceCtorEq, nq0, nq1, nq2, nq3, nq4, iq0, iq1, iq2, iq3, iq4, iq5, iq6, iq7, iq8, l0, n0]))))
    refine cl_loop (fun i e H => i ≤ n ∧ e 0 = .slice a n c ∧ e 1 = .int .i64 sy ∧ e 2 = .int .i64 keep ∧ e 8 = .pointer (some ⟨q, 0, none⟩) ∧ e 10 = .pointer (some ⟨jp, 0, none⟩) ∧ e 15 = .int .i64 i ∧
        ∃ f bs ws m o, St f bs m ∧ bs.length ≤ i ∧ blobs ws bs G ∧ e 13 = .int .i64 (m : Nat) ∧ e 14 = o ∧ sg G [jP jp q bs.length, isF q f, own 33 1 o ws] H) (fun i => n - i) 0
      ⟨by omega, rfl, rfl, rfl, rfl, rfl, rfl, ⟨[], [], 65536⟩, [], [], 0, .slice none 0 0, St.new, by simp, trivial, rfl, rfl, ?_⟩ ?_
    · have h4 := (h3.fronts [0, 2]).nil_ 33 1
      exact ⟨h4.1, seps_take (B := [_, _, _]) (h4.fronts [1, 1, 0]).2⟩
    clear h1 h2 h3
    rintro i e H ⟨q1, q0, qs, qk, q8, q10, q15, f, bs, ws, m, o, hS, hbi, hW, q13, q14, hH⟩
    obtain ⟨oa, on, oc, rfl, z1, z2⟩ := hH.sl 2 rfl Rd_own
    have wl := hW.len
    rw [Nat.mul_one, wl] at z1
    subst z1
    have hf := hS.ok (by omega)
    by_cases g1 : (i : Int) < n
    · obtain ⟨b, off, cs, hl, rfl, hQ, _, hc, hld⟩ := hv0.at (by decide) (i := i) (by omega)
      obtain ⟨c1, c2, rfl, _, ⟨rfl, hk1⟩, c3, c4, rfl, _, ⟨w, rfl, hb⟩, c5, c6, rfl, _, ⟨rfl, hn1⟩, rfl⟩ := hQ
      have g0 : (0 : Int) ≤ i ∧ (i : Int) < n := ⟨by omega, g1⟩
      have hlen := (hok rfl).2 _ (List.getElem_mem hl)
      have d1 := hc 1 (by decide)
      simp only [List.cons_append, List.nil_append, List.getElem?_cons_zero, List.getElem?_cons_succ, Nat.add_zero] at d1
      obtain ⟨bd, hbd⟩ : ∃ k, l[i].2.1 = k := ⟨_, rfl⟩
      rw [hbd] at hb hlen
      have hb0 := hb
      obtain ⟨wa, wn, wc, rfl, _, _⟩ := hb.slice
      clear hbd hk1 hn1 hc hld
      have x0 := hH.roc d1
      ((try simp only [S, TY, reduceCtorEq, nq0, nq1, nq2, nq3, nq4, iq0, iq1, iq2, iq3, iq4, iq5, iq6, iq7, iq8, q0, qs, qk, q8, q10, q15, g1, g0, x0]); (try (simp (disch := omega) only [W2, Int.cast_ofNat_Int]; (try simp only [S, TY, reduceCtorEq, nq0, nq1, nq2, nq3, nq4, iq0, iq1, iq2, iq3, iq4, iq5, iq6, iq7, iq8, q0, qs, qk, q8, q10, q15, g1, g0, x0]))))
      refine (Put_ok hf (by omega) hb0 (by omega)).at_ hH [0, 0] _ rfl fun r B H5 hr h5 => ?_
      obtain ⟨rfl, rfl⟩ := hr
      have x1 := h5.roc d1
      by_cases hg : good bd
      · obtain ⟨f1, hp, hS1⟩ := hS.put (by omega) hg bs.length
        rw [hp] at h5 ⊢
        simp only at h5 ⊢
        ((try simp only [S, TY, reduceCtorEq, nq0, nq1, nq2, nq3, nq4, iq0, iq1, iq2, iq3, iq4, iq5, iq6, iq7, iq8, q0, qs, qk, q8, q10, q13, q14, q15, g1, g0, x1]); (try (simp (disch := omega) only [W2, Int.cast_ofNat_Int]; (try simp only [S, TY, reduceCtorEq, nq0, nq1, nq2, nq3, nq4, iq0, iq1, iq2, iq3, iq4, iq5, iq6, iq7, iq8, q0, qs, qk, q8, q10, q13, q14, q15, g1, g0, x1]))))
        intro nb hnb hng
        have h6 := h5.newsl (e := 33) (sz := 1) (n := 1) (xs := [.slice wa wn wc]) hnb hng rfl
        ((try simp only [S, TY, reduceCtorEq, nq0, nq1, nq2, nq3, nq4, iq0, iq1, iq2, iq3, iq4, iq5, iq6, iq7, iq8, q0, qs, qk, q8, q10, q13, q14, q15, g1, g0]); (try (simp (disch := omega) only [W2, Int.cast_ofNat_Int]; (try simp only [S, TY, reduceCtorEq, nq0, nq1, nq2, nq3, nq4, iq0, iq1, iq2, iq3, iq4, iq5, iq6, iq7, iq8, q0, qs, qk, q8, q10, q13, q14, q15, g1, g0]))))
        refine append_sl (show apI Try.prog 90 = some (33, 1, 24) from by kernel_rfl) (show slIs Try.prog 90 = true from by kernel_rfl) (h6.front 3) (h6.rdsi 0 rfl Rd_own) (by simp [Value.oneCell']) (by simp; omega) fun o2 H7 h7 => ?_
        obtain ⟨oa2, on2, oc2, rfl, w1, w2⟩ := h7.sl 0 rfl Rd_own
        rw [Nat.mul_one, List.length_append, wl] at w1
        have w3 : bs.length + 1 = on2 := w1
        subst w3
        have hbl : (bs ++ [bd]).length = bs.length + 1 := by simp
        have hW1 : blobs (ws ++ [.slice wa wn wc]) (bs ++ [bd]) G := hW.snoc hb0
        by_cases g2 : (i : Int) < sy
        · ((try simp only [S, TY, reduceCtorEq, nq0, nq1, nq2, nq3, nq4, iq0, iq1, iq2, iq3, iq4, iq5, iq6, iq7, iq8, q0, qs, qk, q8, q10, q13, q14, q15, g1, g0, g2]); (try (simp (disch := omega) only [W2, Int.cast_ofNat_Int]; (try simp only [S, TY, reduceCtorEq, nq0, nq1, nq2, nq3, nq4, iq0, iq1, iq2, iq3, iq4, iq5, iq6, iq7, iq8, q0, qs, qk, q8, q10, q13, q14, q15, g1, g0, g2]))))
          refine (Sync_ok (hS1.ok (by omega))).at_ h7 [2, 2] _ rfl fun r B H8 hr h8 => ?_
          subst hr
          ((try simp only [S, TY, reduceCtorEq, nq0, nq1, nq2, nq3, nq4, iq0, iq1, iq2, iq3, iq4, iq5, iq6, iq7, iq8, q0, qs, qk, q8, q10, q13, q14, q15, g1, g0, g2]); (try (simp (disch := omega) only [W2, Int.cast_ofNat_Int]; (try simp only [S, TY, reduceCtorEq, nq0, nq1, nq2, nq3, nq4, iq0, iq1, iq2, iq3, iq4, iq5, iq6, iq7, iq8, q0, qs, qk, q8, q10, q13, q14, q15, g1, g0, g2]))))
          refine .go (i + 1) (by omega) ⟨by omega, q0, qs, qk, q8, q10, rfl, f1.sync, bs ++ [bd], ws ++ [.slice wa wn wc], _, _, hS1.sync, by omega, hW1, by rw [hbl]; rfl, rfl, ?_⟩
          rw [hbl]
          exact ⟨h8.1, seps_take (B := [_, _, _]) (h8.fronts [0, 0, 0]).2⟩
        · ((try simp only [S, TY, reduceCtorEq, nq0, nq1, nq2, nq3, nq4, iq0, iq1, iq2, iq3, iq4, iq5, iq6, iq7, iq8, q0, qs, qk, q8, q10, q13, q14, q15, g1, g0, g2]); (try (simp (disch := omega) only [W2, Int.cast_ofNat_Int]; (try simp only [S, TY, reduceCtorEq, nq0, nq1, nq2, nq3, nq4, iq0, iq1, iq2, iq3, iq4, iq5, iq6, iq7, iq8, q0, qs, qk, q8, q10, q13, q14, q15, g1, g0, g2]))))
          refine .go (i + 1) (by omega) ⟨by omega, q0, qs, qk, q8, q10, rfl, f1, bs ++ [bd], ws ++ [.slice wa wn wc], m, _, hS1, by omega, hW1, q13, rfl, ?_⟩
          rw [hbl]
          exact ⟨h7.1, seps_take (B := [_, _, _]) (h7.fronts [2, 2, 0]).2⟩
      · have hp : putM f bs.length bd = (f, bs.length, 1) := by unfold putM; rw [if_neg hg]
        rw [hp] at h5 ⊢
        simp only at h5 ⊢
        ((try simp only [S, TY, reduceCtorEq, nq0, nq1, nq2, nq3, nq4, iq0, iq1, iq2, iq3, iq4, iq5, iq6, iq7, iq8, q0, qs, qk, q8, q10, q13, q14, q15, g1, g0, x1]); (try (simp (disch := omega) only [W2, Int.cast_ofNat_Int]; (try simp only [S, TY, reduceCtorEq, nq0, nq1, nq2, nq3, nq4, iq0, iq1, iq2, iq3, iq4, iq5, iq6, iq7, iq8, q0, qs, qk, q8, q10, q13, q14, q15, g1, g0, x1]))))
        exact .go (i + 1) (by omega) ⟨by omega, q0, qs, qk, q8, q10, rfl, f, bs, ws, m, _, hS, by omega, hW, q13, q14, h5⟩
    · ((try simp only [S, TY, reduceCtorEq, nq0, nq1, nq2, nq3, nq4, iq0, iq1, iq2, iq3, iq4, iq5, iq6, iq7, iq8, q0, qs, qk, q8, q10, q13, q14, q15, g1]); (try (simp (disch := omega) only [W2, Int.cast_ofNat_Int]; (try simp only [S, TY, reduceCtorEq, nq0, nq1, nq2, nq3, nq4, iq0, iq1, iq2, iq3, iq4, iq5, iq6, iq7, iq8, q0, qs, qk, q8, q10, q13, q14, q15, g1]))))
      refine (crash_ok hf keep).at_ hH [1] _ rfl fun r B H5 hr h5 => ?_
      obtain ⟨rfl, rfl⟩ := hr
      obtain ⟨k, rr, hk1, hk2, hk3, hsc2⟩ := hS.crash keep
      have hcf := crash_fok hf keep
      have hcr : (f.crash keep).1.room = 65536 := hS.r
      ((try simp only [S, TY, reduceCtorEq, nq0, nq1, nq2, nq3, nq4, iq0, iq1, iq2, iq3, iq4, iq5, iq6, iq7, iq8, q0, qs, qk, q8, q10, q13, q14, q15, g1]); (try (simp (disch := omega) only [W2, Int.cast_ofNat_Int]; (try simp only [S, TY, reduceCtorEq, nq0, nq1, nq2, nq3, nq4, iq0, iq1, iq2, iq3, iq4, iq5, iq6, iq7, iq8, q0, qs, qk, q8, q10, q13, q14, q15, g1]))))
      refine (Open_ok hcf (by omega)).at_ h5 [0] _ rfl fun r B H6 hr h6 => ?_
      obtain ⟨jp2, bs2, rest2, vs2, u2, hsc3, rfl, rfl⟩ := hr
      obtain ⟨rfl, rfl⟩ := Scans.uniq hsc2 hsc3
      obtain ⟨ua2, un2, uc2, rfl, y3, y4⟩ := h6.sl 1 rfl Rd_own
      have vl2 := (h6.front 2).blobs.len
      have hkl : (bs.take k).length = k := by rw [List.length_take]; omega
      rw [Nat.mul_one, vl2, hkl] at y3
      subst y3
      have t1 : ¬ (k : Int) < (m : Nat) := by omega
      have t2 : ¬ ((bs.length : Nat) : Int) < (k : Nat) := by omega
      have t3 : (0 : Int) ≤ (k : Nat) ∧ ((k : Nat) : Int) ≤ (oc : Nat) := by omega
      ((try simp only [S, TY, reduceCtorEq, nq0, nq1, nq2, nq3, nq4, iq0, iq1, iq2, iq3, iq4, iq5, iq6, iq7, iq8, q0, qs, qk, q8, q10, q13, q14, q15, g1, t1, t2, t3]); (try (simp (disch := omega) only [W2, Int.cast_ofNat_Int]; (try simp only [S, TY, reduceCtorEq, nq0, nq1, nq2, nq3, nq4, iq0, iq1, iq2, iq3, iq4, iq5, iq6, iq7, iq8, q0, qs, qk, q8, q10, q13, q14, q15, g1, t1, t2, t3]))))
      refine Con.lend_at [] [own 33 1 _ vs2, blobs vs2 (bs.take k), own 33 1 (.slice oa bs.length oc) ws] h6 [1, 1, 3] rfl
        (fun F hF hs => same_ok (ws := ws.take k) (xs := bs.take k) (bs := bs.take k) (seps_own hs 0 rfl).left (by have := (seps_own hs 2 rfl).left (G := G) |>.cut (m := k) (c' := oc) (by omega) (by omega); rwa [Nat.mul_one] at this) ((seps_blob hs 1 rfl).mono un_le_l) ((blobs_take hW k).mono (un_le_r hF)) (by omega)) fun r B H7 hr h7 => ?_
      obtain ⟨rfl, rfl⟩ := hr
      rw [decide_eq_true rfl]
      ((try simp only [S, TY, reduceCtorEq, nq0, nq1, nq2, nq3, nq4, iq0, iq1, iq2, iq3, iq4, iq5, iq6, iq7, iq8, q0, qs, qk, q8, q10, q13, q14, q15, g1]); (try (simp (disch := omega) only [W2, Int.cast_ofNat_Int]; (try simp only [S, TY, reduceCtorEq, nq0, nq1, nq2, nq3, nq4, iq0, iq1, iq2, iq3, iq4, iq5, iq6, iq7, iq8, q0, qs, qk, q8, q10, q13, q14, q15, g1]))))
      refine alive.at_ h7 [] _ rfl fun r B H8 hr h8 => ?_
      obtain ⟨rfl, rfl⟩ := hr
      by_cases g3 : 0 < keep
      · ((try simp only [S, TY, reduceCtorEq, nq0, nq1, nq2, nq3, nq4, iq0, iq1, iq2, iq3, iq4, iq5, iq6, iq7, iq8, q0, qs, qk, q8, q10, q13, q14, q15, g1, g3]); (try (simp (disch := omega) only [W2, Int.cast_ofNat_Int]; (try simp only [S, TY, reduceCtorEq, nq0, nq1, nq2, nq3, nq4, iq0, iq1, iq2, iq3, iq4, iq5, iq6, iq7, iq8, q0, qs, qk, q8, q10, q13, q14, q15, g1, g3]))))
        exact fin_take (B := []) h8 ⟨rfl, rfl⟩
      · have g4 : (k : Int) = (m : Nat) := by have := hk3 (by omega); omega
        ((try simp only [S, TY, reduceCtorEq, nq0, nq1, nq2, nq3, nq4, iq0, iq1, iq2, iq3, iq4, iq5, iq6, iq7, iq8, q0, qs, qk, q8, q10, q13, q14, q15, g1, g3, g4]); (try (simp (disch := omega) only [W2, Int.cast_ofNat_Int]; (try simp only [S, TY, reduceCtorEq, nq0, nq1, nq2, nq3, nq4, iq0, iq1, iq2, iq3, iq4, iq5, iq6, iq7, iq8, q0, qs, qk, q8, q10, q13, q14, q15, g1, g3, g4]))))
        exact fin_take (B := []) h8 ⟨rfl, rfl⟩
theorem keepsV {G : Hp} {v0 v1 v2 : Value} {y0 : (Ty.sl AT).den} {y1 y2 : (Ty.int .i64).den} (h0 : Ty.V G (.sl AT) v0 y0) (h1 : Ty.V G (.int .i64) v1 y1) (h2 : Ty.V G (.int .i64) v2 y2) :
    Con Try.prog G 10 [v0, v1, v2] [] (fun r B => r = .bool true ∧ B = []) := by
  rcases h0 with ⟨h, _⟩ | ⟨_, w, h0, hv⟩
  · cases h
  rcases h1 with ⟨h, _⟩ | ⟨_, h1, _⟩
  · cases h
  rcases h2 with ⟨h, _⟩ | ⟨_, h2, _⟩
  · cases h
  cases h0; cases h1; cases h2
  exact keepsLaw _ _ hv
end Go.Proofs.Ytfjmejideoklpaa.JnY
