/- Records of bodies: a record's bytes, the program's and the document's; the record that comes first. -/
import Derived.Test.YtfjmejideoklpaaJnS
import Derived.Test.YtfjmejideoklpaaWr
import Derived.Test.YtfjmejideoklpaaBufOne
set_option linter.unusedVariables false
set_option linter.unusedSimpArgs false
set_option maxRecDepth 10000
set_option maxHeartbeats 1000000
namespace Go.Proofs.Ytfjmejideoklpaa.JnE
open Nat renaming reduceEqDiff → nq0, reduceAdd → nq1, reduceLeDiff → nq2, reduceBEq → nq3, reduceMul → nq4
open Int renaming reduceBEq → iq0, reduceEq → iq1, reduceLT → iq2, reduceLE → iq3, reduceAdd → iq4, reduceSub → iq5, reduceMul → iq6, reduceToNat → iq7, cast_ofNat_Int → iq8
open Go Go.Sl Go.Proofs Go.Proofs.Ytfjmejideoklpaa.Buf Go.Proofs.Ytfjmejideoklpaa.BufRd Go.Proofs.Ytfjmejideoklpaa.BufRe Go.Proofs.Ytfjmejideoklpaa.BufP Go.Proofs.Ytfjmejideoklpaa.BufOne Go.Proofs.Ytfjmejideoklpaa.Wr Go.Proofs.Ytfjmejideoklpaa.Jn Go.Proofs.Ytfjmejideoklpaa.JnP Go.Proofs.Ytfjmejideoklpaa.JnS
theorem TY : aggN Try.prog 3 = some none ∧
  aggN Try.prog 5 = some none ∧
  aggN Try.prog 33 = some none ∧
  aggN Try.prog 34 = some none ∧
  aggN Try.prog 156 = some none ∧
  aggN Try.prog 158 = some (some 2) ∧
  aggN Try.prog 161 = some none ∧
  aggN Try.prog 215 = some none ∧
  apI Try.prog 33 = some (5, 1, 1) ∧
  apI Try.prog 215 = some (3, 1, 8) ∧
  bIs Try.prog 158 = true ∧
  bySl Try.prog 33 = true ∧
  csz Try.prog 3 = some 1 ∧
  csz Try.prog 5 = some 1 ∧
  csz Try.prog 33 = some 1 ∧
  csz Try.prog 34 = some 1 ∧
  csz Try.prog 156 = some 1 ∧
  csz Try.prog 158 = some 2 ∧
  csz Try.prog 161 = some 1 ∧
  csz Try.prog 215 = some 1 ∧
  goes Try.prog 65 = true ∧
  goes Try.prog 66 = true ∧
  goes Try.prog 93 = true ∧
  goes Try.prog 94 = true ∧
  goes Try.prog 95 = true ∧
  goes Try.prog 96 = true ∧
  goes Try.prog 97 = true ∧
  goes Try.prog 109 = true ∧
  goes Try.prog 112 = true ∧
  goes Try.prog 113 = true ∧
  goes Try.prog 151 = true ∧
  inIs Try.prog 3 = some .i64 ∧
  inIs Try.prog 5 = some .u8 ∧
  inIs Try.prog 34 = some .i64 ∧
  plcs Try.prog 158 = [(0, 1), (1, 1)] ∧
  ptIs Try.prog 156 = true ∧
  ptIs Try.prog 161 = true ∧
  slEl Try.prog 33 = 5 ∧
  slEl Try.prog 215 = 3 ∧
  slIs Try.prog 33 = true ∧
  slIs Try.prog 215 = true ∧
  slSz Try.prog 33 = 1 ∧
  slSz Try.prog 215 = 1 ∧
  zcs Try.prog 158 = [.slice none 0 0, .bool false] ∧
  zro Try.prog 3 = some (.int .i64 0) ∧
  zro Try.prog 5 = some (.int .u8 0) ∧
  zro Try.prog 33 = some (.slice none 0 0) ∧
  zro Try.prog 34 = some (.int .i64 0) ∧
  zro Try.prog 156 = some (.pointer none) ∧
  zro Try.prog 158 = some (.agg #[.slice none 0 0, .bool false]) ∧
  zro Try.prog 161 = some (.pointer none) ∧
  zro Try.prog 215 = some (.slice none 0 0) :=
  ⟨by kernel_rfl, by kernel_rfl, by kernel_rfl, by kernel_rfl, by kernel_rfl, by kernel_rfl, by kernel_rfl, by kernel_rfl, by kernel_rfl, by kernel_rfl, by kernel_rfl, by kernel_rfl, by kernel_rfl, by kernel_rfl, by kernel_rfl, by kernel_rfl, by kernel_rfl, by kernel_rfl, by kernel_rfl, by kernel_rfl, by kernel_rfl, by kernel_rfl, by kernel_rfl, by kernel_rfl, by kernel_rfl, by kernel_rfl, by kernel_rfl, by kernel_rfl, by kernel_rfl, by kernel_rfl, by kernel_rfl, by kernel_rfl, by kernel_rfl, by kernel_rfl, by kernel_rfl, by kernel_rfl, by kernel_rfl, by kernel_rfl, by kernel_rfl, by kernel_rfl, by kernel_rfl, by kernel_rfl, by kernel_rfl, by kernel_rfl, by kernel_rfl, by kernel_rfl, by kernel_rfl, by kernel_rfl, by kernel_rfl, by kernel_rfl, by kernel_rfl, by kernel_rfl⟩
theorem bytesF {G : Hp} {p : Nat} {acc l : List UInt8} {v : Value} (hv : rds G 1 v (bv l)) (hl : l.length < 65536) (hb : acc.length + 8 + l.length ≤ 70368744177664) :
    Con Try.prog G 109 [.pointer (some ⟨p, 0, none⟩), v] [isW p ⟨acc, false⟩] (fun r B => r = .pointer (some ⟨p, 0, none⟩) ∧ B = [isW p ⟨acc ++ num 2 l.length ++ l, false⟩]) := by
  have := Buf.bytes_ok (G := G) (p := p) (w := ⟨acc, false⟩) hv hb
  have e : W.bytes ⟨acc, false⟩ l = ⟨acc ++ num 2 l.length ++ l, false⟩ := by
    unfold W.bytes
    rw [put_fits (by omega) (by omega) (by simpa using fits_i (by omega) (by simp; omega))]
    simp [flat]
  rwa [e] at this
def EncR (b : List UInt8) (r : Value) (B : List Asn) : Prop := if good b then ∃ u, r = .tuple #[u, .int .i64 0] ∧ B = [own 5 1 u (bv (rcd b))] else r = .tuple #[.slice none 0 0, .int .i64 1] ∧ B = []
theorem Encode_ok {G : Hp} {v : Value} {l : List UInt8} (hv : rds G 1 v (bv l)) (hll : l.length ≤ 100000) : Con Try.prog G 63 [v] [] (EncR l) := by
  obtain ⟨a, n, c, rfl, e1, e2⟩ := hv.slice
  rw [bv_length, Nat.mul_one] at e1
  subst e1
  have hs := sum_lt l
  by_cases hg : good l
  · have hg1 : ¬ (l.length : Int) = 0 := by have := hg.1; omega
    have hg2 : ¬ (200 : Int) < l.length := by have := hg.2; omega
    have hg3 := hg.2
    refine Con.intro Try.func63 rfl (Nat.le_of_ble_eq_true (by kernel_rfl)) (by kernel_rfl) Try.results63 ?_
    intro H h
    ((try simp only [S, TY, reduceCtorEq, nq0, nq1, nq2, nq3, nq4, iq0, iq1, iq2, iq3, iq4, iq5, iq6, iq7, iq8, hg1, hg2]); (try (simp (disch := omega) only [W2, Int.cast_ofNat_Int]; (try simp only [S, TY, reduceCtorEq, nq0, nq1, nq2, nq3, nq4, iq0, iq1, iq2, iq3, iq4, iq5, iq6, iq7, iq8, hg1, hg2]))))
    iterate 40 (all_goals (try ((first
        | (((with_reducible show New _ _ _); first | (refine New_ob h (fun wp H' h' => ?_); replace h' := newW h'; skip) | (refine New_qob h (fun wp H' h' => ?_); replace h' := newW h'; skip)))
        | ((with_reducible show CallsH _ _ 109 _ _ _); (refine (bytesF hv (by omega) (by simp; omega)).at_ h [0] _ rfl (fun r B H' hr h' => ?_); obtain ⟨rfl, rfl⟩ := hr; skip))
        | ((with_reducible show CallsH _ _ 65 _ _ _); first | (refine (Sum_ok hv hll).at_ h [] _ rfl (fun r B H' hr h' => ?_); obtain ⟨rfl, rfl⟩ := hr; skip))
        | ((with_reducible show CallsH _ _ 93 _ _ _); (refine Con.lend_at [isW _ ⟨_, false⟩] [own 3 1 _ _] h [1, 0] rfl (fun F hF hs' => putF1 (seps_own hs' 0 rfl).left (by omega) (by omega) (by omega) (by simp only [Int.reduceToNat, Int.reducePow]; omega) (by simp [num_length]; omega)) (fun r B H' hr h' => ?_); obtain ⟨rfl, rfl⟩ := hr; replace h' := (h'.front 1).tail; skip))
        | ((with_reducible show CallsH _ _ 94 _ _ _); (refine (doneF (by simp [flat_length, num_length]; omega)).at_ h [0] _ rfl (fun r B H' hr h' => ?_); obtain ⟨dv, rfl, rfl⟩ := hr; obtain ⟨da, dn, dc, rfl, _, _⟩ := h'.sl 0 rfl Rd_own; skip))
        | ((with_reducible show New _ _ _); first | (refine New_sl h 1 rfl (fun b H' h' => ?_); skip) | (refine New_qsl h 1 rfl (fun b => rfl) (fun b H' h' => ?_); skip) | (refine New_ob h (fun b H' h' => ?_); skip) | (refine New_qob h (fun b H' h' => ?_); skip))
        | ((with_reducible show St _ _); first | (refine sg.st (h.front 0) rfl rfl (fun H' h' => ?_); skip) | (refine sg.st (h.front 1) rfl rfl (fun H' h' => ?_); skip) | (refine sg.st (h.front 2) rfl rfl (fun H' h' => ?_); skip) | (refine sg.st (h.front 3) rfl rfl (fun H' h' => ?_); skip) | (refine sg.st (h.front 4) rfl rfl (fun H' h' => ?_); skip) | (refine sg.st (h.front 5) rfl rfl (fun H' h' => ?_); skip) | (refine sg.st (h.front 6) rfl rfl (fun H' h' => ?_); skip) | (refine sg.st (h.front 7) rfl rfl (fun H' h' => ?_); skip))
        | ((with_reducible show Gate _ _ _); refine Gate.intro (fun g => ?_) (fun g => ?_) <;> (try subst g))
        ) <;> ((try ((try simp only [front_eq, fronts_nil, fronts_cons, List.getElem?_cons_zero, List.getElem?_cons_succ, List.eraseIdx_cons_zero, List.eraseIdx_cons_succ, List.cons_append, List.nil_append, putL_cons, putL_nil, List.set_cons_zero, List.set_cons_succ, Nat.reduceAdd] at h'); clear h; have h := h'; clear h'; (try have fc := h.ci 0 rfl); (try have fl := h.li 0 rfl); (try have fc := h.ci 1 rfl); (try have fl := h.li 1 rfl); (try have fc := h.ci 2 rfl); (try have fl := h.li 2 rfl); (try have fc := h.ci 3 rfl); (try have fl := h.li 3 rfl); (try have fc := h.ci 4 rfl); (try have fl := h.li 4 rfl); (try have fc := h.ci 5 rfl); (try have fl := h.li 5 rfl); (try have fc := h.ci 6 rfl); (try have fl := h.li 6 rfl); (try have fc := h.ci 7 rfl); (try have fl := h.li 7 rfl))); ((try simp only [S, TY, reduceCtorEq, nq0, nq1, nq2, nq3, nq4, iq0, iq1, iq2, iq3, iq4, iq5, iq6, iq7, iq8, *]); (try (simp (disch := omega) only [W2, Int.cast_ofNat_Int]; (try simp only [S, TY, reduceCtorEq, nq0, nq1, nq2, nq3, nq4, iq0, iq1, iq2, iq3, iq4, iq5, iq6, iq7, iq8, *]))))))))
    have e : num 2 l.length ++ l ++ flat (Int.toNat 4) [((sum l : Nat) : Int)] = rcd l := by simp [flat, rcd]
    rw [e] at h
    exact fin_take (B := [_]) h (by unfold EncR; rw [if_pos hg]; exact ⟨_, rfl, rfl⟩)
  · have no : ∀ (H : Hp) (L : List Asn), sg G L H → fin (EncR l) (.returned (.tuple #[.slice none 0 0, .int .i64 1])) H := by
      intro H L h
      exact fin_take (B := []) h (by unfold EncR; rw [if_neg hg]; exact ⟨rfl, rfl⟩)
    unfold good at hg
    refine Con.intro Try.func63 rfl (Nat.le_of_ble_eq_true (by kernel_rfl)) (by kernel_rfl) Try.results63 ?_
    intro H h
    ((try simp only [S, TY, reduceCtorEq, nq0, nq1, nq2, nq3, nq4, iq0, iq1, iq2, iq3, iq4, iq5, iq6, iq7, iq8]); (try (simp (disch := omega) only [W2, Int.cast_ofNat_Int]; (try simp only [S, TY, reduceCtorEq, nq0, nq1, nq2, nq3, nq4, iq0, iq1, iq2, iq3, iq4, iq5, iq6, iq7, iq8]))))
    iterate 40 (all_goals (try ((first
        | ((with_reducible show fin _ _ _); first | (exact no _ _ h))
        | ((with_reducible show New _ _ _); first | (refine New_sl h 1 rfl (fun b H' h' => ?_); skip) | (refine New_qsl h 1 rfl (fun b => rfl) (fun b H' h' => ?_); skip) | (refine New_ob h (fun b H' h' => ?_); skip) | (refine New_qob h (fun b H' h' => ?_); skip))
        | ((with_reducible show St _ _); first | (refine sg.st (h.front 0) rfl rfl (fun H' h' => ?_); skip) | (refine sg.st (h.front 1) rfl rfl (fun H' h' => ?_); skip) | (refine sg.st (h.front 2) rfl rfl (fun H' h' => ?_); skip) | (refine sg.st (h.front 3) rfl rfl (fun H' h' => ?_); skip) | (refine sg.st (h.front 4) rfl rfl (fun H' h' => ?_); skip) | (refine sg.st (h.front 5) rfl rfl (fun H' h' => ?_); skip) | (refine sg.st (h.front 6) rfl rfl (fun H' h' => ?_); skip) | (refine sg.st (h.front 7) rfl rfl (fun H' h' => ?_); skip))
        | ((with_reducible show Gate _ _ _); refine Gate.intro (fun g => ?_) (fun g => ?_) <;> (try subst g))
        ) <;> ((try ((try simp only [front_eq, fronts_nil, fronts_cons, List.getElem?_cons_zero, List.getElem?_cons_succ, List.eraseIdx_cons_zero, List.eraseIdx_cons_succ, List.cons_append, List.nil_append, putL_cons, putL_nil, List.set_cons_zero, List.set_cons_succ, Nat.reduceAdd] at h'); clear h; have h := h'; clear h'; (try have fc := h.ci 0 rfl); (try have fl := h.li 0 rfl); (try have fc := h.ci 1 rfl); (try have fl := h.li 1 rfl); (try have fc := h.ci 2 rfl); (try have fl := h.li 2 rfl); (try have fc := h.ci 3 rfl); (try have fl := h.li 3 rfl); (try have fc := h.ci 4 rfl); (try have fl := h.li 4 rfl); (try have fc := h.ci 5 rfl); (try have fl := h.li 5 rfl); (try have fc := h.ci 6 rfl); (try have fl := h.li 6 rfl); (try have fc := h.ci 7 rfl); (try have fl := h.li 7 rfl))); ((try simp only [S, TY, reduceCtorEq, nq0, nq1, nq2, nq3, nq4, iq0, iq1, iq2, iq3, iq4, iq5, iq6, iq7, iq8, *]); (try (simp (disch := omega) only [W2, Int.cast_ofNat_Int]; (try simp only [S, TY, reduceCtorEq, nq0, nq1, nq2, nq3, nq4, iq0, iq1, iq2, iq3, iq4, iq5, iq6, iq7, iq8, *]))))))))
    all_goals (exfalso; omega)
theorem dEncode_ok {G : Hp} {v : Value} {l : List UInt8} (hv : rds G 1 v (bv l)) (hll : l.length ≤ 100000) : Con Try.prog G 64 [v] [] (EncR l) := by
  obtain ⟨a, n, c, rfl, e1, e2⟩ := hv.slice
  rw [bv_length, Nat.mul_one] at e1
  subst e1
  have hs := sum_lt l
  by_cases hg : good l
  · have hg1 : ¬ (l.length : Int) < 1 := by have := hg.1; omega
    have hg2 : ¬ (200 : Int) < l.length := by have := hg.2; omega
    have hg3 := hg.2
    refine Con.intro Try.func64 rfl (Nat.le_of_ble_eq_true (by kernel_rfl)) (by kernel_rfl) Try.results64 ?_
    intro H h
    ((try simp only [S, TY, reduceCtorEq, nq0, nq1, nq2, nq3, nq4, iq0, iq1, iq2, iq3, iq4, iq5, iq6, iq7, iq8, hg1, hg2]); (try (simp (disch := omega) only [W2, Int.cast_ofNat_Int]; (try simp only [S, TY, reduceCtorEq, nq0, nq1, nq2, nq3, nq4, iq0, iq1, iq2, iq3, iq4, iq5, iq6, iq7, iq8, hg1, hg2]))))
    refine (one_ok (N := 2) (X := l.length) (by omega)).at_ h [] _ rfl fun r B H1 hr h1 => ?_
    subst hr
    obtain ⟨ua, un, uc, rfl, _, _⟩ := h1.sl 0 rfl Rd_own
    ((try simp only [S, TY, reduceCtorEq, nq0, nq1, nq2, nq3, nq4, iq0, iq1, iq2, iq3, iq4, iq5, iq6, iq7, iq8]); (try (simp (disch := omega) only [W2, Int.cast_ofNat_Int]; (try simp only [S, TY, reduceCtorEq, nq0, nq1, nq2, nq3, nq4, iq0, iq1, iq2, iq3, iq4, iq5, iq6, iq7, iq8]))))
    refine append_sl (show apI Try.prog 33 = some (5, 1, 1) from by kernel_rfl) (show slIs Try.prog 33 = true from by kernel_rfl) h1 (h1.ro hv) (bv_one _) (by simp only [bv_length, num_length]; omega) fun v H2 h2 => ?_
    rw [← bv_append] at h2
    obtain ⟨va, vn, vc, rfl, _, _⟩ := h2.sl 0 rfl Rd_own
    ((try simp only [S, TY, reduceCtorEq, nq0, nq1, nq2, nq3, nq4, iq0, iq1, iq2, iq3, iq4, iq5, iq6, iq7, iq8]); (try (simp (disch := omega) only [W2, Int.cast_ofNat_Int]; (try simp only [S, TY, reduceCtorEq, nq0, nq1, nq2, nq3, nq4, iq0, iq1, iq2, iq3, iq4, iq5, iq6, iq7, iq8]))))
    refine (dSum_ok hv hll).at_ h2 [] _ rfl fun r B H3 hr h3 => ?_
    obtain ⟨rfl, rfl⟩ := hr
    ((try simp only [S, TY, reduceCtorEq, nq0, nq1, nq2, nq3, nq4, iq0, iq1, iq2, iq3, iq4, iq5, iq6, iq7, iq8]); (try (simp (disch := omega) only [W2, Int.cast_ofNat_Int]; (try simp only [S, TY, reduceCtorEq, nq0, nq1, nq2, nq3, nq4, iq0, iq1, iq2, iq3, iq4, iq5, iq6, iq7, iq8]))))
    refine (one_ok (N := 4) (X := sum l) (by omega)).at_ h3 [] _ rfl fun r B H4 hr h4 => ?_
    subst hr
    obtain ⟨wa, wn, wc, rfl, _, _⟩ := h4.sl 0 rfl Rd_own
    ((try simp only [S, TY, reduceCtorEq, nq0, nq1, nq2, nq3, nq4, iq0, iq1, iq2, iq3, iq4, iq5, iq6, iq7, iq8]); (try (simp (disch := omega) only [W2, Int.cast_ofNat_Int]; (try simp only [S, TY, reduceCtorEq, nq0, nq1, nq2, nq3, nq4, iq0, iq1, iq2, iq3, iq4, iq5, iq6, iq7, iq8]))))
    refine append_sl (show apI Try.prog 33 = some (5, 1, 1) from by kernel_rfl) (show slIs Try.prog 33 = true from by kernel_rfl) (h4.front 1) (h4.rdsi 0 rfl Rd_own) (bv_one _) (by simp only [bv_length, num_length, List.length_append]; omega) fun v H5 h5 => ?_
    rw [← bv_append, show num 2 l.length ++ l ++ num 4 (sum l) = rcd l by simp [rcd]] at h5
    obtain ⟨xa, xn, xc, rfl, _, _⟩ := h5.sl 0 rfl Rd_own
    ((try simp only [S, TY, reduceCtorEq, nq0, nq1, nq2, nq3, nq4, iq0, iq1, iq2, iq3, iq4, iq5, iq6, iq7, iq8]); (try (simp (disch := omega) only [W2, Int.cast_ofNat_Int]; (try simp only [S, TY, reduceCtorEq, nq0, nq1, nq2, nq3, nq4, iq0, iq1, iq2, iq3, iq4, iq5, iq6, iq7, iq8]))))
    exact fin_take (B := [_]) h5 (by unfold EncR; rw [if_pos hg]; exact ⟨_, rfl, rfl⟩)
  · have no : ∀ (H : Hp) (L : List Asn), sg G L H → fin (EncR l) (.returned (.tuple #[.slice none 0 0, .int .i64 1])) H := by
      intro H L h
      exact fin_take (B := []) h (by unfold EncR; rw [if_neg hg]; exact ⟨rfl, rfl⟩)
    unfold good at hg
    refine Con.intro Try.func64 rfl (Nat.le_of_ble_eq_true (by kernel_rfl)) (by kernel_rfl) Try.results64 ?_
    intro H h
    ((try simp only [S, TY, reduceCtorEq, nq0, nq1, nq2, nq3, nq4, iq0, iq1, iq2, iq3, iq4, iq5, iq6, iq7, iq8]); (try (simp (disch := omega) only [W2, Int.cast_ofNat_Int]; (try simp only [S, TY, reduceCtorEq, nq0, nq1, nq2, nq3, nq4, iq0, iq1, iq2, iq3, iq4, iq5, iq6, iq7, iq8]))))
    iterate 40 (all_goals (try ((first
        | ((with_reducible show fin _ _ _); first | (exact no _ _ h))
        | ((with_reducible show New _ _ _); first | (refine New_sl h 1 rfl (fun b H' h' => ?_); skip) | (refine New_qsl h 1 rfl (fun b => rfl) (fun b H' h' => ?_); skip) | (refine New_ob h (fun b H' h' => ?_); skip) | (refine New_qob h (fun b H' h' => ?_); skip))
        | ((with_reducible show St _ _); first | (refine sg.st (h.front 0) rfl rfl (fun H' h' => ?_); skip) | (refine sg.st (h.front 1) rfl rfl (fun H' h' => ?_); skip) | (refine sg.st (h.front 2) rfl rfl (fun H' h' => ?_); skip) | (refine sg.st (h.front 3) rfl rfl (fun H' h' => ?_); skip) | (refine sg.st (h.front 4) rfl rfl (fun H' h' => ?_); skip) | (refine sg.st (h.front 5) rfl rfl (fun H' h' => ?_); skip) | (refine sg.st (h.front 6) rfl rfl (fun H' h' => ?_); skip) | (refine sg.st (h.front 7) rfl rfl (fun H' h' => ?_); skip))
        | ((with_reducible show Gate _ _ _); refine Gate.intro (fun g => ?_) (fun g => ?_) <;> (try subst g))
        ) <;> ((try ((try simp only [front_eq, fronts_nil, fronts_cons, List.getElem?_cons_zero, List.getElem?_cons_succ, List.eraseIdx_cons_zero, List.eraseIdx_cons_succ, List.cons_append, List.nil_append, putL_cons, putL_nil, List.set_cons_zero, List.set_cons_succ, Nat.reduceAdd] at h'); clear h; have h := h'; clear h'; (try have fc := h.ci 0 rfl); (try have fl := h.li 0 rfl); (try have fc := h.ci 1 rfl); (try have fl := h.li 1 rfl); (try have fc := h.ci 2 rfl); (try have fl := h.li 2 rfl); (try have fc := h.ci 3 rfl); (try have fl := h.li 3 rfl); (try have fc := h.ci 4 rfl); (try have fl := h.li 4 rfl); (try have fc := h.ci 5 rfl); (try have fl := h.li 5 rfl); (try have fc := h.ci 6 rfl); (try have fl := h.li 6 rfl); (try have fc := h.ci 7 rfl); (try have fl := h.li 7 rfl))); ((try simp only [S, TY, reduceCtorEq, nq0, nq1, nq2, nq3, nq4, iq0, iq1, iq2, iq3, iq4, iq5, iq6, iq7, iq8, *]); (try (simp (disch := omega) only [W2, Int.cast_ofNat_Int]; (try simp only [S, TY, reduceCtorEq, nq0, nq1, nq2, nq3, nq4, iq0, iq1, iq2, iq3, iq4, iq5, iq6, iq7, iq8, *]))))))))
    all_goals (exfalso; omega)
theorem bytes_snd (r : R) (m : Int) : (R.bytes r m).2.length ≤ r.b.length := by
  have h := get_len r 2
  unfold R.bytes
  split
  · simp
  · simp only [List.length_take]; omega
theorem bytes_fst (r : R) (m : Int) : (R.bytes r m).1.b.length ≤ r.b.length := by
  have h := get_len r 2
  unfold R.bytes
  split
  · exact h
  · simp only [List.length_drop]; omega
/-- What first answers. -/
def FirstR (l : List UInt8) (r : Value) (B : List Asn) : Prop := ∃ u, r = .tuple #[u, .bool (firstM l).2] ∧ B = [own 5 1 u (bv (firstM l).1)]
theorem first_ok {G : Hp} {v : Value} {l : List UInt8} (hv : rds G 1 v (bv l)) (hll : l.length ≤ 100000) : Con Try.prog G 127 [v] [] (FirstR l) := by
  obtain ⟨a, n, c, rfl, e1, e2⟩ := hv.slice
  rw [bv_length, Nat.mul_one] at e1
  subst e1
  obtain ⟨M, hM⟩ : ∃ M, min l.length 206 = M := ⟨_, rfl⟩
  have hM1 : M ≤ l.length := by omega
  have hv2 := hv.cut (m := M) (c' := c) hM1 (by omega)
  have et : l.take M = l.take 206 := by
    rcases Nat.le_total l.length 206 with z | z
    · rw [show M = l.length by omega, List.take_length, List.take_of_length_le z]
    · rw [show M = 206 by omega]
  rw [Nat.mul_one, ← bv_take, et] at hv2
  have mm : (if (206 : Int) < (l.length : Nat) then (206 : Int) else (l.length : Nat)) = (M : Int) := by split <;> omega
  have mg : (0 : Int) ≤ M ∧ (M : Int) ≤ c := by omega
  have hl2 : (l.take 206).length ≤ 206 := by rw [List.length_take]; omega
  obtain ⟨⟨ra, x⟩, ha⟩ : ∃ r, R.bytes ⟨l.take 206, false⟩ 200 = r := ⟨_, rfl⟩
  obtain ⟨⟨rc, w⟩, hc⟩ : ∃ r, ra.get 4 = r := ⟨_, rfl⟩
  obtain ⟨⟨re, y⟩, hd⟩ : ∃ r, R.rest rc = r := ⟨_, rfl⟩
  obtain ⟨E, hE⟩ : ∃ E, R.done re = E := ⟨_, rfl⟩
  have zx := bytes_snd ⟨l.take 206, false⟩ 200
  have za := bytes_fst ⟨l.take 206, false⟩ 200
  rw [ha] at zx za
  simp only at zx za
  have zc := get_len ra 4
  rw [hc] at zc
  simp only at zc
  have hf : firstM l = (x, decide (E = 0 ∧ 0 < x.length ∧ w = sum x)) := by unfold firstM; rw [ha]; simp only [hc, hd, hE]
  have hR : ∀ r B, FirstR l r B = ∃ u, r = .tuple #[u, .bool (decide (E = 0 ∧ 0 < x.length ∧ w = sum x))] ∧ B = [own 5 1 u (bv x)] := by intro r B; unfold FirstR; rw [hf]
  refine Con.intro Try.func127 rfl (Nat.le_of_ble_eq_true (by kernel_rfl)) (by kernel_rfl) Try.results127 ?_
  intro H h
  ((try simp only [S, TY, reduceCtorEq, nq0, nq1, nq2, nq3, nq4, iq0, iq1, iq2, iq3, iq4, iq5, iq6, iq7, iq8, mm, mg]); (try (simp (disch := omega) only [W2, Int.cast_ofNat_Int]; (try simp only [S, TY, reduceCtorEq, nq0, nq1, nq2, nq3, nq4, iq0, iq1, iq2, iq3, iq4, iq5, iq6, iq7, iq8, mm, mg]))))
  refine (read_ok hv2 (by omega)).at_ h [] _ rfl fun r B H1 hr h1 => ?_
  obtain ⟨p, rfl, rfl⟩ := hr
  ((try simp only [S, TY, reduceCtorEq, nq0, nq1, nq2, nq3, nq4, iq0, iq1, iq2, iq3, iq4, iq5, iq6, iq7, iq8]); (try (simp (disch := omega) only [W2, Int.cast_ofNat_Int]; (try simp only [S, TY, reduceCtorEq, nq0, nq1, nq2, nq3, nq4, iq0, iq1, iq2, iq3, iq4, iq5, iq6, iq7, iq8]))))
  refine (BufRe.bytes_ok (r := ⟨l.take 206, false⟩) 200 (by simp only; omega)).at_ h1 [0] _ rfl fun r B H2 hr h2 => ?_
  rw [ha] at hr
  subst hr
  obtain ⟨ua, un, uc, rfl, f1, f2⟩ := h2.sl 0 rfl Rd_own
  rw [bv_length, Nat.mul_one] at f1
  subst f1
  ((try simp only [S, TY, reduceCtorEq, nq0, nq1, nq2, nq3, nq4, iq0, iq1, iq2, iq3, iq4, iq5, iq6, iq7, iq8]); (try (simp (disch := omega) only [W2, Int.cast_ofNat_Int]; (try simp only [S, TY, reduceCtorEq, nq0, nq1, nq2, nq3, nq4, iq0, iq1, iq2, iq3, iq4, iq5, iq6, iq7, iq8]))))
  refine (get_ok (r := ra) 4 (by omega)).at_ h2 [1] _ rfl fun r B H3 hr h3 => ?_
  rw [hc] at hr
  obtain ⟨rfl, rfl⟩ := hr
  ((try simp only [S, TY, reduceCtorEq, nq0, nq1, nq2, nq3, nq4, iq0, iq1, iq2, iq3, iq4, iq5, iq6, iq7, iq8]); (try (simp (disch := omega) only [W2, Int.cast_ofNat_Int]; (try simp only [S, TY, reduceCtorEq, nq0, nq1, nq2, nq3, nq4, iq0, iq1, iq2, iq3, iq4, iq5, iq6, iq7, iq8]))))
  refine (BufRe.rest_ok (r := rc) (by omega)).at_ h3 [0] _ rfl fun r B H4 hr h4 => ?_
  rw [hd] at hr
  subst hr
  ((try simp only [S, TY, reduceCtorEq, nq0, nq1, nq2, nq3, nq4, iq0, iq1, iq2, iq3, iq4, iq5, iq6, iq7, iq8]); (try (simp (disch := omega) only [W2, Int.cast_ofNat_Int]; (try simp only [S, TY, reduceCtorEq, nq0, nq1, nq2, nq3, nq4, iq0, iq1, iq2, iq3, iq4, iq5, iq6, iq7, iq8]))))
  refine (BufRe.done_ok (r := re)).at_ h4 [1] _ rfl fun r B H5 hr h5 => ?_
  obtain ⟨rfl, rfl⟩ := hr
  rw [hE]
  by_cases g1 : E = 0
  · by_cases g2 : (0 : Int) < x.length
    · ((try simp only [S, TY, reduceCtorEq, nq0, nq1, nq2, nq3, nq4, iq0, iq1, iq2, iq3, iq4, iq5, iq6, iq7, iq8, g1, g2]); (try (simp (disch := omega) only [W2, Int.cast_ofNat_Int]; (try simp only [S, TY, reduceCtorEq, nq0, nq1, nq2, nq3, nq4, iq0, iq1, iq2, iq3, iq4, iq5, iq6, iq7, iq8, g1, g2]))))
      refine Con.lend_at [] [own 5 1 _ _] h5 [2] rfl (fun F hF hs => Sum_ok (l := x) (seps_own hs 0 rfl).left (by omega)) fun r B H6 hr h6 => ?_
      obtain ⟨rfl, rfl⟩ := hr
      by_cases g3 : w = sum x
      · subst g3
        ((try simp only [S, TY, reduceCtorEq, nq0, nq1, nq2, nq3, nq4, iq0, iq1, iq2, iq3, iq4, iq5, iq6, iq7, iq8]); (try (simp (disch := omega) only [W2, Int.cast_ofNat_Int]; (try simp only [S, TY, reduceCtorEq, nq0, nq1, nq2, nq3, nq4, iq0, iq1, iq2, iq3, iq4, iq5, iq6, iq7, iq8]))))
        refine fin_take (B := [_]) h6 ?_
        rw [hR, decide_eq_true ⟨g1, by omega, rfl⟩]
        exact ⟨_, rfl, rfl⟩
      · have g4 : ¬ (w : Int) = (sum x : Nat) := by omega
        ((try simp only [S, TY, reduceCtorEq, nq0, nq1, nq2, nq3, nq4, iq0, iq1, iq2, iq3, iq4, iq5, iq6, iq7, iq8, g4]); (try (simp (disch := omega) only [W2, Int.cast_ofNat_Int]; (try simp only [S, TY, reduceCtorEq, nq0, nq1, nq2, nq3, nq4, iq0, iq1, iq2, iq3, iq4, iq5, iq6, iq7, iq8, g4]))))
        refine fin_take (B := [_]) h6 ?_
        rw [hR, decide_eq_false (fun z => g3 z.2.2), show ((w : Int) == ((sum x : Nat) : Int)) = false from beq_eq_false_iff_ne.2 g4]
        exact ⟨_, rfl, rfl⟩
    · ((try simp only [S, TY, reduceCtorEq, nq0, nq1, nq2, nq3, nq4, iq0, iq1, iq2, iq3, iq4, iq5, iq6, iq7, iq8, g1, g2]); (try (simp (disch := omega) only [W2, Int.cast_ofNat_Int]; (try simp only [S, TY, reduceCtorEq, nq0, nq1, nq2, nq3, nq4, iq0, iq1, iq2, iq3, iq4, iq5, iq6, iq7, iq8, g1, g2]))))
      refine fin_take (B := [_]) (h5.front 2) ?_
      rw [hR, decide_eq_false (fun z => g2 (by omega))]
      exact ⟨_, rfl, rfl⟩
  · ((try simp only [S, TY, reduceCtorEq, nq0, nq1, nq2, nq3, nq4, iq0, iq1, iq2, iq3, iq4, iq5, iq6, iq7, iq8, g1]); (try (simp (disch := omega) only [W2, Int.cast_ofNat_Int]; (try simp only [S, TY, reduceCtorEq, nq0, nq1, nq2, nq3, nq4, iq0, iq1, iq2, iq3, iq4, iq5, iq6, iq7, iq8, g1]))))
    refine fin_take (B := [_]) (h5.front 2) ?_
    rw [hR, decide_eq_false (fun z => g1 z.1)]
    exact ⟨_, rfl, rfl⟩
end Go.Proofs.Ytfjmejideoklpaa.JnE
