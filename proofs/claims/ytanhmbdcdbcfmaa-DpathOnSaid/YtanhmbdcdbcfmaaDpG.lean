/- What becomes of a guest's frame: dpath.Guest. -/
import Derived.Test.YtanhmbdcdbcfmaaDp
set_option linter.unusedVariables false
set_option linter.unusedSimpArgs false
set_option maxRecDepth 10000
set_option maxHeartbeats 2000000
namespace Go.Proofs.Ytanhmbdcdbcfmaa.DpG
open Nat renaming reduceEqDiff → nq0, reduceAdd → nq1, reduceLeDiff → nq2, reduceBEq → nq3, reduceMul → nq4
open Int renaming reduceBEq → iq0, reduceEq → iq1, reduceLT → iq2, reduceLE → iq3, reduceAdd → iq4, reduceSub → iq5, reduceMul → iq6, reduceToNat → iq7, cast_ofNat_Int → iq8
open Go Go.Sl Go.Proofs Go.Proofs.Ytanhmbdcdbcfmaa.Eth Go.Proofs.Ytanhmbdcdbcfmaa.EthR Go.Proofs.Ytanhmbdcdbcfmaa.SoI Go.Proofs.Ytanhmbdcdbcfmaa.SoM Go.Proofs.Ytanhmbdcdbcfmaa.Fl Go.Proofs.Ytanhmbdcdbcfmaa.FlT Go.Proofs.Ytanhmbdcdbcfmaa.FlL Go.Proofs.Ytanhmbdcdbcfmaa.Dp
theorem TY : abIs Try.prog 207 = true ∧
  abSz Try.prog 207 = 1 ∧
  aggN Try.prog 3 = some none ∧
  aggN Try.prog 5 = some none ∧
  aggN Try.prog 24 = some none ∧
  aggN Try.prog 29 = some none ∧
  aggN Try.prog 30 = some none ∧
  aggN Try.prog 34 = some (some 13) ∧
  aggN Try.prog 49 = some none ∧
  aggN Try.prog 51 = some (some 4) ∧
  aggN Try.prog 207 = some (some 3) ∧
  aggN Try.prog 210 = some (some 5) ∧
  apI Try.prog 24 = some (5, 1, 1) ∧
  arIs Try.prog 207 = true ∧
  arLen Try.prog 207 = 3 ∧
  arSz Try.prog 207 = 1 ∧
  bIs Try.prog 34 = true ∧
  bIs Try.prog 51 = true ∧
  bIs Try.prog 210 = true ∧
  bySl Try.prog 24 = true ∧
  csz Try.prog 3 = some 1 ∧
  csz Try.prog 5 = some 1 ∧
  csz Try.prog 24 = some 1 ∧
  csz Try.prog 29 = some 1 ∧
  csz Try.prog 30 = some 1 ∧
  csz Try.prog 34 = some 13 ∧
  csz Try.prog 49 = some 1 ∧
  csz Try.prog 51 = some 4 ∧
  csz Try.prog 207 = some 3 ∧
  csz Try.prog 210 = some 5 ∧
  eqF Try.prog 210 = some [.i, .i, .i, .i, .i] ∧
  fIs Try.prog 51 0 = true ∧
  fOff Try.prog 51 0 = 0 ∧
  fTy Try.prog 51 0 = 49 ∧
  goes Try.prog 106 = true ∧
  goes Try.prog 116 = true ∧
  goes Try.prog 117 = true ∧
  goes Try.prog 118 = true ∧
  inIs Try.prog 3 = some .i64 ∧
  inIs Try.prog 5 = some .u8 ∧
  inIs Try.prog 30 = some .i64 ∧
  inIs Try.prog 49 = some .u64 ∧
  plcs Try.prog 34 = [(0, 1), (1, 1), (2, 1), (3, 1), (4, 1), (5, 8)] ∧
  plcs Try.prog 51 = [(0, 1), (1, 1), (2, 1), (3, 1)] ∧
  plcs Try.prog 210 = [(0, 1), (1, 1), (2, 1), (3, 1), (4, 1)] ∧
  ptIs Try.prog 29 = true ∧
  slEl Try.prog 24 = 5 ∧
  slIs Try.prog 24 = true ∧
  slSz Try.prog 24 = 1 ∧
  zcs Try.prog 34 = [.int .i64 0, .int .i64 0, .int .i64 0, .int .i64 0, .slice none 0 0, .int .i64 0, .int .i64 0, .int .i64 0, .int .i64 0, .int .i64 0, .int .i64 0, .int .i64 0, .slice none 0 0] ∧
  zcs Try.prog 51 = [.int .u64 0, .int .u64 0, .int .i64 0, .slice none 0 0] ∧
  zcs Try.prog 207 = [.nilFunc, .nilFunc, .nilFunc] ∧
  zcs Try.prog 210 = [.int .i64 0, .int .u64 0, .int .i64 0, .int .i64 0, .int .i64 0] ∧
  zro Try.prog 3 = some (.int .i64 0) ∧
  zro Try.prog 5 = some (.int .u8 0) ∧
  zro Try.prog 24 = some (.slice none 0 0) ∧
  zro Try.prog 29 = some (.pointer none) ∧
  zro Try.prog 30 = some (.int .i64 0) ∧
  zro Try.prog 34 = some (.agg #[.int .i64 0, .int .i64 0, .int .i64 0, .int .i64 0, .slice none 0 0, .int .i64 0, .int .i64 0, .int .i64 0, .int .i64 0, .int .i64 0, .int .i64 0, .int .i64 0, .slice none 0 0]) ∧
  zro Try.prog 49 = some (.int .u64 0) ∧
  zro Try.prog 51 = some (.agg #[.int .u64 0, .int .u64 0, .int .i64 0, .slice none 0 0]) ∧
  zro Try.prog 207 = some (.agg #[.nilFunc, .nilFunc, .nilFunc]) ∧
  zro Try.prog 210 = some (.agg #[.int .i64 0, .int .u64 0, .int .i64 0, .int .i64 0, .int .i64 0]) :=
  ⟨by kernel_rfl, by kernel_rfl, by kernel_rfl, by kernel_rfl, by kernel_rfl, by kernel_rfl, by kernel_rfl, by kernel_rfl, by kernel_rfl, by kernel_rfl, by kernel_rfl, by kernel_rfl, by kernel_rfl, by kernel_rfl, by kernel_rfl, by kernel_rfl, by kernel_rfl, by kernel_rfl, by kernel_rfl, by kernel_rfl, by kernel_rfl, by kernel_rfl, by kernel_rfl, by kernel_rfl, by kernel_rfl, by kernel_rfl, by kernel_rfl, by kernel_rfl, by kernel_rfl, by kernel_rfl, by kernel_rfl, by kernel_rfl, by kernel_rfl, by kernel_rfl, by kernel_rfl, by kernel_rfl, by kernel_rfl, by kernel_rfl, by kernel_rfl, by kernel_rfl, by kernel_rfl, by kernel_rfl, by kernel_rfl, by kernel_rfl, by kernel_rfl, by kernel_rfl, by kernel_rfl, by kernel_rfl, by kernel_rfl, by kernel_rfl, by kernel_rfl, by kernel_rfl, by kernel_rfl, by kernel_rfl, by kernel_rfl, by kernel_rfl, by kernel_rfl, by kernel_rfl, by kernel_rfl, by kernel_rfl, by kernel_rfl, by kernel_rfl, by kernel_rfl⟩
theorem hg1 : goes Try.prog 117 = true := by kernel_rfl
theorem hg2 : goes Try.prog 118 = true := by kernel_rfl
def gok (d s ty : Int) (n : Nat) (c id : Int) : Bool := Eth.right d s ty n && decide ((0 ≤ c ∧ c ≤ 15) ∧ 0 ≤ id ∧ id ≤ 1099511627776)
/-- What Guest answers. -/
def GuestR (p : Nat) (t : List En) (d s ty : Int) (l : List UInt8) (c id : Int) (r : Value) (B : List Asn) : Prop := if gok d s ty l.length c id = true
  then ∃ u, r = .tuple #[(wayM (lookT ⟨0, d, 0, 0, -1⟩ t).1 c id (enc d s ty l).length).v u, .int .i64 0] ∧ B = [own 5 1 u (bv (enc d s ty l)), tb p t]
  else r = .tuple #[Oc.drop.v nilS, .int .i64 1] ∧ B = [tb p t]
theorem Guest_ok {G : Hp} {v : Value} {l : List UInt8} {p : Nat} {t : List En} (d s ty : Int) (hd : 0 ≤ d) (hs : 0 ≤ s) (hty : -9223372036854775808 ≤ ty ∧ ty ≤ 9223372036854775807) (hv : rds G 1 v (bv l)) (ht : t.length ≤ 1000) (c id : Int) :
    Con Try.prog G 28 [.pointer (some ⟨p, 0, none⟩), .int .i64 c, frv d s ty v, .int .i64 id] [tb p t] (GuestR p t d s ty l c id) := by
  obtain ⟨va, vn, vc, rfl, -, -⟩ := hv.slice
  cases hb : Eth.right d s ty l.length with
  | false =>
    have hg : gok d s ty l.length c id = false := by unfold gok; rw [hb]; rfl
    refine Con.intro Try.func28 rfl (Nat.le_of_ble_eq_true (by kernel_rfl)) (by kernel_rfl) Try.results28 ?_
    intro H h
    ((try simp only [S, TY, reduceCtorEq, nq0, nq1, nq2, nq3, nq4, iq0, iq1, iq2, iq3, iq4, iq5, iq6, iq7, iq8]); (try (simp (disch := omega) only [W2, Int.cast_ofNat_Int]; (try simp only [S, TY, reduceCtorEq, nq0, nq1, nq2, nq3, nq4, iq0, iq1, iq2, iq3, iq4, iq5, iq6, iq7, iq8]))))
    repeat' (((first
        | ((with_reducible show CallsH _ _ 116 _ _ _); (refine (Eth.Encode_ok d s ty hd hs hty hv).at_ h [] _ rfl (fun r B H' hr h' => ?_); unfold Eth.EncR at hr; rw [if_neg (by rw [hb]; decide)] at hr; obtain ⟨rfl, rfl⟩ := hr; skip))
        | ((with_reducible show fin _ _ _); first | ((refine fin_take (B := [_]) (h.front 5) ?_; unfold GuestR; rw [if_neg (by rw [hg]; decide)]; exact ⟨rfl, rfl⟩)))
        | ((with_reducible show New _ _ _); first | (refine New_sl h 1 rfl (fun b H' h' => ?_); skip) | (refine New_qsl h 1 rfl (fun b => rfl) (fun b H' h' => ?_); skip) | (refine New_ob h (fun b H' h' => ?_); skip) | (refine New_qob h (fun b H' h' => ?_); skip))
        | ((with_reducible show St _ _); first | (refine sg.st (h.front 0) rfl rfl (fun H' h' => ?_); skip) | (refine sg.st (h.front 1) rfl rfl (fun H' h' => ?_); skip) | (refine sg.st (h.front 2) rfl rfl (fun H' h' => ?_); skip) | (refine sg.st (h.front 3) rfl rfl (fun H' h' => ?_); skip) | (refine sg.st (h.front 4) rfl rfl (fun H' h' => ?_); skip) | (refine sg.st (h.front 5) rfl rfl (fun H' h' => ?_); skip) | (refine sg.st (h.front 6) rfl rfl (fun H' h' => ?_); skip) | (refine sg.st (h.front 7) rfl rfl (fun H' h' => ?_); skip))
        | ((with_reducible show Gate _ _ _); refine Gate.intro (fun g => ?_) (fun g => ?_) <;> (try subst g))
        ) <;> ((try ((try simp only [row, En.l, Ky.l, Ac.l, front_eq] at h'); (try simp only [front_eq, fronts_nil, fronts_cons, List.getElem?_cons_zero, List.getElem?_cons_succ, List.eraseIdx_cons_zero, List.eraseIdx_cons_succ, List.cons_append, List.nil_append, putL_cons, putL_nil, List.set_cons_zero, List.set_cons_succ, Nat.reduceAdd] at h'); clear h; have h := h'; clear h'; (try have fc := h.ci 0 rfl); (try have fl := h.li 0 rfl); (try have fc := h.ci 1 rfl); (try have fl := h.li 1 rfl); (try have fc := h.ci 2 rfl); (try have fl := h.li 2 rfl); (try have fc := h.ci 3 rfl); (try have fl := h.li 3 rfl); (try have fc := h.ci 4 rfl); (try have fl := h.li 4 rfl); (try have fc := h.ci 5 rfl); (try have fl := h.li 5 rfl); (try have fc := h.ci 6 rfl); (try have fl := h.li 6 rfl); (try have fc := h.ci 7 rfl); (try have fl := h.li 7 rfl))); ((try simp only [S, TY, reduceCtorEq, nq0, nq1, nq2, nq3, nq4, iq0, iq1, iq2, iq3, iq4, iq5, iq6, iq7, iq8, *]); (try (simp (disch := omega) only [W2, Int.cast_ofNat_Int]; (try simp only [S, TY, reduceCtorEq, nq0, nq1, nq2, nq3, nq4, iq0, iq1, iq2, iq3, iq4, iq5, iq6, iq7, iq8, *])))))))
  | true =>
    cases hg : gok d s ty l.length c id with
    | false =>
      have hn : ¬ ((0 ≤ c ∧ c ≤ 15) ∧ 0 ≤ id ∧ id ≤ 1099511627776) := by
        intro z
        unfold gok at hg
        rw [hb, decide_eq_true z] at hg; cases hg
      refine Con.intro Try.func28 rfl (Nat.le_of_ble_eq_true (by kernel_rfl)) (by kernel_rfl) Try.results28 ?_
      intro H h
      ((try simp only [S, TY, reduceCtorEq, nq0, nq1, nq2, nq3, nq4, iq0, iq1, iq2, iq3, iq4, iq5, iq6, iq7, iq8]); (try (simp (disch := omega) only [W2, Int.cast_ofNat_Int]; (try simp only [S, TY, reduceCtorEq, nq0, nq1, nq2, nq3, nq4, iq0, iq1, iq2, iq3, iq4, iq5, iq6, iq7, iq8]))))
      iterate 20 (all_goals (try ((first
          | ((with_reducible show CallsH _ _ 116 _ _ _); (refine (Eth.Encode_ok d s ty hd hs hty hv).at_ h [] _ rfl (fun r B H' hr h' => ?_); unfold Eth.EncR at hr; rw [if_pos hb] at hr; obtain ⟨u, rfl, rfl⟩ := hr; obtain ⟨ua, un, uc, rfl, _, _⟩ := h'.sl 0 rfl Rd_own; skip))
          | ((with_reducible show fin _ _ _); first | ((refine fin_take (B := [_]) (h.front 6) ?_; unfold GuestR; rw [if_neg (by rw [hg]; decide)]; exact ⟨rfl, rfl⟩)))
          | ((with_reducible show New _ _ _); first | (refine New_sl h 1 rfl (fun b H' h' => ?_); skip) | (refine New_qsl h 1 rfl (fun b => rfl) (fun b H' h' => ?_); skip) | (refine New_ob h (fun b H' h' => ?_); skip) | (refine New_qob h (fun b H' h' => ?_); skip))
          | ((with_reducible show St _ _); first | (refine sg.st (h.front 0) rfl rfl (fun H' h' => ?_); skip) | (refine sg.st (h.front 1) rfl rfl (fun H' h' => ?_); skip) | (refine sg.st (h.front 2) rfl rfl (fun H' h' => ?_); skip) | (refine sg.st (h.front 3) rfl rfl (fun H' h' => ?_); skip) | (refine sg.st (h.front 4) rfl rfl (fun H' h' => ?_); skip) | (refine sg.st (h.front 5) rfl rfl (fun H' h' => ?_); skip) | (refine sg.st (h.front 6) rfl rfl (fun H' h' => ?_); skip) | (refine sg.st (h.front 7) rfl rfl (fun H' h' => ?_); skip))
          | ((with_reducible show Gate _ _ _); refine Gate.intro (fun g => ?_) (fun g => ?_) <;> (try subst g))
          ) <;> ((try ((try simp only [row, En.l, Ky.l, Ac.l, front_eq] at h'); (try simp only [front_eq, fronts_nil, fronts_cons, List.getElem?_cons_zero, List.getElem?_cons_succ, List.eraseIdx_cons_zero, List.eraseIdx_cons_succ, List.cons_append, List.nil_append, putL_cons, putL_nil, List.set_cons_zero, List.set_cons_succ, Nat.reduceAdd] at h'); clear h; have h := h'; clear h'; (try have fc := h.ci 0 rfl); (try have fl := h.li 0 rfl); (try have fc := h.ci 1 rfl); (try have fl := h.li 1 rfl); (try have fc := h.ci 2 rfl); (try have fl := h.li 2 rfl); (try have fc := h.ci 3 rfl); (try have fl := h.li 3 rfl); (try have fc := h.ci 4 rfl); (try have fl := h.li 4 rfl); (try have fc := h.ci 5 rfl); (try have fl := h.li 5 rfl); (try have fc := h.ci 6 rfl); (try have fl := h.li 6 rfl); (try have fc := h.ci 7 rfl); (try have fl := h.li 7 rfl))); ((try simp only [S, TY, reduceCtorEq, nq0, nq1, nq2, nq3, nq4, iq0, iq1, iq2, iq3, iq4, iq5, iq6, iq7, iq8, *]); (try (simp (disch := omega) only [W2, Int.cast_ofNat_Int]; (try simp only [S, TY, reduceCtorEq, nq0, nq1, nq2, nq3, nq4, iq0, iq1, iq2, iq3, iq4, iq5, iq6, iq7, iq8, *]))))))))
      all_goals (exfalso; omega)
    | true =>
      obtain ⟨oc, hoc⟩ : ∃ oc, wayM (lookT ⟨0, d, 0, 0, -1⟩ t).1 c id (enc d s ty l).length = oc := ⟨_, rfl⟩
      have hb2 : (0 ≤ c ∧ c ≤ 15) ∧ 0 ≤ id ∧ id ≤ 1099511627776 := by
        have hg' := hg
        unfold gok at hg'
        rw [hb, Bool.true_and, decide_eq_true_eq] at hg'; exact hg'
      have c1 : ¬ (c < 0) := by omega
      have c2 : ¬ ((16 : Int) ≤ c) := by omega
      have c3 : ¬ (id < 0) := by omega
      have c4 : ¬ ((1099511627776 : Int) < id) := by omega
      clear hb2
      refine Con.intro Try.func28 rfl (Nat.le_of_ble_eq_true (by kernel_rfl)) (by kernel_rfl) Try.results28 ?_
      intro H h
      ((try simp only [S, TY, reduceCtorEq, nq0, nq1, nq2, nq3, nq4, iq0, iq1, iq2, iq3, iq4, iq5, iq6, iq7, iq8]); (try (simp (disch := omega) only [W2, Int.cast_ofNat_Int]; (try simp only [S, TY, reduceCtorEq, nq0, nq1, nq2, nq3, nq4, iq0, iq1, iq2, iq3, iq4, iq5, iq6, iq7, iq8]))))
      iterate 16 (all_goals (try ((first
          | ((with_reducible show CallsH _ _ 116 _ _ _); (refine (Eth.Encode_ok d s ty hd hs hty hv).at_ h [] _ rfl (fun r B H' hr h' => ?_); unfold Eth.EncR at hr; rw [if_pos hb] at hr; obtain ⟨u, rfl, rfl⟩ := hr; obtain ⟨ua, un, uc, rfl, _, _⟩ := h'.sl 0 rfl Rd_own; skip))
          | ((with_reducible show New _ _ _); first | (refine New_sl h 1 rfl (fun b H' h' => ?_); skip) | (refine New_qsl h 1 rfl (fun b => rfl) (fun b H' h' => ?_); skip) | (refine New_ob h (fun b H' h' => ?_); skip) | (refine New_qob h (fun b H' h' => ?_); skip))
          | ((with_reducible show St _ _); first | (refine sg.st (h.front 0) rfl rfl (fun H' h' => ?_); skip) | (refine sg.st (h.front 1) rfl rfl (fun H' h' => ?_); skip) | (refine sg.st (h.front 2) rfl rfl (fun H' h' => ?_); skip) | (refine sg.st (h.front 3) rfl rfl (fun H' h' => ?_); skip) | (refine sg.st (h.front 4) rfl rfl (fun H' h' => ?_); skip) | (refine sg.st (h.front 5) rfl rfl (fun H' h' => ?_); skip) | (refine sg.st (h.front 6) rfl rfl (fun H' h' => ?_); skip) | (refine sg.st (h.front 7) rfl rfl (fun H' h' => ?_); skip))
          | ((with_reducible show Gate _ _ _); refine Gate.intro (fun g => ?_) (fun g => ?_) <;> (try subst g))
          ) <;> ((try ((try simp only [row, En.l, Ky.l, Ac.l, front_eq] at h'); (try simp only [front_eq, fronts_nil, fronts_cons, List.getElem?_cons_zero, List.getElem?_cons_succ, List.eraseIdx_cons_zero, List.eraseIdx_cons_succ, List.cons_append, List.nil_append, putL_cons, putL_nil, List.set_cons_zero, List.set_cons_succ, Nat.reduceAdd] at h'); clear h; have h := h'; clear h'; (try have fc := h.ci 0 rfl); (try have fl := h.li 0 rfl); (try have fc := h.ci 1 rfl); (try have fl := h.li 1 rfl); (try have fc := h.ci 2 rfl); (try have fl := h.li 2 rfl); (try have fc := h.ci 3 rfl); (try have fl := h.li 3 rfl); (try have fc := h.ci 4 rfl); (try have fl := h.li 4 rfl); (try have fc := h.ci 5 rfl); (try have fl := h.li 5 rfl); (try have fc := h.ci 6 rfl); (try have fl := h.li 6 rfl); (try have fc := h.ci 7 rfl); (try have fl := h.li 7 rfl))); ((try simp only [S, TY, reduceCtorEq, nq0, nq1, nq2, nq3, nq4, iq0, iq1, iq2, iq3, iq4, iq5, iq6, iq7, iq8, c1, c2, c3, c4, *]); (try (simp (disch := omega) only [W2, Int.cast_ofNat_Int]; (try simp only [S, TY, reduceCtorEq, nq0, nq1, nq2, nq3, nq4, iq0, iq1, iq2, iq3, iq4, iq5, iq6, iq7, iq8, c1, c2, c3, c4, *]))))))))
      refine Con.lend_at [tb p t, inP _ c, inP _ id, bbP _ (.slice ua un uc)] [own 5 1 (.slice ua un uc) (bv (enc d s ty l))] h [7, 6, 4, 1, 1] rfl (fun F hF hs => do_ok (z := .nilFunc) (seps_own hs 0 rfl).left ht hk2 hg1 hg2 rfl ⟨0, d, 0, 0, -1⟩ c id _ _ _) (fun r B H' hr h' => ?_)
      obtain ⟨rfl, rfl⟩ := hr
      clear h
      simp only [front_eq, fronts_nil, fronts_cons, List.getElem?_cons_zero, List.getElem?_cons_succ, List.eraseIdx_cons_zero, List.eraseIdx_cons_succ, List.cons_append, List.nil_append, putL_cons, putL_nil, List.set_cons_zero, List.set_cons_succ, Nat.reduceAdd] at h'
      have h := h'
      clear h'
      rw [hoc]
      have fine : ∀ (H : Hp) (L : List Asn), sg G (own 5 1 (.slice ua un uc) (bv (enc d s ty l)) :: tb p t :: L) H → fin (GuestR p t d s ty l c id) (.returned (.tuple #[oc.v (.slice ua un uc), .int .i64 0])) H := by
        intro H L h
        refine fin_take (B := [_, _]) h ?_
        unfold GuestR
        rw [if_pos hg, hoc]
        exact ⟨_, rfl, rfl⟩
      ((try simp only [S, TY, reduceCtorEq, nq0, nq1, nq2, nq3, nq4, iq0, iq1, iq2, iq3, iq4, iq5, iq6, iq7, iq8]); (try (simp (disch := omega) only [W2, Int.cast_ofNat_Int]; (try simp only [S, TY, reduceCtorEq, nq0, nq1, nq2, nq3, nq4, iq0, iq1, iq2, iq3, iq4, iq5, iq6, iq7, iq8]))))
      cases oc with
      | drop =>
        refine ⟨rfl, sg.st (h.front 6) rfl rfl (fun H2 h2 => ?_)⟩
        simp only [front_eq, fronts_nil, fronts_cons, List.getElem?_cons_zero, List.getElem?_cons_succ, List.eraseIdx_cons_zero, List.eraseIdx_cons_succ, List.cons_append, List.nil_append, putL_cons, putL_nil, List.set_cons_zero, List.set_cons_succ, Nat.reduceAdd] at h2
        have fl := h2.li 0 rfl
        ((try simp only [S, TY, reduceCtorEq, nq0, nq1, nq2, nq3, nq4, iq0, iq1, iq2, iq3, iq4, iq5, iq6, iq7, iq8, fl]); (try (simp (disch := omega) only [W2, Int.cast_ofNat_Int]; (try simp only [S, TY, reduceCtorEq, nq0, nq1, nq2, nq3, nq4, iq0, iq1, iq2, iq3, iq4, iq5, iq6, iq7, iq8, fl]))))
        exact fine _ _ (h2.fronts [5, 1])
      | del p g s =>
        refine ⟨rfl, sg.st (h.front 6) rfl rfl (fun H2 h2 => ?_)⟩
        simp only [front_eq, fronts_nil, fronts_cons, List.getElem?_cons_zero, List.getElem?_cons_succ, List.eraseIdx_cons_zero, List.eraseIdx_cons_succ, List.cons_append, List.nil_append, putL_cons, putL_nil, List.set_cons_zero, List.set_cons_succ, Nat.reduceAdd] at h2
        have fl := h2.li 0 rfl
        ((try simp only [S, TY, reduceCtorEq, nq0, nq1, nq2, nq3, nq4, iq0, iq1, iq2, iq3, iq4, iq5, iq6, iq7, iq8, fl]); (try (simp (disch := omega) only [W2, Int.cast_ofNat_Int]; (try simp only [S, TY, reduceCtorEq, nq0, nq1, nq2, nq3, nq4, iq0, iq1, iq2, iq3, iq4, iq5, iq6, iq7, iq8, fl]))))
        exact fine _ _ (h2.fronts [5, 1])
      | snt k o f t p g i =>
        refine ⟨rfl, sg.st (h.front 6) rfl rfl (fun H2 h2 => ?_)⟩
        simp only [front_eq, fronts_nil, fronts_cons, List.getElem?_cons_zero, List.getElem?_cons_succ, List.eraseIdx_cons_zero, List.eraseIdx_cons_succ, List.cons_append, List.nil_append, putL_cons, putL_nil, List.set_cons_zero, List.set_cons_succ, Nat.reduceAdd] at h2
        have fl := h2.li 0 rfl
        ((try simp only [S, TY, reduceCtorEq, nq0, nq1, nq2, nq3, nq4, iq0, iq1, iq2, iq3, iq4, iq5, iq6, iq7, iq8, fl]); (try (simp (disch := omega) only [W2, Int.cast_ofNat_Int]; (try simp only [S, TY, reduceCtorEq, nq0, nq1, nq2, nq3, nq4, iq0, iq1, iq2, iq3, iq4, iq5, iq6, iq7, iq8, fl]))))
        exact fine _ _ (h2.fronts [5, 1])
end Go.Proofs.Ytanhmbdcdbcfmaa.DpG
