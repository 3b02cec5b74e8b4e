/- What becomes of a packet: dpath.Tunnel. -/
import Derived.Test.YtanhmbdcdbcfmaaDpG
set_option linter.unusedVariables false
set_option linter.unusedSimpArgs false
set_option maxRecDepth 10000
set_option maxHeartbeats 2000000
namespace Go.Proofs.Ytanhmbdcdbcfmaa.DpT
open Nat renaming reduceEqDiff → nq0, reduceAdd → nq1, reduceLeDiff → nq2, reduceBEq → nq3, reduceMul → nq4
open Int renaming reduceBEq → iq0, reduceEq → iq1, reduceLT → iq2, reduceLE → iq3, reduceAdd → iq4, reduceSub → iq5, reduceMul → iq6, reduceToNat → iq7, cast_ofNat_Int → iq8
open Go Go.Sl Go.Proofs Go.Proofs.Ytanhmbdcdbcfmaa.SoI Go.Proofs.Ytanhmbdcdbcfmaa.SoM Go.Proofs.Ytanhmbdcdbcfmaa.Fl Go.Proofs.Ytanhmbdcdbcfmaa.FlT Go.Proofs.Ytanhmbdcdbcfmaa.FlL Go.Proofs.Ytanhmbdcdbcfmaa.TunP Go.Proofs.Ytanhmbdcdbcfmaa.Tun Go.Proofs.Ytanhmbdcdbcfmaa.TunD Go.Proofs.Ytanhmbdcdbcfmaa.TunA Go.Proofs.Ytanhmbdcdbcfmaa.Dp
theorem TY : abIs Try.prog 207 = true ∧
  abSz Try.prog 207 = 1 ∧
  aggN Try.prog 3 = some none ∧
  aggN Try.prog 5 = some none ∧
  aggN Try.prog 24 = some none ∧
  aggN Try.prog 26 = some (some 8) ∧
  aggN Try.prog 29 = some none ∧
  aggN Try.prog 30 = some none ∧
  aggN Try.prog 34 = some (some 13) ∧
  aggN Try.prog 194 = some (some 4) ∧
  aggN Try.prog 202 = some none ∧
  aggN Try.prog 207 = some (some 3) ∧
  aggN Try.prog 210 = some (some 5) ∧
  apI Try.prog 24 = some (5, 1, 1) ∧
  arIs Try.prog 207 = true ∧
  arLen Try.prog 207 = 3 ∧
  arSz Try.prog 207 = 1 ∧
  bIs Try.prog 26 = true ∧
  bIs Try.prog 34 = true ∧
  bIs Try.prog 194 = true ∧
  bIs Try.prog 210 = true ∧
  bySl Try.prog 24 = true ∧
  csz Try.prog 3 = some 1 ∧
  csz Try.prog 5 = some 1 ∧
  csz Try.prog 24 = some 1 ∧
  csz Try.prog 26 = some 8 ∧
  csz Try.prog 29 = some 1 ∧
  csz Try.prog 30 = some 1 ∧
  csz Try.prog 34 = some 13 ∧
  csz Try.prog 194 = some 4 ∧
  csz Try.prog 202 = some 1 ∧
  csz Try.prog 207 = some 3 ∧
  csz Try.prog 210 = some 5 ∧
  eqF Try.prog 194 = some [.i, .i, .i, .i] ∧
  eqF Try.prog 210 = some [.i, .i, .i, .i, .i] ∧
  fIs Try.prog 26 5 = true ∧
  fIs Try.prog 26 7 = true ∧
  fIs Try.prog 194 0 = true ∧
  fIs Try.prog 194 1 = true ∧
  fIs Try.prog 194 2 = true ∧
  fIs Try.prog 194 3 = true ∧
  fOff Try.prog 26 5 = 5 ∧
  fOff Try.prog 26 7 = 7 ∧
  fOff Try.prog 194 0 = 0 ∧
  fOff Try.prog 194 1 = 1 ∧
  fOff Try.prog 194 2 = 2 ∧
  fOff Try.prog 194 3 = 3 ∧
  fTy Try.prog 26 5 = 3 ∧
  fTy Try.prog 26 7 = 24 ∧
  fTy Try.prog 194 0 = 3 ∧
  fTy Try.prog 194 1 = 3 ∧
  fTy Try.prog 194 2 = 3 ∧
  fTy Try.prog 194 3 = 3 ∧
  fnIs Try.prog 202 = true ∧
  goes Try.prog 100 = true ∧
  goes Try.prog 102 = true ∧
  goes Try.prog 104 = true ∧
  goes Try.prog 105 = true ∧
  goes Try.prog 173 = true ∧
  inIs Try.prog 3 = some .i64 ∧
  inIs Try.prog 5 = some .u8 ∧
  inIs Try.prog 30 = some .i64 ∧
  plcs Try.prog 26 = [(0, 1), (1, 1), (2, 1), (3, 1), (4, 1), (5, 1), (6, 1), (7, 1)] ∧
  plcs Try.prog 34 = [(0, 1), (1, 1), (2, 1), (3, 1), (4, 1), (5, 8)] ∧
  plcs Try.prog 194 = [(0, 1), (1, 1), (2, 1), (3, 1)] ∧
  plcs Try.prog 210 = [(0, 1), (1, 1), (2, 1), (3, 1), (4, 1)] ∧
  ptIs Try.prog 29 = true ∧
  slEl Try.prog 24 = 5 ∧
  slIs Try.prog 24 = true ∧
  slSz Try.prog 24 = 1 ∧
  zcs Try.prog 26 = [.int .i64 0, .int .i64 0, .int .i64 0, .int .i64 0, .int .i64 0, .int .i64 0, .int .i64 0, .slice none 0 0] ∧
  zcs Try.prog 34 = [.int .i64 0, .int .i64 0, .int .i64 0, .int .i64 0, .slice none 0 0, .int .i64 0, .int .i64 0, .int .i64 0, .int .i64 0, .int .i64 0, .int .i64 0, .int .i64 0, .slice none 0 0] ∧
  zcs Try.prog 194 = [.int .i64 0, .int .i64 0, .int .i64 0, .int .i64 0] ∧
  zcs Try.prog 207 = [.nilFunc, .nilFunc, .nilFunc] ∧
  zcs Try.prog 210 = [.int .i64 0, .int .u64 0, .int .i64 0, .int .i64 0, .int .i64 0] ∧
  zro Try.prog 3 = some (.int .i64 0) ∧
  zro Try.prog 5 = some (.int .u8 0) ∧
  zro Try.prog 24 = some (.slice none 0 0) ∧
  zro Try.prog 26 = some (.agg #[.int .i64 0, .int .i64 0, .int .i64 0, .int .i64 0, .int .i64 0, .int .i64 0, .int .i64 0, .slice none 0 0]) ∧
  zro Try.prog 29 = some (.pointer none) ∧
  zro Try.prog 30 = some (.int .i64 0) ∧
  zro Try.prog 34 = some (.agg #[.int .i64 0, .int .i64 0, .int .i64 0, .int .i64 0, .slice none 0 0, .int .i64 0, .int .i64 0, .int .i64 0, .int .i64 0, .int .i64 0, .int .i64 0, .int .i64 0, .slice none 0 0]) ∧
  zro Try.prog 194 = some (.agg #[.int .i64 0, .int .i64 0, .int .i64 0, .int .i64 0]) ∧
  zro Try.prog 202 = some (.nilFunc) ∧
  zro Try.prog 207 = some (.agg #[.nilFunc, .nilFunc, .nilFunc]) ∧
  zro Try.prog 210 = some (.agg #[.int .i64 0, .int .u64 0, .int .i64 0, .int .i64 0, .int .i64 0]) :=
  ⟨by kernel_rfl, by kernel_rfl, by kernel_rfl, by kernel_rfl, by kernel_rfl, by kernel_rfl, by kernel_rfl, by kernel_rfl, by kernel_rfl, by kernel_rfl, by kernel_rfl, by kernel_rfl, by kernel_rfl, by kernel_rfl, by kernel_rfl, by kernel_rfl, by kernel_rfl, by kernel_rfl, by kernel_rfl, by kernel_rfl, by kernel_rfl, by kernel_rfl, by kernel_rfl, by kernel_rfl, by kernel_rfl, by kernel_rfl, by kernel_rfl, by kernel_rfl, by kernel_rfl, by kernel_rfl, by kernel_rfl, by kernel_rfl, by kernel_rfl, by kernel_rfl, by kernel_rfl, by kernel_rfl, by kernel_rfl, by kernel_rfl, by kernel_rfl, by kernel_rfl, by kernel_rfl, by kernel_rfl, by kernel_rfl, by kernel_rfl, by kernel_rfl, by kernel_rfl, by kernel_rfl, by kernel_rfl, by kernel_rfl, by kernel_rfl, by kernel_rfl, by kernel_rfl, by kernel_rfl, by kernel_rfl, by kernel_rfl, by kernel_rfl, by kernel_rfl, by kernel_rfl, by kernel_rfl, by kernel_rfl, by kernel_rfl, by kernel_rfl, by kernel_rfl, by kernel_rfl, by kernel_rfl, by kernel_rfl, by kernel_rfl, by kernel_rfl, by kernel_rfl, by kernel_rfl, by kernel_rfl, by kernel_rfl, by kernel_rfl, by kernel_rfl, by kernel_rfl, by kernel_rfl, by kernel_rfl, by kernel_rfl, by kernel_rfl, by kernel_rfl, by kernel_rfl, by kernel_rfl, by kernel_rfl, by kernel_rfl, by kernel_rfl, by kernel_rfl⟩
def D101_1 : List Note := Go.Sl.nn [0, 1, 0, 1, 0, 1, 0, 1] ++ ([(3, [1, 3, 5])] ++ (Go.Sl.nn [0, 3]))
def D106_4 : List Note := Go.Sl.nn [0, 1, 0, 1, 1, 3, 3]
theorem send_err {G : Hp} {e : Int} (he : e ≠ 0) : Con Try.prog G 104 [.agg (pkl' 0 0 0 0 0 0 0 nilS).toArray, .int .i64 e] [] (fun r B => r = Oc.drop.v nilS ∧ B = []) := by
  refine Con.intro Try.func104 rfl (Nat.le_of_ble_eq_true (by kernel_rfl)) (by kernel_rfl) Try.results104 ?_
  intro H h
  ((try simp only [S, TY, reduceCtorEq, nq0, nq1, nq2, nq3, nq4, iq0, iq1, iq2, iq3, iq4, iq5, iq6, iq7, iq8, he]); (try (simp (disch := omega) only [W2, Int.cast_ofNat_Int]; (try simp only [S, TY, reduceCtorEq, nq0, nq1, nq2, nq3, nq4, iq0, iq1, iq2, iq3, iq4, iq5, iq6, iq7, iq8, he]))))
  repeat' (((first
      | ((with_reducible show fin _ _ _); first | (exact fin_take (B := []) h ⟨rfl, rfl⟩))
      | ((with_reducible show New _ _ _); first | (refine New_sl h 1 rfl (fun b H' h' => ?_); skip) | (refine New_qsl h 1 rfl (fun b => rfl) (fun b H' h' => ?_); skip) | (refine New_ob h (fun b H' h' => ?_); skip) | (refine New_qob h (fun b H' h' => ?_); skip))
      | ((with_reducible show St _ _); first | (refine sg.st (h.front 0) rfl rfl (fun H' h' => ?_); skip) | (refine sg.st (h.front 1) rfl rfl (fun H' h' => ?_); skip) | (refine sg.st (h.front 2) rfl rfl (fun H' h' => ?_); skip) | (refine sg.st (h.front 3) rfl rfl (fun H' h' => ?_); skip) | (refine sg.st (h.front 4) rfl rfl (fun H' h' => ?_); skip) | (refine sg.st (h.front 5) rfl rfl (fun H' h' => ?_); skip) | (refine sg.st (h.front 6) rfl rfl (fun H' h' => ?_); skip) | (refine sg.st (h.front 7) rfl rfl (fun H' h' => ?_); skip))
      | ((with_reducible show Gate _ _ _); refine Gate.intro (fun g => ?_) (fun g => ?_) <;> (try subst g))
      ) <;> ((try ((try simp only [row, En.l, Ky.l, Ac.l, front_eq] at h'); (try simp only [front_eq, fronts_nil, fronts_cons, List.getElem?_cons_zero, List.getElem?_cons_succ, List.eraseIdx_cons_zero, List.eraseIdx_cons_succ, List.cons_append, List.nil_append, putL_cons, putL_nil, List.set_cons_zero, List.set_cons_succ, Nat.reduceAdd] at h'); clear h; have h := h'; clear h'; (try have fc := h.ci 0 rfl); (try have fl := h.li 0 rfl); (try have fc := h.ci 1 rfl); (try have fl := h.li 1 rfl); (try have fc := h.ci 2 rfl); (try have fl := h.li 2 rfl); (try have fc := h.ci 3 rfl); (try have fl := h.li 3 rfl); (try have fc := h.ci 4 rfl); (try have fl := h.li 4 rfl); (try have fc := h.ci 5 rfl); (try have fl := h.li 5 rfl); (try have fc := h.ci 6 rfl); (try have fl := h.li 6 rfl); (try have fc := h.ci 7 rfl); (try have fl := h.li 7 rfl))); ((try simp only [S, TY, reduceCtorEq, nq0, nq1, nq2, nq3, nq4, iq0, iq1, iq2, iq3, iq4, iq5, iq6, iq7, iq8, he, *]); (try (simp (disch := omega) only [W2, Int.cast_ofNat_Int]; (try simp only [S, TY, reduceCtorEq, nq0, nq1, nq2, nq3, nq4, iq0, iq1, iq2, iq3, iq4, iq5, iq6, iq7, iq8, he, *])))))))
abbrev pkP (q : Nat) (k o f t p g i : Int) (v : Value) : Asn := ob q (.cells (pkl' k o f t p g i v).toArray 26 (0, 0))
/-- An outcome, with the bytes that it has, and what was lent. -/
def WR (oc : Oc) (fr : List UInt8) (P : List Asn) (r : Value) (B : List Asn) : Prop := (oc = .drop ∧ r = Oc.drop.v nilS ∧ B = P) ∨ (oc ≠ .drop ∧ ∃ u, r = oc.v u ∧ B = own 5 1 u (bv fr) :: P)
theorem t1_ok {G : Hp} {v : Value} {l : List UInt8} (hv : rds G 1 v (bv l)) (hl : l.length ≤ 100000) (a : Ac) (q : Nat) (k o f t p g i : Int) : Con Try.prog G 101 [a.v, .pointer (some ⟨q, 0, none⟩)] [pkP q k o f t p g i v]
    (WR (.del a.port a.gen g) l [pkP q k o f t p g i v]) := by
  obtain ⟨va, vn, vc, rfl, -, -⟩ := hv.slice
  obtain ⟨a1, a2, a3, a4⟩ := a
  refine Con.intro Try.func101 rfl (Nat.le_of_ble_eq_true (by kernel_rfl)) (by kernel_rfl) Try.results101 ?_
  intro H h
  have fc := h.ci 0 rfl
  ((try simp only [S, TY, reduceCtorEq, nq0, nq1, nq2, nq3, nq4, iq0, iq1, iq2, iq3, iq4, iq5, iq6, iq7, iq8, fc]); (try (simp (disch := omega) only [W2, Int.cast_ofNat_Int]; (try simp only [S, TY, reduceCtorEq, nq0, nq1, nq2, nq3, nq4, iq0, iq1, iq2, iq3, iq4, iq5, iq6, iq7, iq8, fc]))); repeat ((first | (refine cl_drawi 1 D101_1 (List.range 11) (by decide) (by kernel_rfl) ?_; unfold D101_1)); simp only [S, TY, reduceCtorEq, nq0, nq1, nq2, nq3, nq4, iq0, iq1, iq2, iq3, iq4, iq5, iq6, iq7, iq8, fc]; (try (simp (disch := omega) only [W2, Int.cast_ofNat_Int]; (try simp only [S, TY, reduceCtorEq, nq0, nq1, nq2, nq3, nq4, iq0, iq1, iq2, iq3, iq4, iq5, iq6, iq7, iq8, fc])))))
  repeat' (((first
      | ((with_reducible show CallsH _ _ 102 _ _ _); (refine (TunA.Clone_ok hv (by omega)).at_ h [] _ rfl (fun r B H' hr h' => ?_); subst hr; obtain ⟨ua, un, uc, rfl, _, _⟩ := h'.sl 0 rfl Rd_own; skip))
      | ((with_reducible show fin _ _ _); first | (exact fin_take (B := [_, _]) (h.fronts [1, 2]) (.inr ⟨(by intro z; cases z), _, rfl, rfl⟩)))
      | ((with_reducible show New _ _ _); first | (refine New_sl h 1 rfl (fun b H' h' => ?_); skip) | (refine New_qsl h 1 rfl (fun b => rfl) (fun b H' h' => ?_); skip) | (refine New_ob h (fun b H' h' => ?_); skip) | (refine New_qob h (fun b H' h' => ?_); skip))
      | ((with_reducible show St _ _); first | (refine sg.st (h.front 0) rfl rfl (fun H' h' => ?_); skip) | (refine sg.st (h.front 1) rfl rfl (fun H' h' => ?_); skip) | (refine sg.st (h.front 2) rfl rfl (fun H' h' => ?_); skip) | (refine sg.st (h.front 3) rfl rfl (fun H' h' => ?_); skip) | (refine sg.st (h.front 4) rfl rfl (fun H' h' => ?_); skip) | (refine sg.st (h.front 5) rfl rfl (fun H' h' => ?_); skip) | (refine sg.st (h.front 6) rfl rfl (fun H' h' => ?_); skip) | (refine sg.st (h.front 7) rfl rfl (fun H' h' => ?_); skip))
      | ((with_reducible show Gate _ _ _); refine Gate.intro (fun g => ?_) (fun g => ?_) <;> (try subst g))
      ) <;> ((try ((try simp only [row, En.l, Ky.l, Ac.l, front_eq] at h'); (try simp only [front_eq, fronts_nil, fronts_cons, List.getElem?_cons_zero, List.getElem?_cons_succ, List.eraseIdx_cons_zero, List.eraseIdx_cons_succ, List.cons_append, List.nil_append, putL_cons, putL_nil, List.set_cons_zero, List.set_cons_succ, Nat.reduceAdd] at h'); clear h; have h := h'; clear h'; (try have fc := h.ci 0 rfl); (try have fl := h.li 0 rfl); (try have fc := h.ci 1 rfl); (try have fl := h.li 1 rfl); (try have fc := h.ci 2 rfl); (try have fl := h.li 2 rfl); (try have fc := h.ci 3 rfl); (try have fl := h.li 3 rfl); (try have fc := h.ci 4 rfl); (try have fl := h.li 4 rfl); (try have fc := h.ci 5 rfl); (try have fl := h.li 5 rfl); (try have fc := h.ci 6 rfl); (try have fl := h.li 6 rfl); (try have fc := h.ci 7 rfl); (try have fl := h.li 7 rfl))); ((try simp only [S, TY, reduceCtorEq, nq0, nq1, nq2, nq3, nq4, iq0, iq1, iq2, iq3, iq4, iq5, iq6, iq7, iq8, *]); (try (simp (disch := omega) only [W2, Int.cast_ofNat_Int]; (try simp only [S, TY, reduceCtorEq, nq0, nq1, nq2, nq3, nq4, iq0, iq1, iq2, iq3, iq4, iq5, iq6, iq7, iq8, *]))); repeat ((first | (refine cl_drawi 1 D101_1 (List.range 11) (by decide) (by kernel_rfl) ?_; unfold D101_1)); simp only [S, TY, reduceCtorEq, nq0, nq1, nq2, nq3, nq4, iq0, iq1, iq2, iq3, iq4, iq5, iq6, iq7, iq8, *]; (try (simp (disch := omega) only [W2, Int.cast_ofNat_Int]; (try simp only [S, TY, reduceCtorEq, nq0, nq1, nq2, nq3, nq4, iq0, iq1, iq2, iq3, iq4, iq5, iq6, iq7, iq8, *]))))))))
theorem t2_ok {G : Hp} {v : Value} (x : Pk) (hv : rds G 1 v (bv x.fr)) (hl : x.fr.length ≤ 100000) (a : Ac) (q : Nat) : Con Try.prog G 103 [a.v, .pointer (some ⟨q, 0, none⟩)] [pkP q x.k x.o x.f x.t x.p x.g x.i v]
    (WR (if agE x a.to a.gen = 0 then .snt 2 x.o x.t a.to x.p a.gen x.i else .drop) x.fr [pkP q x.k x.o x.f x.t x.p x.g x.i v]) := by
  obtain ⟨va, vn, vc, rfl, -, -⟩ := hv.slice
  obtain ⟨a1, a2, a3, a4⟩ := a
  show Con _ _ _ _ _ (WR (if agE x a3 a4 = 0 then .snt 2 x.o x.t a3 x.p a4 x.i else .drop) x.fr _)
  by_cases he : agE x a3 a4 = 0
  · rw [if_pos he]
    have hok : TunP.right 2 x.o x.t a3 x.p a4 x.i x.fr.length = true := by
      unfold agE at he
      split at he
      · cases he
      · split at he
        · cases he
        · split at he
          · cases he
          · rename_i h3
            have : (nxt x a3 a4).ok = true := by cases e : (nxt x a3 a4).ok with | true => rfl | false => exact absurd e h3
            exact this
    refine Con.intro Try.func103 rfl (Nat.le_of_ble_eq_true (by kernel_rfl)) (by kernel_rfl) Try.results103 ?_
    intro H h
    have fc := h.ci 0 rfl
    have fl := h.li 0 rfl
    ((try simp only [S, TY, reduceCtorEq, nq0, nq1, nq2, nq3, nq4, iq0, iq1, iq2, iq3, iq4, iq5, iq6, iq7, iq8, fc, fl]); (try (simp (disch := omega) only [W2, Int.cast_ofNat_Int]; (try simp only [S, TY, reduceCtorEq, nq0, nq1, nq2, nq3, nq4, iq0, iq1, iq2, iq3, iq4, iq5, iq6, iq7, iq8, fc, fl]))))
    iterate 12 (all_goals (try ((first
        | ((with_reducible show CallsH _ _ 105 _ _ _); (refine (TunA.Again_ok x a3 a4 hv hl).at_ h [] _ rfl (fun r B H' hr h' => ?_); unfold TunA.AgR at hr; rw [if_pos he] at hr; obtain ⟨u, rfl, rfl⟩ := hr; obtain ⟨ua, un, uc, rfl, _, _⟩ := h'.sl 0 rfl Rd_own; skip))
        | ((with_reducible show CallsH _ _ 104 _ _ _); (refine Con.lend_at [] [own 5 1 _ (bv x.fr)] h [0] rfl (fun F hF hs => send_ok 2 x.o x.t a3 x.p a4 x.i (seps_own hs 0 rfl).left) (fun r B H' hr h' => ?_); obtain ⟨rfl, rfl⟩ := hr; rw [show sendM 2 x.o x.t a3 x.p a4 x.i x.fr.length = .snt 2 x.o x.t a3 x.p a4 x.i by unfold sendM; rw [if_pos hok]]; skip))
        | ((with_reducible show fin _ _ _); first | (exact fin_take (B := [_, _]) (h.fronts [1, 2]) (.inr ⟨(by intro z; cases z), _, rfl, rfl⟩)))
        | ((with_reducible show New _ _ _); first | (refine New_sl h 1 rfl (fun b H' h' => ?_); skip) | (refine New_qsl h 1 rfl (fun b => rfl) (fun b H' h' => ?_); skip) | (refine New_ob h (fun b H' h' => ?_); skip) | (refine New_qob h (fun b H' h' => ?_); skip))
        | ((with_reducible show St _ _); first | (refine sg.st (h.front 0) rfl rfl (fun H' h' => ?_); skip) | (refine sg.st (h.front 1) rfl rfl (fun H' h' => ?_); skip) | (refine sg.st (h.front 2) rfl rfl (fun H' h' => ?_); skip) | (refine sg.st (h.front 3) rfl rfl (fun H' h' => ?_); skip) | (refine sg.st (h.front 4) rfl rfl (fun H' h' => ?_); skip) | (refine sg.st (h.front 5) rfl rfl (fun H' h' => ?_); skip) | (refine sg.st (h.front 6) rfl rfl (fun H' h' => ?_); skip) | (refine sg.st (h.front 7) rfl rfl (fun H' h' => ?_); skip))
        | ((with_reducible show Gate _ _ _); refine Gate.intro (fun g => ?_) (fun g => ?_) <;> (try subst g))
        ) <;> ((try ((try simp only [row, En.l, Ky.l, Ac.l, front_eq] at h'); (try simp only [front_eq, fronts_nil, fronts_cons, List.getElem?_cons_zero, List.getElem?_cons_succ, List.eraseIdx_cons_zero, List.eraseIdx_cons_succ, List.cons_append, List.nil_append, putL_cons, putL_nil, List.set_cons_zero, List.set_cons_succ, Nat.reduceAdd] at h'); clear h; have h := h'; clear h'; (try have fc := h.ci 0 rfl); (try have fl := h.li 0 rfl); (try have fc := h.ci 1 rfl); (try have fl := h.li 1 rfl); (try have fc := h.ci 2 rfl); (try have fl := h.li 2 rfl); (try have fc := h.ci 3 rfl); (try have fl := h.li 3 rfl); (try have fc := h.ci 4 rfl); (try have fl := h.li 4 rfl); (try have fc := h.ci 5 rfl); (try have fl := h.li 5 rfl); (try have fc := h.ci 6 rfl); (try have fl := h.li 6 rfl); (try have fc := h.ci 7 rfl); (try have fl := h.li 7 rfl))); ((try simp only [S, TY, reduceCtorEq, nq0, nq1, nq2, nq3, nq4, iq0, iq1, iq2, iq3, iq4, iq5, iq6, iq7, iq8, *]); (try (simp (disch := omega) only [W2, Int.cast_ofNat_Int]; (try simp only [S, TY, reduceCtorEq, nq0, nq1, nq2, nq3, nq4, iq0, iq1, iq2, iq3, iq4, iq5, iq6, iq7, iq8, *]))))))))
  · rw [if_neg he]
    refine Con.intro Try.func103 rfl (Nat.le_of_ble_eq_true (by kernel_rfl)) (by kernel_rfl) Try.results103 ?_
    intro H h
    have fc := h.ci 0 rfl
    have fl := h.li 0 rfl
    ((try simp only [S, TY, reduceCtorEq, nq0, nq1, nq2, nq3, nq4, iq0, iq1, iq2, iq3, iq4, iq5, iq6, iq7, iq8, fc, fl]); (try (simp (disch := omega) only [W2, Int.cast_ofNat_Int]; (try simp only [S, TY, reduceCtorEq, nq0, nq1, nq2, nq3, nq4, iq0, iq1, iq2, iq3, iq4, iq5, iq6, iq7, iq8, fc, fl]))))
    iterate 12 (all_goals (try ((first
        | ((with_reducible show CallsH _ _ 105 _ _ _); (refine (TunA.Again_ok x a3 a4 hv hl).at_ h [] _ rfl (fun r B H' hr h' => ?_); unfold TunA.AgR at hr; rw [if_neg he] at hr; obtain ⟨rfl, rfl⟩ := hr; skip))
        | ((with_reducible show CallsH _ _ 104 _ _ _); (refine (send_err he).at_ h [] _ rfl (fun r B H' hr h' => ?_); obtain ⟨rfl, rfl⟩ := hr; skip))
        | ((with_reducible show fin _ _ _); first | (exact fin_take (B := [_]) (h.front 2) (.inl ⟨rfl, rfl, rfl⟩)))
        | ((with_reducible show New _ _ _); first | (refine New_sl h 1 rfl (fun b H' h' => ?_); skip) | (refine New_qsl h 1 rfl (fun b => rfl) (fun b H' h' => ?_); skip) | (refine New_ob h (fun b H' h' => ?_); skip) | (refine New_qob h (fun b H' h' => ?_); skip))
        | ((with_reducible show St _ _); first | (refine sg.st (h.front 0) rfl rfl (fun H' h' => ?_); skip) | (refine sg.st (h.front 1) rfl rfl (fun H' h' => ?_); skip) | (refine sg.st (h.front 2) rfl rfl (fun H' h' => ?_); skip) | (refine sg.st (h.front 3) rfl rfl (fun H' h' => ?_); skip) | (refine sg.st (h.front 4) rfl rfl (fun H' h' => ?_); skip) | (refine sg.st (h.front 5) rfl rfl (fun H' h' => ?_); skip) | (refine sg.st (h.front 6) rfl rfl (fun H' h' => ?_); skip) | (refine sg.st (h.front 7) rfl rfl (fun H' h' => ?_); skip))
        | ((with_reducible show Gate _ _ _); refine Gate.intro (fun g => ?_) (fun g => ?_) <;> (try subst g))
        ) <;> ((try ((try simp only [row, En.l, Ky.l, Ac.l, front_eq] at h'); (try simp only [front_eq, fronts_nil, fronts_cons, List.getElem?_cons_zero, List.getElem?_cons_succ, List.eraseIdx_cons_zero, List.eraseIdx_cons_succ, List.cons_append, List.nil_append, putL_cons, putL_nil, List.set_cons_zero, List.set_cons_succ, Nat.reduceAdd] at h'); clear h; have h := h'; clear h'; (try have fc := h.ci 0 rfl); (try have fl := h.li 0 rfl); (try have fc := h.ci 1 rfl); (try have fl := h.li 1 rfl); (try have fc := h.ci 2 rfl); (try have fl := h.li 2 rfl); (try have fc := h.ci 3 rfl); (try have fl := h.li 3 rfl); (try have fc := h.ci 4 rfl); (try have fl := h.li 4 rfl); (try have fc := h.ci 5 rfl); (try have fl := h.li 5 rfl); (try have fc := h.ci 6 rfl); (try have fl := h.li 6 rfl); (try have fc := h.ci 7 rfl); (try have fl := h.li 7 rfl))); ((try simp only [S, TY, reduceCtorEq, nq0, nq1, nq2, nq3, nq4, iq0, iq1, iq2, iq3, iq4, iq5, iq6, iq7, iq8, *]); (try (simp (disch := omega) only [W2, Int.cast_ofNat_Int]; (try simp only [S, TY, reduceCtorEq, nq0, nq1, nq2, nq3, nq4, iq0, iq1, iq2, iq3, iq4, iq5, iq6, iq7, iq8, *]))))))))
/-- What becomes of a packet by an action. -/
def wayT (a : Ac) (x : Pk) : Oc := if a.kind = 1 then .del a.port a.gen x.g else if a.kind = 2 then (if agE x a.to a.gen = 0 then .snt 2 x.o x.t a.to x.p a.gen x.i else .drop) else .drop
abbrev waysT (z : Value) (q : Nat) : Value := .agg #[z, .func (.func 101) #[] #[.pointer (some ⟨q, 0, none⟩)], .func (.func 103) #[] #[.pointer (some ⟨q, 0, none⟩)]]
theorem doT_ok {G : Hp} {v z : Value} {p : Nat} {t : List En} (x : Pk) (hv : rds G 1 v (bv x.fr)) (hl : x.fr.length ≤ 100000) (ht : t.length ≤ 1000) (hk2 : goes Try.prog 193 = true) (hg1 : goes Try.prog 101 = true) (hg2 : goes Try.prog 103 = true)
    (hz : z.oneCell' = true) (k : Ky) (q : Nat) : Con Try.prog G 106 [waysT z q, .pointer (some ⟨p, 0, none⟩), k.v] [tb p t, pkP q x.k x.o x.f x.t x.p x.g x.i v]
    (WR (wayT (lookT k t).1 x) x.fr [tb p t, pkP q x.k x.o x.f x.t x.p x.g x.i v]) := by
  obtain ⟨va, vn, vc, rfl, -, -⟩ := hv.slice
  obtain ⟨⟨⟨a1, a2, a3, a4⟩, ab⟩, ha⟩ : ∃ r, lookT k t = r := ⟨_, rfl⟩
  rw [ha]
  simp only
  obtain ⟨k1, k2, k3, k4, k5⟩ := k
  by_cases e1 : a1 = 1
  · subst e1
    rw [show wayT ⟨1, a2, a3, a4⟩ x = .del a2 a4 x.g from rfl]
    refine Con.intro Try.func106 rfl (Nat.le_of_ble_eq_true (by kernel_rfl)) (by kernel_rfl) Try.results106 ?_
    intro H h
    ((try simp only [S, TY, reduceCtorEq, nq0, nq1, nq2, nq3, nq4, iq0, iq1, iq2, iq3, iq4, iq5, iq6, iq7, iq8, hg1, hg2]); (try (simp (disch := omega) only [W2, Int.cast_ofNat_Int]; (try simp only [S, TY, reduceCtorEq, nq0, nq1, nq2, nq3, nq4, iq0, iq1, iq2, iq3, iq4, iq5, iq6, iq7, iq8, hg1, hg2]))); repeat ((first | (refine cl_drawi 4 D106_4 (List.range 7) (by decide) (by kernel_rfl) ?_; unfold D106_4)); simp only [S, TY, reduceCtorEq, nq0, nq1, nq2, nq3, nq4, iq0, iq1, iq2, iq3, iq4, iq5, iq6, iq7, iq8, hg1, hg2]; (try (simp (disch := omega) only [W2, Int.cast_ofNat_Int]; (try simp only [S, TY, reduceCtorEq, nq0, nq1, nq2, nq3, nq4, iq0, iq1, iq2, iq3, iq4, iq5, iq6, iq7, iq8, hg1, hg2])))))
    iterate 14 (all_goals (try ((first
        | ((with_reducible show CallsH _ _ 173 _ _ _); (refine (Look_ok (l := t) hk2 ⟨k1, k2, k3, k4, k5⟩ (by omega)).at_ h [3] _ rfl (fun r B H' hr h' => ?_); obtain ⟨rfl, rfl⟩ := hr; rw [ha]; skip))
        | ((with_reducible show CallsH _ _ 101 _ _ _); (refine (t1_ok hv hl ⟨1, a2, a3, a4⟩ q _ _ _ _ _ _ _).at_ h [5] _ rfl (fun r B H' hr h' => ?_); obtain ⟨z1, -⟩ | ⟨-, u, rfl, rfl⟩ := hr; (cases z1); obtain ⟨ua, un, uc, rfl, _, _⟩ := h'.sl 0 rfl Rd_own; skip))
        | ((with_reducible show fin _ _ _); first | (exact fin_take (B := [_, _, _]) (h.fronts [1, 3, 1]) (.inr ⟨(by intro z; cases z), _, rfl, rfl⟩)))
        | ((with_reducible show New _ _ _); first | (refine New_sl h 1 rfl (fun b H' h' => ?_); skip) | (refine New_qsl h 1 rfl (fun b => rfl) (fun b H' h' => ?_); skip) | (refine New_ob h (fun b H' h' => ?_); skip) | (refine New_qob h (fun b H' h' => ?_); skip))
        | ((with_reducible show St _ _); first | (refine sg.st (h.front 0) rfl rfl (fun H' h' => ?_); skip) | (refine sg.st (h.front 1) rfl rfl (fun H' h' => ?_); skip) | (refine sg.st (h.front 2) rfl rfl (fun H' h' => ?_); skip) | (refine sg.st (h.front 3) rfl rfl (fun H' h' => ?_); skip) | (refine sg.st (h.front 4) rfl rfl (fun H' h' => ?_); skip) | (refine sg.st (h.front 5) rfl rfl (fun H' h' => ?_); skip) | (refine sg.st (h.front 6) rfl rfl (fun H' h' => ?_); skip) | (refine sg.st (h.front 7) rfl rfl (fun H' h' => ?_); skip))
        | ((with_reducible show Gate _ _ _); refine Gate.intro (fun g => ?_) (fun g => ?_) <;> (try subst g))
        ) <;> ((try ((try simp only [row, En.l, Ky.l, Ac.l, front_eq] at h'); (try simp only [front_eq, fronts_nil, fronts_cons, List.getElem?_cons_zero, List.getElem?_cons_succ, List.eraseIdx_cons_zero, List.eraseIdx_cons_succ, List.cons_append, List.nil_append, putL_cons, putL_nil, List.set_cons_zero, List.set_cons_succ, Nat.reduceAdd] at h'); clear h; have h := h'; clear h'; (try have fc := h.ci 0 rfl); (try have fl := h.li 0 rfl); (try have fc := h.ci 1 rfl); (try have fl := h.li 1 rfl); (try have fc := h.ci 2 rfl); (try have fl := h.li 2 rfl); (try have fc := h.ci 3 rfl); (try have fl := h.li 3 rfl); (try have fc := h.ci 4 rfl); (try have fl := h.li 4 rfl); (try have fc := h.ci 5 rfl); (try have fl := h.li 5 rfl); (try have fc := h.ci 6 rfl); (try have fl := h.li 6 rfl); (try have fc := h.ci 7 rfl); (try have fl := h.li 7 rfl))); ((try simp only [S, TY, reduceCtorEq, nq0, nq1, nq2, nq3, nq4, iq0, iq1, iq2, iq3, iq4, iq5, iq6, iq7, iq8, hg1, hg2, *]); (try (simp (disch := omega) only [W2, Int.cast_ofNat_Int]; (try simp only [S, TY, reduceCtorEq, nq0, nq1, nq2, nq3, nq4, iq0, iq1, iq2, iq3, iq4, iq5, iq6, iq7, iq8, hg1, hg2, *]))); repeat ((first | (refine cl_drawi 4 D106_4 (List.range 7) (by decide) (by kernel_rfl) ?_; unfold D106_4)); simp only [S, TY, reduceCtorEq, nq0, nq1, nq2, nq3, nq4, iq0, iq1, iq2, iq3, iq4, iq5, iq6, iq7, iq8, hg1, hg2, *]; (try (simp (disch := omega) only [W2, Int.cast_ofNat_Int]; (try simp only [S, TY, reduceCtorEq, nq0, nq1, nq2, nq3, nq4, iq0, iq1, iq2, iq3, iq4, iq5, iq6, iq7, iq8, hg1, hg2, *])))))))))
  · by_cases e2 : a1 = 2
    · subst e2
      rw [show wayT ⟨2, a2, a3, a4⟩ x = if agE x a3 a4 = 0 then .snt 2 x.o x.t a3 x.p a4 x.i else .drop from rfl]
      by_cases he : agE x a3 a4 = 0
      · rw [if_pos he]
        refine Con.intro Try.func106 rfl (Nat.le_of_ble_eq_true (by kernel_rfl)) (by kernel_rfl) Try.results106 ?_
        intro H h
        ((try simp only [S, TY, reduceCtorEq, nq0, nq1, nq2, nq3, nq4, iq0, iq1, iq2, iq3, iq4, iq5, iq6, iq7, iq8, hg1, hg2]); (try (simp (disch := omega) only [W2, Int.cast_ofNat_Int]; (try simp only [S, TY, reduceCtorEq, nq0, nq1, nq2, nq3, nq4, iq0, iq1, iq2, iq3, iq4, iq5, iq6, iq7, iq8, hg1, hg2]))); repeat ((first | (refine cl_drawi 4 D106_4 (List.range 7) (by decide) (by kernel_rfl) ?_; unfold D106_4)); simp only [S, TY, reduceCtorEq, nq0, nq1, nq2, nq3, nq4, iq0, iq1, iq2, iq3, iq4, iq5, iq6, iq7, iq8, hg1, hg2]; (try (simp (disch := omega) only [W2, Int.cast_ofNat_Int]; (try simp only [S, TY, reduceCtorEq, nq0, nq1, nq2, nq3, nq4, iq0, iq1, iq2, iq3, iq4, iq5, iq6, iq7, iq8, hg1, hg2])))))
        iterate 14 (all_goals (try ((first
            | ((with_reducible show CallsH _ _ 173 _ _ _); (refine (Look_ok (l := t) hk2 ⟨k1, k2, k3, k4, k5⟩ (by omega)).at_ h [3] _ rfl (fun r B H' hr h' => ?_); obtain ⟨rfl, rfl⟩ := hr; rw [ha]; skip))
            | ((with_reducible show CallsH _ _ 103 _ _ _); (refine (t2_ok x hv hl ⟨2, a2, a3, a4⟩ q).at_ h [5] _ rfl (fun r B H' hr h' => ?_); rw [show (if agE x (⟨2, a2, a3, a4⟩ : Ac).to (⟨2, a2, a3, a4⟩ : Ac).gen = 0 then Oc.snt 2 x.o x.t (⟨2, a2, a3, a4⟩ : Ac).to x.p (⟨2, a2, a3, a4⟩ : Ac).gen x.i else .drop) = .snt 2 x.o x.t a3 x.p a4 x.i from if_pos he] at hr; obtain ⟨z1, -⟩ | ⟨-, u, rfl, rfl⟩ := hr; (cases z1); obtain ⟨ua, un, uc, rfl, _, _⟩ := h'.sl 0 rfl Rd_own; skip))
            | ((with_reducible show fin _ _ _); first | (exact fin_take (B := [_, _, _]) (h.fronts [1, 3, 1]) (.inr ⟨(by intro z; cases z), _, rfl, rfl⟩)))
            | ((with_reducible show New _ _ _); first | (refine New_sl h 1 rfl (fun b H' h' => ?_); skip) | (refine New_qsl h 1 rfl (fun b => rfl) (fun b H' h' => ?_); skip) | (refine New_ob h (fun b H' h' => ?_); skip) | (refine New_qob h (fun b H' h' => ?_); skip))
            | ((with_reducible show St _ _); first | (refine sg.st (h.front 0) rfl rfl (fun H' h' => ?_); skip) | (refine sg.st (h.front 1) rfl rfl (fun H' h' => ?_); skip) | (refine sg.st (h.front 2) rfl rfl (fun H' h' => ?_); skip) | (refine sg.st (h.front 3) rfl rfl (fun H' h' => ?_); skip) | (refine sg.st (h.front 4) rfl rfl (fun H' h' => ?_); skip) | (refine sg.st (h.front 5) rfl rfl (fun H' h' => ?_); skip) | (refine sg.st (h.front 6) rfl rfl (fun H' h' => ?_); skip) | (refine sg.st (h.front 7) rfl rfl (fun H' h' => ?_); skip))
            | ((with_reducible show Gate _ _ _); refine Gate.intro (fun g => ?_) (fun g => ?_) <;> (try subst g))
            ) <;> ((try ((try simp only [row, En.l, Ky.l, Ac.l, front_eq] at h'); (try simp only [front_eq, fronts_nil, fronts_cons, List.getElem?_cons_zero, List.getElem?_cons_succ, List.eraseIdx_cons_zero, List.eraseIdx_cons_succ, List.cons_append, List.nil_append, putL_cons, putL_nil, List.set_cons_zero, List.set_cons_succ, Nat.reduceAdd] at h'); clear h; have h := h'; clear h'; (try have fc := h.ci 0 rfl); (try have fl := h.li 0 rfl); (try have fc := h.ci 1 rfl); (try have fl := h.li 1 rfl); (try have fc := h.ci 2 rfl); (try have fl := h.li 2 rfl); (try have fc := h.ci 3 rfl); (try have fl := h.li 3 rfl); (try have fc := h.ci 4 rfl); (try have fl := h.li 4 rfl); (try have fc := h.ci 5 rfl); (try have fl := h.li 5 rfl); (try have fc := h.ci 6 rfl); (try have fl := h.li 6 rfl); (try have fc := h.ci 7 rfl); (try have fl := h.li 7 rfl))); ((try simp only [S, TY, reduceCtorEq, nq0, nq1, nq2, nq3, nq4, iq0, iq1, iq2, iq3, iq4, iq5, iq6, iq7, iq8, hg1, hg2, *]); (try (simp (disch := omega) only [W2, Int.cast_ofNat_Int]; (try simp only [S, TY, reduceCtorEq, nq0, nq1, nq2, nq3, nq4, iq0, iq1, iq2, iq3, iq4, iq5, iq6, iq7, iq8, hg1, hg2, *]))); repeat ((first | (refine cl_drawi 4 D106_4 (List.range 7) (by decide) (by kernel_rfl) ?_; unfold D106_4)); simp only [S, TY, reduceCtorEq, nq0, nq1, nq2, nq3, nq4, iq0, iq1, iq2, iq3, iq4, iq5, iq6, iq7, iq8, hg1, hg2, *]; (try (simp (disch := omega) only [W2, Int.cast_ofNat_Int]; (try simp only [S, TY, reduceCtorEq, nq0, nq1, nq2, nq3, nq4, iq0, iq1, iq2, iq3, iq4, iq5, iq6, iq7, iq8, hg1, hg2, *])))))))))
      · rw [if_neg he]
        refine Con.intro Try.func106 rfl (Nat.le_of_ble_eq_true (by kernel_rfl)) (by kernel_rfl) Try.results106 ?_
        intro H h
        ((try simp only [S, TY, reduceCtorEq, nq0, nq1, nq2, nq3, nq4, iq0, iq1, iq2, iq3, iq4, iq5, iq6, iq7, iq8, hg1, hg2]); (try (simp (disch := omega) only [W2, Int.cast_ofNat_Int]; (try simp only [S, TY, reduceCtorEq, nq0, nq1, nq2, nq3, nq4, iq0, iq1, iq2, iq3, iq4, iq5, iq6, iq7, iq8, hg1, hg2]))); repeat ((first | (refine cl_drawi 4 D106_4 (List.range 7) (by decide) (by kernel_rfl) ?_; unfold D106_4)); simp only [S, TY, reduceCtorEq, nq0, nq1, nq2, nq3, nq4, iq0, iq1, iq2, iq3, iq4, iq5, iq6, iq7, iq8, hg1, hg2]; (try (simp (disch := omega) only [W2, Int.cast_ofNat_Int]; (try simp only [S, TY, reduceCtorEq, nq0, nq1, nq2, nq3, nq4, iq0, iq1, iq2, iq3, iq4, iq5, iq6, iq7, iq8, hg1, hg2])))))
        iterate 14 (all_goals (try ((first
            | ((with_reducible show CallsH _ _ 173 _ _ _); (refine (Look_ok (l := t) hk2 ⟨k1, k2, k3, k4, k5⟩ (by omega)).at_ h [3] _ rfl (fun r B H' hr h' => ?_); obtain ⟨rfl, rfl⟩ := hr; rw [ha]; skip))
            | ((with_reducible show CallsH _ _ 103 _ _ _); (refine (t2_ok x hv hl ⟨2, a2, a3, a4⟩ q).at_ h [5] _ rfl (fun r B H' hr h' => ?_); rw [show (if agE x (⟨2, a2, a3, a4⟩ : Ac).to (⟨2, a2, a3, a4⟩ : Ac).gen = 0 then Oc.snt 2 x.o x.t (⟨2, a2, a3, a4⟩ : Ac).to x.p (⟨2, a2, a3, a4⟩ : Ac).gen x.i else .drop) = .drop from if_neg he] at hr; obtain ⟨-, rfl, rfl⟩ | ⟨z1, -⟩ := hr; rotate_left; (exact absurd rfl z1); skip))
            | ((with_reducible show fin _ _ _); first | (exact fin_take (B := [_, _]) (h.fronts [3, 1]) (.inl ⟨rfl, rfl, rfl⟩)))
            | ((with_reducible show New _ _ _); first | (refine New_sl h 1 rfl (fun b H' h' => ?_); skip) | (refine New_qsl h 1 rfl (fun b => rfl) (fun b H' h' => ?_); skip) | (refine New_ob h (fun b H' h' => ?_); skip) | (refine New_qob h (fun b H' h' => ?_); skip))
            | ((with_reducible show St _ _); first | (refine sg.st (h.front 0) rfl rfl (fun H' h' => ?_); skip) | (refine sg.st (h.front 1) rfl rfl (fun H' h' => ?_); skip) | (refine sg.st (h.front 2) rfl rfl (fun H' h' => ?_); skip) | (refine sg.st (h.front 3) rfl rfl (fun H' h' => ?_); skip) | (refine sg.st (h.front 4) rfl rfl (fun H' h' => ?_); skip) | (refine sg.st (h.front 5) rfl rfl (fun H' h' => ?_); skip) | (refine sg.st (h.front 6) rfl rfl (fun H' h' => ?_); skip) | (refine sg.st (h.front 7) rfl rfl (fun H' h' => ?_); skip))
            | ((with_reducible show Gate _ _ _); refine Gate.intro (fun g => ?_) (fun g => ?_) <;> (try subst g))
            ) <;> ((try ((try simp only [row, En.l, Ky.l, Ac.l, front_eq] at h'); (try simp only [front_eq, fronts_nil, fronts_cons, List.getElem?_cons_zero, List.getElem?_cons_succ, List.eraseIdx_cons_zero, List.eraseIdx_cons_succ, List.cons_append, List.nil_append, putL_cons, putL_nil, List.set_cons_zero, List.set_cons_succ, Nat.reduceAdd] at h'); clear h; have h := h'; clear h'; (try have fc := h.ci 0 rfl); (try have fl := h.li 0 rfl); (try have fc := h.ci 1 rfl); (try have fl := h.li 1 rfl); (try have fc := h.ci 2 rfl); (try have fl := h.li 2 rfl); (try have fc := h.ci 3 rfl); (try have fl := h.li 3 rfl); (try have fc := h.ci 4 rfl); (try have fl := h.li 4 rfl); (try have fc := h.ci 5 rfl); (try have fl := h.li 5 rfl); (try have fc := h.ci 6 rfl); (try have fl := h.li 6 rfl); (try have fc := h.ci 7 rfl); (try have fl := h.li 7 rfl))); ((try simp only [S, TY, reduceCtorEq, nq0, nq1, nq2, nq3, nq4, iq0, iq1, iq2, iq3, iq4, iq5, iq6, iq7, iq8, hg1, hg2, *]); (try (simp (disch := omega) only [W2, Int.cast_ofNat_Int]; (try simp only [S, TY, reduceCtorEq, nq0, nq1, nq2, nq3, nq4, iq0, iq1, iq2, iq3, iq4, iq5, iq6, iq7, iq8, hg1, hg2, *]))); repeat ((first | (refine cl_drawi 4 D106_4 (List.range 7) (by decide) (by kernel_rfl) ?_; unfold D106_4)); simp only [S, TY, reduceCtorEq, nq0, nq1, nq2, nq3, nq4, iq0, iq1, iq2, iq3, iq4, iq5, iq6, iq7, iq8, hg1, hg2, *]; (try (simp (disch := omega) only [W2, Int.cast_ofNat_Int]; (try simp only [S, TY, reduceCtorEq, nq0, nq1, nq2, nq3, nq4, iq0, iq1, iq2, iq3, iq4, iq5, iq6, iq7, iq8, hg1, hg2, *])))))))))
    · rw [show wayT ⟨a1, a2, a3, a4⟩ x = .drop by unfold wayT; rw [if_neg e1, if_neg e2]]
      refine Con.intro Try.func106 rfl (Nat.le_of_ble_eq_true (by kernel_rfl)) (by kernel_rfl) Try.results106 ?_
      intro H h
      ((try simp only [S, TY, reduceCtorEq, nq0, nq1, nq2, nq3, nq4, iq0, iq1, iq2, iq3, iq4, iq5, iq6, iq7, iq8]); (try (simp (disch := omega) only [W2, Int.cast_ofNat_Int]; (try simp only [S, TY, reduceCtorEq, nq0, nq1, nq2, nq3, nq4, iq0, iq1, iq2, iq3, iq4, iq5, iq6, iq7, iq8]))); repeat ((first | (refine cl_drawi 4 D106_4 (List.range 7) (by decide) (by kernel_rfl) ?_; unfold D106_4)); simp only [S, TY, reduceCtorEq, nq0, nq1, nq2, nq3, nq4, iq0, iq1, iq2, iq3, iq4, iq5, iq6, iq7, iq8]; (try (simp (disch := omega) only [W2, Int.cast_ofNat_Int]; (try simp only [S, TY, reduceCtorEq, nq0, nq1, nq2, nq3, nq4, iq0, iq1, iq2, iq3, iq4, iq5, iq6, iq7, iq8])))))
      iterate 14 (all_goals (try ((first
          | ((with_reducible show CallsH _ _ 173 _ _ _); (refine (Look_ok (l := t) hk2 ⟨k1, k2, k3, k4, k5⟩ (by omega)).at_ h [3] _ rfl (fun r B H' hr h' => ?_); obtain ⟨rfl, rfl⟩ := hr; rw [ha]; skip))
          | ((with_reducible show fin _ _ _); first | (exact fin_take (B := [_, _]) (h.fronts [2, 4]) (.inl ⟨rfl, rfl, rfl⟩)))
          | ((with_reducible show New _ _ _); first | (refine New_sl h 1 rfl (fun b H' h' => ?_); skip) | (refine New_qsl h 1 rfl (fun b => rfl) (fun b H' h' => ?_); skip) | (refine New_ob h (fun b H' h' => ?_); skip) | (refine New_qob h (fun b H' h' => ?_); skip))
          | ((with_reducible show St _ _); first | (refine sg.st (h.front 0) rfl rfl (fun H' h' => ?_); skip) | (refine sg.st (h.front 1) rfl rfl (fun H' h' => ?_); skip) | (refine sg.st (h.front 2) rfl rfl (fun H' h' => ?_); skip) | (refine sg.st (h.front 3) rfl rfl (fun H' h' => ?_); skip) | (refine sg.st (h.front 4) rfl rfl (fun H' h' => ?_); skip) | (refine sg.st (h.front 5) rfl rfl (fun H' h' => ?_); skip) | (refine sg.st (h.front 6) rfl rfl (fun H' h' => ?_); skip) | (refine sg.st (h.front 7) rfl rfl (fun H' h' => ?_); skip))
          | ((with_reducible show Gate _ _ _); refine Gate.intro (fun g => ?_) (fun g => ?_) <;> (try subst g))
          ) <;> ((try ((try simp only [row, En.l, Ky.l, Ac.l, front_eq] at h'); (try simp only [front_eq, fronts_nil, fronts_cons, List.getElem?_cons_zero, List.getElem?_cons_succ, List.eraseIdx_cons_zero, List.eraseIdx_cons_succ, List.cons_append, List.nil_append, putL_cons, putL_nil, List.set_cons_zero, List.set_cons_succ, Nat.reduceAdd] at h'); clear h; have h := h'; clear h'; (try have fc := h.ci 0 rfl); (try have fl := h.li 0 rfl); (try have fc := h.ci 1 rfl); (try have fl := h.li 1 rfl); (try have fc := h.ci 2 rfl); (try have fl := h.li 2 rfl); (try have fc := h.ci 3 rfl); (try have fl := h.li 3 rfl); (try have fc := h.ci 4 rfl); (try have fl := h.li 4 rfl); (try have fc := h.ci 5 rfl); (try have fl := h.li 5 rfl); (try have fc := h.ci 6 rfl); (try have fl := h.li 6 rfl); (try have fc := h.ci 7 rfl); (try have fl := h.li 7 rfl))); ((try simp only [S, TY, reduceCtorEq, nq0, nq1, nq2, nq3, nq4, iq0, iq1, iq2, iq3, iq4, iq5, iq6, iq7, iq8, *]); (try (simp (disch := omega) only [W2, Int.cast_ofNat_Int]; (try simp only [S, TY, reduceCtorEq, nq0, nq1, nq2, nq3, nq4, iq0, iq1, iq2, iq3, iq4, iq5, iq6, iq7, iq8, *]))); repeat ((first | (refine cl_drawi 4 D106_4 (List.range 7) (by decide) (by kernel_rfl) ?_; unfold D106_4)); simp only [S, TY, reduceCtorEq, nq0, nq1, nq2, nq3, nq4, iq0, iq1, iq2, iq3, iq4, iq5, iq6, iq7, iq8, *]; (try (simp (disch := omega) only [W2, Int.cast_ofNat_Int]; (try simp only [S, TY, reduceCtorEq, nq0, nq1, nq2, nq3, nq4, iq0, iq1, iq2, iq3, iq4, iq5, iq6, iq7, iq8, *])))))))))
      all_goals (exfalso; omega)
end Go.Proofs.Ytanhmbdcdbcfmaa.DpT
