/- What becomes of a frame: a guest's, in the program. -/
import Derived.Test.YtanhmbdcdbcfmaaTunA
import Derived.Test.YtanhmbdcdbcfmaaEthR
import Derived.Test.YtanhmbdcdbcfmaaFlL
set_option linter.unusedVariables false
set_option linter.unusedSimpArgs false
set_option maxRecDepth 10000
set_option maxHeartbeats 2000000
namespace Go.Proofs.Ytanhmbdcdbcfmaa.Dp
open Nat renaming reduceEqDiff → nq0, reduceAdd → nq1, reduceLeDiff → nq2, reduceBEq → nq3, reduceMul → nq4
open Int renaming reduceBEq → iq0, reduceEq → iq1, reduceLT → iq2, reduceLE → iq3, reduceAdd → iq4, reduceSub → iq5, reduceMul → iq6, reduceToNat → iq7, cast_ofNat_Int → iq8
open Go Go.Sl Go.Proofs Go.Proofs.Ytanhmbdcdbcfmaa.SoI Go.Proofs.Ytanhmbdcdbcfmaa.SoM Go.Proofs.Ytanhmbdcdbcfmaa.Fl Go.Proofs.Ytanhmbdcdbcfmaa.FlT Go.Proofs.Ytanhmbdcdbcfmaa.TunP Go.Proofs.Ytanhmbdcdbcfmaa.Tun Go.Proofs.Ytanhmbdcdbcfmaa.TunA
theorem TY : abIs Try.prog 207 = true ∧
  abSz Try.prog 207 = 1 ∧
  aggN Try.prog 3 = some none ∧
  aggN Try.prog 5 = some none ∧
  aggN Try.prog 24 = some none ∧
  aggN Try.prog 26 = some (some 8) ∧
  aggN Try.prog 29 = some none ∧
  aggN Try.prog 30 = some none ∧
  aggN Try.prog 34 = some (some 13) ∧
  aggN Try.prog 194 = some (some 4) ∧
  aggN Try.prog 202 = some none ∧
  aggN Try.prog 207 = some (some 3) ∧
  aggN Try.prog 210 = some (some 5) ∧
  apI Try.prog 24 = some (5, 1, 1) ∧
  arIs Try.prog 207 = true ∧
  arLen Try.prog 207 = 3 ∧
  arSz Try.prog 207 = 1 ∧
  bIs Try.prog 26 = true ∧
  bIs Try.prog 34 = true ∧
  bIs Try.prog 194 = true ∧
  bIs Try.prog 210 = true ∧
  bySl Try.prog 24 = true ∧
  csz Try.prog 3 = some 1 ∧
  csz Try.prog 5 = some 1 ∧
  csz Try.prog 24 = some 1 ∧
  csz Try.prog 26 = some 8 ∧
  csz Try.prog 29 = some 1 ∧
  csz Try.prog 30 = some 1 ∧
  csz Try.prog 34 = some 13 ∧
  csz Try.prog 194 = some 4 ∧
  csz Try.prog 202 = some 1 ∧
  csz Try.prog 207 = some 3 ∧
  csz Try.prog 210 = some 5 ∧
  eqF Try.prog 194 = some [.i, .i, .i, .i] ∧
  eqF Try.prog 210 = some [.i, .i, .i, .i, .i] ∧
  fIs Try.prog 194 0 = true ∧
  fIs Try.prog 194 1 = true ∧
  fIs Try.prog 194 2 = true ∧
  fIs Try.prog 194 3 = true ∧
  fOff Try.prog 194 0 = 0 ∧
  fOff Try.prog 194 1 = 1 ∧
  fOff Try.prog 194 2 = 2 ∧
  fOff Try.prog 194 3 = 3 ∧
  fTy Try.prog 194 0 = 3 ∧
  fTy Try.prog 194 1 = 3 ∧
  fTy Try.prog 194 2 = 3 ∧
  fTy Try.prog 194 3 = 3 ∧
  fnIs Try.prog 202 = true ∧
  goes Try.prog 100 = true ∧
  goes Try.prog 104 = true ∧
  goes Try.prog 173 = true ∧
  inIs Try.prog 3 = some .i64 ∧
  inIs Try.prog 5 = some .u8 ∧
  inIs Try.prog 30 = some .i64 ∧
  plcs Try.prog 26 = [(0, 1), (1, 1), (2, 1), (3, 1), (4, 1), (5, 1), (6, 1), (7, 1)] ∧
  plcs Try.prog 34 = [(0, 1), (1, 1), (2, 1), (3, 1), (4, 1), (5, 8)] ∧
  plcs Try.prog 194 = [(0, 1), (1, 1), (2, 1), (3, 1)] ∧
  plcs Try.prog 210 = [(0, 1), (1, 1), (2, 1), (3, 1), (4, 1)] ∧
  ptIs Try.prog 29 = true ∧
  slEl Try.prog 24 = 5 ∧
  slIs Try.prog 24 = true ∧
  slSz Try.prog 24 = 1 ∧
  zcs Try.prog 26 = [.int .i64 0, .int .i64 0, .int .i64 0, .int .i64 0, .int .i64 0, .int .i64 0, .int .i64 0, .slice none 0 0] ∧
  zcs Try.prog 34 = [.int .i64 0, .int .i64 0, .int .i64 0, .int .i64 0, .slice none 0 0, .int .i64 0, .int .i64 0, .int .i64 0, .int .i64 0, .int .i64 0, .int .i64 0, .int .i64 0, .slice none 0 0] ∧
  zcs Try.prog 194 = [.int .i64 0, .int .i64 0, .int .i64 0, .int .i64 0] ∧
  zcs Try.prog 207 = [.nilFunc, .nilFunc, .nilFunc] ∧
  zcs Try.prog 210 = [.int .i64 0, .int .u64 0, .int .i64 0, .int .i64 0, .int .i64 0] ∧
  zro Try.prog 3 = some (.int .i64 0) ∧
  zro Try.prog 5 = some (.int .u8 0) ∧
  zro Try.prog 24 = some (.slice none 0 0) ∧
  zro Try.prog 26 = some (.agg #[.int .i64 0, .int .i64 0, .int .i64 0, .int .i64 0, .int .i64 0, .int .i64 0, .int .i64 0, .slice none 0 0]) ∧
  zro Try.prog 29 = some (.pointer none) ∧
  zro Try.prog 30 = some (.int .i64 0) ∧
  zro Try.prog 34 = some (.agg #[.int .i64 0, .int .i64 0, .int .i64 0, .int .i64 0, .slice none 0 0, .int .i64 0, .int .i64 0, .int .i64 0, .int .i64 0, .int .i64 0, .int .i64 0, .int .i64 0, .slice none 0 0]) ∧
  zro Try.prog 194 = some (.agg #[.int .i64 0, .int .i64 0, .int .i64 0, .int .i64 0]) ∧
  zro Try.prog 202 = some (.nilFunc) ∧
  zro Try.prog 207 = some (.agg #[.nilFunc, .nilFunc, .nilFunc]) ∧
  zro Try.prog 210 = some (.agg #[.int .i64 0, .int .u64 0, .int .i64 0, .int .i64 0, .int .i64 0]) :=
  ⟨by kernel_rfl, by kernel_rfl, by kernel_rfl, by kernel_rfl, by kernel_rfl, by kernel_rfl, by kernel_rfl, by kernel_rfl, by kernel_rfl, by kernel_rfl, by kernel_rfl, by kernel_rfl, by kernel_rfl, by kernel_rfl, by kernel_rfl, by kernel_rfl, by kernel_rfl, by kernel_rfl, by kernel_rfl, by kernel_rfl, by kernel_rfl, by kernel_rfl, by kernel_rfl, by kernel_rfl, by kernel_rfl, by kernel_rfl, by kernel_rfl, by kernel_rfl, by kernel_rfl, by kernel_rfl, by kernel_rfl, by kernel_rfl, by kernel_rfl, by kernel_rfl, by kernel_rfl, by kernel_rfl, by kernel_rfl, by kernel_rfl, by kernel_rfl, by kernel_rfl, by kernel_rfl, by kernel_rfl, by kernel_rfl, by kernel_rfl, by kernel_rfl, by kernel_rfl, by kernel_rfl, by kernel_rfl, by kernel_rfl, by kernel_rfl, by kernel_rfl, by kernel_rfl, by kernel_rfl, by kernel_rfl, by kernel_rfl, by kernel_rfl, by kernel_rfl, by kernel_rfl, by kernel_rfl, by kernel_rfl, by kernel_rfl, by kernel_rfl, by kernel_rfl, by kernel_rfl, by kernel_rfl, by kernel_rfl, by kernel_rfl, by kernel_rfl, by kernel_rfl, by kernel_rfl, by kernel_rfl, by kernel_rfl, by kernel_rfl, by kernel_rfl, by kernel_rfl, by kernel_rfl, by kernel_rfl, by kernel_rfl⟩
def D106_4 : List Note := Go.Sl.nn [0, 1, 0, 1, 1, 3, 3]
abbrev pkl' (k o f t p g i : Int) (u : Value) : List Value := [.int .i64 k, .int .i64 o, .int .i64 f, .int .i64 t, .int .i64 p, .int .i64 g, .int .i64 i, u]
abbrev nilS : Value := .slice none 0 0
inductive Oc
  | drop
  | del (port gen stamp : Int)
  | snt (k o f t p g i : Int)
abbrev Oc.l (u : Value) : Oc → List Value
  | .drop => [.int .i64 0, .int .i64 0, .int .i64 0, .int .i64 0, nilS] ++ pkl' 0 0 0 0 0 0 0 nilS
  | .del p g s => [.int .i64 1, .int .i64 p, .int .i64 g, .int .i64 s, u] ++ pkl' 0 0 0 0 0 0 0 nilS
  | .snt k o f t p g i => [.int .i64 2, .int .i64 0, .int .i64 0, .int .i64 0, nilS] ++ pkl' k o f t p g i u
abbrev Oc.v (o : Oc) (u : Value) : Value := .agg (o.l u).toArray
def sendM (k o f t p g i : Int) (n : Nat) : Oc := if TunP.right k o f t p g i n = true then .snt k o f t p g i else .drop
theorem send_ok {G : Hp} {v : Value} {l : List UInt8} (k o f t p g i : Int) (hv : rds G 1 v (bv l)) : Con Try.prog G 104 [.agg (pkl' k o f t p g i v).toArray, .int .i64 0] [] (fun r B => r = (sendM k o f t p g i l.length).v v ∧ B = []) := by
  obtain ⟨va, vn, vc, rfl, -, -⟩ := hv.slice
  obtain ⟨b, hb⟩ : ∃ b, TunP.right k o f t p g i l.length = b := ⟨_, rfl⟩
  have hm : sendM k o f t p g i l.length = if b = true then .snt k o f t p g i else .drop := by unfold sendM; rw [hb]
  rw [hm]
  clear hm
  cases b with
  | false =>
    refine Con.intro Try.func104 rfl (Nat.le_of_ble_eq_true (by kernel_rfl)) (by kernel_rfl) Try.results104 ?_
    intro H h
    ((try simp only [S, TY, reduceCtorEq, nq0, nq1, nq2, nq3, nq4, iq0, iq1, iq2, iq3, iq4, iq5, iq6, iq7, iq8]); (try (simp (disch := omega) only [W2, Int.cast_ofNat_Int]; (try simp only [S, TY, reduceCtorEq, nq0, nq1, nq2, nq3, nq4, iq0, iq1, iq2, iq3, iq4, iq5, iq6, iq7, iq8]))))
    repeat' (((first
        | ((with_reducible show CallsH _ _ 100 _ _ _); (refine (Right_ok k o f t p g i hv).at_ h [] _ rfl (fun r B H' hr h' => ?_); obtain ⟨rfl, rfl⟩ := hr; rw [hb]; skip))
        | ((with_reducible show fin _ _ _); first | (exact fin_take (B := []) h ⟨rfl, rfl⟩))
        | ((with_reducible show New _ _ _); first | (refine New_sl h 1 rfl (fun b H' h' => ?_); skip) | (refine New_qsl h 1 rfl (fun b => rfl) (fun b H' h' => ?_); skip) | (refine New_ob h (fun b H' h' => ?_); skip) | (refine New_qob h (fun b H' h' => ?_); skip))
        | ((with_reducible show St _ _); first | (refine sg.st (h.front 0) rfl rfl (fun H' h' => ?_); skip) | (refine sg.st (h.front 1) rfl rfl (fun H' h' => ?_); skip) | (refine sg.st (h.front 2) rfl rfl (fun H' h' => ?_); skip) | (refine sg.st (h.front 3) rfl rfl (fun H' h' => ?_); skip) | (refine sg.st (h.front 4) rfl rfl (fun H' h' => ?_); skip) | (refine sg.st (h.front 5) rfl rfl (fun H' h' => ?_); skip) | (refine sg.st (h.front 6) rfl rfl (fun H' h' => ?_); skip) | (refine sg.st (h.front 7) rfl rfl (fun H' h' => ?_); skip))
        | ((with_reducible show Gate _ _ _); refine Gate.intro (fun g => ?_) (fun g => ?_) <;> (try subst g))
        ) <;> ((try ((try simp only [row, En.l, Ky.l, Ac.l, front_eq] at h'); (try simp only [front_eq, fronts_nil, fronts_cons, List.getElem?_cons_zero, List.getElem?_cons_succ, List.eraseIdx_cons_zero, List.eraseIdx_cons_succ, List.cons_append, List.nil_append, putL_cons, putL_nil, List.set_cons_zero, List.set_cons_succ, Nat.reduceAdd] at h'); clear h; have h := h'; clear h'; (try have fc := h.ci 0 rfl); (try have fl := h.li 0 rfl); (try have fc := h.ci 1 rfl); (try have fl := h.li 1 rfl); (try have fc := h.ci 2 rfl); (try have fl := h.li 2 rfl); (try have fc := h.ci 3 rfl); (try have fl := h.li 3 rfl); (try have fc := h.ci 4 rfl); (try have fl := h.li 4 rfl); (try have fc := h.ci 5 rfl); (try have fl := h.li 5 rfl); (try have fc := h.ci 6 rfl); (try have fl := h.li 6 rfl); (try have fc := h.ci 7 rfl); (try have fl := h.li 7 rfl))); ((try simp only [S, TY, reduceCtorEq, nq0, nq1, nq2, nq3, nq4, iq0, iq1, iq2, iq3, iq4, iq5, iq6, iq7, iq8, *]); (try (simp (disch := omega) only [W2, Int.cast_ofNat_Int]; (try simp only [S, TY, reduceCtorEq, nq0, nq1, nq2, nq3, nq4, iq0, iq1, iq2, iq3, iq4, iq5, iq6, iq7, iq8, *])))))))
  | true =>
    refine Con.intro Try.func104 rfl (Nat.le_of_ble_eq_true (by kernel_rfl)) (by kernel_rfl) Try.results104 ?_
    intro H h
    ((try simp only [S, TY, reduceCtorEq, nq0, nq1, nq2, nq3, nq4, iq0, iq1, iq2, iq3, iq4, iq5, iq6, iq7, iq8]); (try (simp (disch := omega) only [W2, Int.cast_ofNat_Int]; (try simp only [S, TY, reduceCtorEq, nq0, nq1, nq2, nq3, nq4, iq0, iq1, iq2, iq3, iq4, iq5, iq6, iq7, iq8]))))
    repeat' (((first
        | ((with_reducible show CallsH _ _ 100 _ _ _); (refine (Right_ok k o f t p g i hv).at_ h [] _ rfl (fun r B H' hr h' => ?_); obtain ⟨rfl, rfl⟩ := hr; rw [hb]; skip))
        | ((with_reducible show fin _ _ _); first | (exact fin_take (B := []) h ⟨rfl, rfl⟩))
        | ((with_reducible show New _ _ _); first | (refine New_sl h 1 rfl (fun b H' h' => ?_); skip) | (refine New_qsl h 1 rfl (fun b => rfl) (fun b H' h' => ?_); skip) | (refine New_ob h (fun b H' h' => ?_); skip) | (refine New_qob h (fun b H' h' => ?_); skip))
        | ((with_reducible show St _ _); first | (refine sg.st (h.front 0) rfl rfl (fun H' h' => ?_); skip) | (refine sg.st (h.front 1) rfl rfl (fun H' h' => ?_); skip) | (refine sg.st (h.front 2) rfl rfl (fun H' h' => ?_); skip) | (refine sg.st (h.front 3) rfl rfl (fun H' h' => ?_); skip) | (refine sg.st (h.front 4) rfl rfl (fun H' h' => ?_); skip) | (refine sg.st (h.front 5) rfl rfl (fun H' h' => ?_); skip) | (refine sg.st (h.front 6) rfl rfl (fun H' h' => ?_); skip) | (refine sg.st (h.front 7) rfl rfl (fun H' h' => ?_); skip))
        | ((with_reducible show Gate _ _ _); refine Gate.intro (fun g => ?_) (fun g => ?_) <;> (try subst g))
        ) <;> ((try ((try simp only [row, En.l, Ky.l, Ac.l, front_eq] at h'); (try simp only [front_eq, fronts_nil, fronts_cons, List.getElem?_cons_zero, List.getElem?_cons_succ, List.eraseIdx_cons_zero, List.eraseIdx_cons_succ, List.cons_append, List.nil_append, putL_cons, putL_nil, List.set_cons_zero, List.set_cons_succ, Nat.reduceAdd] at h'); clear h; have h := h'; clear h'; (try have fc := h.ci 0 rfl); (try have fl := h.li 0 rfl); (try have fc := h.ci 1 rfl); (try have fl := h.li 1 rfl); (try have fc := h.ci 2 rfl); (try have fl := h.li 2 rfl); (try have fc := h.ci 3 rfl); (try have fl := h.li 3 rfl); (try have fc := h.ci 4 rfl); (try have fl := h.li 4 rfl); (try have fc := h.ci 5 rfl); (try have fl := h.li 5 rfl); (try have fc := h.ci 6 rfl); (try have fl := h.li 6 rfl); (try have fc := h.ci 7 rfl); (try have fl := h.li 7 rfl))); ((try simp only [S, TY, reduceCtorEq, nq0, nq1, nq2, nq3, nq4, iq0, iq1, iq2, iq3, iq4, iq5, iq6, iq7, iq8, *]); (try (simp (disch := omega) only [W2, Int.cast_ofNat_Int]; (try simp only [S, TY, reduceCtorEq, nq0, nq1, nq2, nq3, nq4, iq0, iq1, iq2, iq3, iq4, iq5, iq6, iq7, iq8, *])))))))
/-- What is caught by Guest's functions. -/
abbrev bbP (qb : Nat) (u : Value) : Asn := ob qb (.cells #[u] 24 (0, 0))
abbrev inP (q : Nat) (x : Int) : Asn := ob q (.cells #[.int .i64 x] 3 (0, 0))
theorem g1_ok {G : Hp} {ua : Option Addr} {un uc : Nat} (a : Ac) (qb : Nat) : Con Try.prog G 117 [a.v, .pointer (some ⟨qb, 0, none⟩)] [bbP qb (.slice ua un uc)] (fun r B => r = (Oc.del a.port a.gen a.gen).v (.slice ua un uc) ∧ B = [bbP qb (.slice ua un uc)]) := by
  obtain ⟨a1, a2, a3, a4⟩ := a
  refine Con.intro Try.func117 rfl (Nat.le_of_ble_eq_true (by kernel_rfl)) (by kernel_rfl) Try.results117 ?_
  intro H h
  have fc := h.ci 0 rfl
  ((try simp only [S, TY, reduceCtorEq, nq0, nq1, nq2, nq3, nq4, iq0, iq1, iq2, iq3, iq4, iq5, iq6, iq7, iq8, fc]); (try (simp (disch := omega) only [W2, Int.cast_ofNat_Int]; (try simp only [S, TY, reduceCtorEq, nq0, nq1, nq2, nq3, nq4, iq0, iq1, iq2, iq3, iq4, iq5, iq6, iq7, iq8, fc]))))
  repeat' (((first
      | ((with_reducible show fin _ _ _); first | (exact fin_take (B := [_]) (h.front 2) ⟨rfl, rfl⟩))
      | ((with_reducible show New _ _ _); first | (refine New_sl h 1 rfl (fun b H' h' => ?_); skip) | (refine New_qsl h 1 rfl (fun b => rfl) (fun b H' h' => ?_); skip) | (refine New_ob h (fun b H' h' => ?_); skip) | (refine New_qob h (fun b H' h' => ?_); skip))
      | ((with_reducible show St _ _); first | (refine sg.st (h.front 0) rfl rfl (fun H' h' => ?_); skip) | (refine sg.st (h.front 1) rfl rfl (fun H' h' => ?_); skip) | (refine sg.st (h.front 2) rfl rfl (fun H' h' => ?_); skip) | (refine sg.st (h.front 3) rfl rfl (fun H' h' => ?_); skip) | (refine sg.st (h.front 4) rfl rfl (fun H' h' => ?_); skip) | (refine sg.st (h.front 5) rfl rfl (fun H' h' => ?_); skip) | (refine sg.st (h.front 6) rfl rfl (fun H' h' => ?_); skip) | (refine sg.st (h.front 7) rfl rfl (fun H' h' => ?_); skip))
      | ((with_reducible show Gate _ _ _); refine Gate.intro (fun g => ?_) (fun g => ?_) <;> (try subst g))
      ) <;> ((try ((try simp only [row, En.l, Ky.l, Ac.l, front_eq] at h'); (try simp only [front_eq, fronts_nil, fronts_cons, List.getElem?_cons_zero, List.getElem?_cons_succ, List.eraseIdx_cons_zero, List.eraseIdx_cons_succ, List.cons_append, List.nil_append, putL_cons, putL_nil, List.set_cons_zero, List.set_cons_succ, Nat.reduceAdd] at h'); clear h; have h := h'; clear h'; (try have fc := h.ci 0 rfl); (try have fl := h.li 0 rfl); (try have fc := h.ci 1 rfl); (try have fl := h.li 1 rfl); (try have fc := h.ci 2 rfl); (try have fl := h.li 2 rfl); (try have fc := h.ci 3 rfl); (try have fl := h.li 3 rfl); (try have fc := h.ci 4 rfl); (try have fl := h.li 4 rfl); (try have fc := h.ci 5 rfl); (try have fl := h.li 5 rfl); (try have fc := h.ci 6 rfl); (try have fl := h.li 6 rfl); (try have fc := h.ci 7 rfl); (try have fl := h.li 7 rfl))); ((try simp only [S, TY, reduceCtorEq, nq0, nq1, nq2, nq3, nq4, iq0, iq1, iq2, iq3, iq4, iq5, iq6, iq7, iq8, *]); (try (simp (disch := omega) only [W2, Int.cast_ofNat_Int]; (try simp only [S, TY, reduceCtorEq, nq0, nq1, nq2, nq3, nq4, iq0, iq1, iq2, iq3, iq4, iq5, iq6, iq7, iq8, *])))))))
theorem g2_ok {G : Hp} {u : Value} {l : List UInt8} (hv : rds G 1 u (bv l)) (a : Ac) (c id : Int) (qc qi qb : Nat) : Con Try.prog G 118 [a.v, .pointer (some ⟨qc, 0, none⟩), .pointer (some ⟨qi, 0, none⟩), .pointer (some ⟨qb, 0, none⟩)] [inP qc c, inP qi id, bbP qb u]
    (fun r B => r = (sendM 1 c c a.to a.port a.gen id l.length).v u ∧ B = [inP qc c, inP qi id, bbP qb u]) := by
  obtain ⟨ua, un, uc, rfl, -, -⟩ := hv.slice
  obtain ⟨a1, a2, a3, a4⟩ := a
  obtain ⟨oc, hoc⟩ : ∃ oc, sendM 1 c c a3 a2 a4 id l.length = oc := ⟨_, rfl⟩
  show Con _ _ _ _ _ (fun r B => r = (sendM 1 c c a3 a2 a4 id l.length).v (.slice ua un uc) ∧ B = [inP qc c, inP qi id, bbP qb (.slice ua un uc)])
  rw [hoc]
  refine Con.intro Try.func118 rfl (Nat.le_of_ble_eq_true (by kernel_rfl)) (by kernel_rfl) Try.results118 ?_
  intro H h
  have fc := h.ci 0 rfl
  have fc1 := h.ci 1 rfl
  have fc2 := h.ci 2 rfl
  ((try simp only [S, TY, reduceCtorEq, nq0, nq1, nq2, nq3, nq4, iq0, iq1, iq2, iq3, iq4, iq5, iq6, iq7, iq8, fc, fc1, fc2]); (try (simp (disch := omega) only [W2, Int.cast_ofNat_Int]; (try simp only [S, TY, reduceCtorEq, nq0, nq1, nq2, nq3, nq4, iq0, iq1, iq2, iq3, iq4, iq5, iq6, iq7, iq8, fc, fc1, fc2]))))
  iterate 9 (all_goals (try ((first
      | ((with_reducible show CallsH _ _ 104 _ _ _); (refine (send_ok _ _ _ _ _ _ _ hv).at_ h [] _ rfl (fun r B H' hr h' => ?_); obtain ⟨rfl, rfl⟩ := hr; rw [hoc]; skip))
      | ((with_reducible show New _ _ _); first | (refine New_sl h 1 rfl (fun b H' h' => ?_); skip) | (refine New_qsl h 1 rfl (fun b => rfl) (fun b H' h' => ?_); skip) | (refine New_ob h (fun b H' h' => ?_); skip) | (refine New_qob h (fun b H' h' => ?_); skip))
      | ((with_reducible show St _ _); first | (refine sg.st (h.front 0) rfl rfl (fun H' h' => ?_); skip) | (refine sg.st (h.front 1) rfl rfl (fun H' h' => ?_); skip) | (refine sg.st (h.front 2) rfl rfl (fun H' h' => ?_); skip) | (refine sg.st (h.front 3) rfl rfl (fun H' h' => ?_); skip) | (refine sg.st (h.front 4) rfl rfl (fun H' h' => ?_); skip) | (refine sg.st (h.front 5) rfl rfl (fun H' h' => ?_); skip) | (refine sg.st (h.front 6) rfl rfl (fun H' h' => ?_); skip) | (refine sg.st (h.front 7) rfl rfl (fun H' h' => ?_); skip))
      | ((with_reducible show Gate _ _ _); refine Gate.intro (fun g => ?_) (fun g => ?_) <;> (try subst g))
      ) <;> ((try ((try simp only [row, En.l, Ky.l, Ac.l, front_eq] at h'); (try simp only [front_eq, fronts_nil, fronts_cons, List.getElem?_cons_zero, List.getElem?_cons_succ, List.eraseIdx_cons_zero, List.eraseIdx_cons_succ, List.cons_append, List.nil_append, putL_cons, putL_nil, List.set_cons_zero, List.set_cons_succ, Nat.reduceAdd] at h'); clear h; have h := h'; clear h'; (try have fc := h.ci 0 rfl); (try have fl := h.li 0 rfl); (try have fc := h.ci 1 rfl); (try have fl := h.li 1 rfl); (try have fc := h.ci 2 rfl); (try have fl := h.li 2 rfl); (try have fc := h.ci 3 rfl); (try have fl := h.li 3 rfl); (try have fc := h.ci 4 rfl); (try have fl := h.li 4 rfl); (try have fc := h.ci 5 rfl); (try have fl := h.li 5 rfl); (try have fc := h.ci 6 rfl); (try have fl := h.li 6 rfl); (try have fc := h.ci 7 rfl); (try have fl := h.li 7 rfl))); ((try simp only [S, TY, reduceCtorEq, nq0, nq1, nq2, nq3, nq4, iq0, iq1, iq2, iq3, iq4, iq5, iq6, iq7, iq8, *]); (try (simp (disch := omega) only [W2, Int.cast_ofNat_Int]; (try simp only [S, TY, reduceCtorEq, nq0, nq1, nq2, nq3, nq4, iq0, iq1, iq2, iq3, iq4, iq5, iq6, iq7, iq8, *]))))))))
  cases oc with
  | drop =>
    refine ⟨rfl, sg.st h rfl rfl (fun H2 h2 => ?_)⟩
    simp only [front_eq, fronts_nil, fronts_cons, List.getElem?_cons_zero, List.getElem?_cons_succ, List.eraseIdx_cons_zero, List.eraseIdx_cons_succ, List.cons_append, List.nil_append, putL_cons, putL_nil, List.set_cons_zero, List.set_cons_succ, Nat.reduceAdd] at h2
    have fl := h2.li 0 rfl
    ((try simp only [S, TY, reduceCtorEq, nq0, nq1, nq2, nq3, nq4, iq0, iq1, iq2, iq3, iq4, iq5, iq6, iq7, iq8, fl]); (try (simp (disch := omega) only [W2, Int.cast_ofNat_Int]; (try simp only [S, TY, reduceCtorEq, nq0, nq1, nq2, nq3, nq4, iq0, iq1, iq2, iq3, iq4, iq5, iq6, iq7, iq8, fl]))))
    exact fin_take (B := [_, _, _]) (h2.fronts [2, 2, 2]) ⟨rfl, rfl⟩
  | del p g s =>
    refine ⟨rfl, sg.st h rfl rfl (fun H2 h2 => ?_)⟩
    simp only [front_eq, fronts_nil, fronts_cons, List.getElem?_cons_zero, List.getElem?_cons_succ, List.eraseIdx_cons_zero, List.eraseIdx_cons_succ, List.cons_append, List.nil_append, putL_cons, putL_nil, List.set_cons_zero, List.set_cons_succ, Nat.reduceAdd] at h2
    have fl := h2.li 0 rfl
    ((try simp only [S, TY, reduceCtorEq, nq0, nq1, nq2, nq3, nq4, iq0, iq1, iq2, iq3, iq4, iq5, iq6, iq7, iq8, fl]); (try (simp (disch := omega) only [W2, Int.cast_ofNat_Int]; (try simp only [S, TY, reduceCtorEq, nq0, nq1, nq2, nq3, nq4, iq0, iq1, iq2, iq3, iq4, iq5, iq6, iq7, iq8, fl]))))
    exact fin_take (B := [_, _, _]) (h2.fronts [2, 2, 2]) ⟨rfl, rfl⟩
  | snt k o f t p g i =>
    refine ⟨rfl, sg.st h rfl rfl (fun H2 h2 => ?_)⟩
    simp only [front_eq, fronts_nil, fronts_cons, List.getElem?_cons_zero, List.getElem?_cons_succ, List.eraseIdx_cons_zero, List.eraseIdx_cons_succ, List.cons_append, List.nil_append, putL_cons, putL_nil, List.set_cons_zero, List.set_cons_succ, Nat.reduceAdd] at h2
    have fl := h2.li 0 rfl
    ((try simp only [S, TY, reduceCtorEq, nq0, nq1, nq2, nq3, nq4, iq0, iq1, iq2, iq3, iq4, iq5, iq6, iq7, iq8, fl]); (try (simp (disch := omega) only [W2, Int.cast_ofNat_Int]; (try simp only [S, TY, reduceCtorEq, nq0, nq1, nq2, nq3, nq4, iq0, iq1, iq2, iq3, iq4, iq5, iq6, iq7, iq8, fl]))))
    exact fin_take (B := [_, _, _]) (h2.fronts [2, 2, 2]) ⟨rfl, rfl⟩
/-- What becomes of a frame by an action. -/
def wayM (a : Ac) (c id : Int) (n : Nat) : Oc := if a.kind = 1 then .del a.port a.gen a.gen else if a.kind = 2 then sendM 1 c c a.to a.port a.gen id n else .drop
abbrev waysV (z : Value) (qc qi qb : Nat) : Value := .agg #[z, .func (.func 117) #[] #[.pointer (some ⟨qb, 0, none⟩)], .func (.func 118) #[] #[.pointer (some ⟨qc, 0, none⟩), .pointer (some ⟨qi, 0, none⟩), .pointer (some ⟨qb, 0, none⟩)]]
theorem do_ok {G : Hp} {u z : Value} {l : List UInt8} {p : Nat} {t : List En} (hv : rds G 1 u (bv l)) (ht : t.length ≤ 1000) (hk2 : goes Try.prog 193 = true) (hg1 : goes Try.prog 117 = true) (hg2 : goes Try.prog 118 = true)
    (hz : z.oneCell' = true) (k : Ky) (c id : Int) (qc qi qb : Nat) : Con Try.prog G 106 [waysV z qc qi qb, .pointer (some ⟨p, 0, none⟩), k.v] [tb p t, inP qc c, inP qi id, bbP qb u]
    (fun r B => r = (wayM (lookT k t).1 c id l.length).v u ∧ B = [tb p t, inP qc c, inP qi id, bbP qb u]) := by
  obtain ⟨ua, un, uc, rfl, -, -⟩ := hv.slice
  obtain ⟨⟨⟨a1, a2, a3, a4⟩, ab⟩, ha⟩ : ∃ r, lookT k t = r := ⟨_, rfl⟩
  rw [ha]
  simp only
  obtain ⟨oc, hoc⟩ : ∃ oc, wayM ⟨a1, a2, a3, a4⟩ c id l.length = oc := ⟨_, rfl⟩
  rw [hoc]
  obtain ⟨k1, k2, k3, k4, k5⟩ := k
  by_cases e1 : a1 = 1
  · subst e1
    obtain rfl : Oc.del a2 a4 a4 = oc := by rw [← hoc]; rfl
    refine Con.intro Try.func106 rfl (Nat.le_of_ble_eq_true (by kernel_rfl)) (by kernel_rfl) Try.results106 ?_
    intro H h
    ((try simp only [S, TY, reduceCtorEq, nq0, nq1, nq2, nq3, nq4, iq0, iq1, iq2, iq3, iq4, iq5, iq6, iq7, iq8, hg1, hg2]); (try (simp (disch := omega) only [W2, Int.cast_ofNat_Int]; (try simp only [S, TY, reduceCtorEq, nq0, nq1, nq2, nq3, nq4, iq0, iq1, iq2, iq3, iq4, iq5, iq6, iq7, iq8, hg1, hg2]))); repeat ((first | (refine cl_drawi 4 D106_4 (List.range 7) (by decide) (by kernel_rfl) ?_; unfold D106_4)); simp only [S, TY, reduceCtorEq, nq0, nq1, nq2, nq3, nq4, iq0, iq1, iq2, iq3, iq4, iq5, iq6, iq7, iq8, hg1, hg2]; (try (simp (disch := omega) only [W2, Int.cast_ofNat_Int]; (try simp only [S, TY, reduceCtorEq, nq0, nq1, nq2, nq3, nq4, iq0, iq1, iq2, iq3, iq4, iq5, iq6, iq7, iq8, hg1, hg2])))))
    repeat' (((first
        | ((with_reducible show CallsH _ _ 173 _ _ _); (refine (Look_ok (l := t) hk2 ⟨k1, k2, k3, k4, k5⟩ (by omega)).at_ h [3] _ rfl (fun r B H' hr h' => ?_); obtain ⟨rfl, rfl⟩ := hr; rw [ha]; skip))
        | ((with_reducible show CallsH _ _ 117 _ _ _); (refine (g1_ok ⟨1, a2, a3, a4⟩ qb).at_ h [7] _ rfl (fun r B H' hr h' => ?_); obtain ⟨rfl, rfl⟩ := hr; skip))
        | ((with_reducible show fin _ _ _); first | (exact fin_take (B := [_, _, _, _]) (h.fronts [3, 5, 5, 1]) ⟨rfl, rfl⟩))
        | ((with_reducible show New _ _ _); first | (refine New_sl h 1 rfl (fun b H' h' => ?_); skip) | (refine New_qsl h 1 rfl (fun b => rfl) (fun b H' h' => ?_); skip) | (refine New_ob h (fun b H' h' => ?_); skip) | (refine New_qob h (fun b H' h' => ?_); skip))
        | ((with_reducible show St _ _); first | (refine sg.st (h.front 0) rfl rfl (fun H' h' => ?_); skip) | (refine sg.st (h.front 1) rfl rfl (fun H' h' => ?_); skip) | (refine sg.st (h.front 2) rfl rfl (fun H' h' => ?_); skip) | (refine sg.st (h.front 3) rfl rfl (fun H' h' => ?_); skip) | (refine sg.st (h.front 4) rfl rfl (fun H' h' => ?_); skip) | (refine sg.st (h.front 5) rfl rfl (fun H' h' => ?_); skip) | (refine sg.st (h.front 6) rfl rfl (fun H' h' => ?_); skip) | (refine sg.st (h.front 7) rfl rfl (fun H' h' => ?_); skip))
        | ((with_reducible show Gate _ _ _); refine Gate.intro (fun g => ?_) (fun g => ?_) <;> (try subst g))
        ) <;> ((try ((try simp only [row, En.l, Ky.l, Ac.l, front_eq] at h'); (try simp only [front_eq, fronts_nil, fronts_cons, List.getElem?_cons_zero, List.getElem?_cons_succ, List.eraseIdx_cons_zero, List.eraseIdx_cons_succ, List.cons_append, List.nil_append, putL_cons, putL_nil, List.set_cons_zero, List.set_cons_succ, Nat.reduceAdd] at h'); clear h; have h := h'; clear h'; (try have fc := h.ci 0 rfl); (try have fl := h.li 0 rfl); (try have fc := h.ci 1 rfl); (try have fl := h.li 1 rfl); (try have fc := h.ci 2 rfl); (try have fl := h.li 2 rfl); (try have fc := h.ci 3 rfl); (try have fl := h.li 3 rfl); (try have fc := h.ci 4 rfl); (try have fl := h.li 4 rfl); (try have fc := h.ci 5 rfl); (try have fl := h.li 5 rfl); (try have fc := h.ci 6 rfl); (try have fl := h.li 6 rfl); (try have fc := h.ci 7 rfl); (try have fl := h.li 7 rfl))); ((try simp only [S, TY, reduceCtorEq, nq0, nq1, nq2, nq3, nq4, iq0, iq1, iq2, iq3, iq4, iq5, iq6, iq7, iq8, hg1, hg2, *]); (try (simp (disch := omega) only [W2, Int.cast_ofNat_Int]; (try simp only [S, TY, reduceCtorEq, nq0, nq1, nq2, nq3, nq4, iq0, iq1, iq2, iq3, iq4, iq5, iq6, iq7, iq8, hg1, hg2, *]))); repeat ((first | (refine cl_drawi 4 D106_4 (List.range 7) (by decide) (by kernel_rfl) ?_; unfold D106_4)); simp only [S, TY, reduceCtorEq, nq0, nq1, nq2, nq3, nq4, iq0, iq1, iq2, iq3, iq4, iq5, iq6, iq7, iq8, hg1, hg2, *]; (try (simp (disch := omega) only [W2, Int.cast_ofNat_Int]; (try simp only [S, TY, reduceCtorEq, nq0, nq1, nq2, nq3, nq4, iq0, iq1, iq2, iq3, iq4, iq5, iq6, iq7, iq8, hg1, hg2, *]))))))))
  · by_cases e2 : a1 = 2
    · subst e2
      have hs : sendM 1 c c a3 a2 a4 id l.length = oc := by rw [← hoc]; rfl
      refine Con.intro Try.func106 rfl (Nat.le_of_ble_eq_true (by kernel_rfl)) (by kernel_rfl) Try.results106 ?_
      intro H h
      ((try simp only [S, TY, reduceCtorEq, nq0, nq1, nq2, nq3, nq4, iq0, iq1, iq2, iq3, iq4, iq5, iq6, iq7, iq8, hg1, hg2]); (try (simp (disch := omega) only [W2, Int.cast_ofNat_Int]; (try simp only [S, TY, reduceCtorEq, nq0, nq1, nq2, nq3, nq4, iq0, iq1, iq2, iq3, iq4, iq5, iq6, iq7, iq8, hg1, hg2]))); repeat ((first | (refine cl_drawi 4 D106_4 (List.range 7) (by decide) (by kernel_rfl) ?_; unfold D106_4)); simp only [S, TY, reduceCtorEq, nq0, nq1, nq2, nq3, nq4, iq0, iq1, iq2, iq3, iq4, iq5, iq6, iq7, iq8, hg1, hg2]; (try (simp (disch := omega) only [W2, Int.cast_ofNat_Int]; (try simp only [S, TY, reduceCtorEq, nq0, nq1, nq2, nq3, nq4, iq0, iq1, iq2, iq3, iq4, iq5, iq6, iq7, iq8, hg1, hg2])))))
      iterate 14 (all_goals (try ((first
          | ((with_reducible show CallsH _ _ 173 _ _ _); (refine (Look_ok (l := t) hk2 ⟨k1, k2, k3, k4, k5⟩ (by omega)).at_ h [3] _ rfl (fun r B H' hr h' => ?_); obtain ⟨rfl, rfl⟩ := hr; rw [ha]; skip))
          | ((with_reducible show New _ _ _); first | (refine New_sl h 1 rfl (fun b H' h' => ?_); skip) | (refine New_qsl h 1 rfl (fun b => rfl) (fun b H' h' => ?_); skip) | (refine New_ob h (fun b H' h' => ?_); skip) | (refine New_qob h (fun b H' h' => ?_); skip))
          | ((with_reducible show St _ _); first | (refine sg.st (h.front 0) rfl rfl (fun H' h' => ?_); skip) | (refine sg.st (h.front 1) rfl rfl (fun H' h' => ?_); skip) | (refine sg.st (h.front 2) rfl rfl (fun H' h' => ?_); skip) | (refine sg.st (h.front 3) rfl rfl (fun H' h' => ?_); skip) | (refine sg.st (h.front 4) rfl rfl (fun H' h' => ?_); skip) | (refine sg.st (h.front 5) rfl rfl (fun H' h' => ?_); skip) | (refine sg.st (h.front 6) rfl rfl (fun H' h' => ?_); skip) | (refine sg.st (h.front 7) rfl rfl (fun H' h' => ?_); skip))
          | ((with_reducible show Gate _ _ _); refine Gate.intro (fun g => ?_) (fun g => ?_) <;> (try subst g))
          ) <;> ((try ((try simp only [row, En.l, Ky.l, Ac.l, front_eq] at h'); (try simp only [front_eq, fronts_nil, fronts_cons, List.getElem?_cons_zero, List.getElem?_cons_succ, List.eraseIdx_cons_zero, List.eraseIdx_cons_succ, List.cons_append, List.nil_append, putL_cons, putL_nil, List.set_cons_zero, List.set_cons_succ, Nat.reduceAdd] at h'); clear h; have h := h'; clear h'; (try have fc := h.ci 0 rfl); (try have fl := h.li 0 rfl); (try have fc := h.ci 1 rfl); (try have fl := h.li 1 rfl); (try have fc := h.ci 2 rfl); (try have fl := h.li 2 rfl); (try have fc := h.ci 3 rfl); (try have fl := h.li 3 rfl); (try have fc := h.ci 4 rfl); (try have fl := h.li 4 rfl); (try have fc := h.ci 5 rfl); (try have fl := h.li 5 rfl); (try have fc := h.ci 6 rfl); (try have fl := h.li 6 rfl); (try have fc := h.ci 7 rfl); (try have fl := h.li 7 rfl))); ((try simp only [S, TY, reduceCtorEq, nq0, nq1, nq2, nq3, nq4, iq0, iq1, iq2, iq3, iq4, iq5, iq6, iq7, iq8, hg1, hg2, *]); (try (simp (disch := omega) only [W2, Int.cast_ofNat_Int]; (try simp only [S, TY, reduceCtorEq, nq0, nq1, nq2, nq3, nq4, iq0, iq1, iq2, iq3, iq4, iq5, iq6, iq7, iq8, hg1, hg2, *]))); repeat ((first | (refine cl_drawi 4 D106_4 (List.range 7) (by decide) (by kernel_rfl) ?_; unfold D106_4)); simp only [S, TY, reduceCtorEq, nq0, nq1, nq2, nq3, nq4, iq0, iq1, iq2, iq3, iq4, iq5, iq6, iq7, iq8, hg1, hg2, *]; (try (simp (disch := omega) only [W2, Int.cast_ofNat_Int]; (try simp only [S, TY, reduceCtorEq, nq0, nq1, nq2, nq3, nq4, iq0, iq1, iq2, iq3, iq4, iq5, iq6, iq7, iq8, hg1, hg2, *])))))))))
      refine (g2_ok hv ⟨2, a2, a3, a4⟩ c id qc qi qb).at_ h [5, 5, 5] _ rfl (fun r B H' hr h' => ?_)
      obtain ⟨rfl, rfl⟩ := hr
      clear h
      simp only [front_eq, fronts_nil, fronts_cons, List.getElem?_cons_zero, List.getElem?_cons_succ, List.eraseIdx_cons_zero, List.eraseIdx_cons_succ, List.cons_append, List.nil_append, putL_cons, putL_nil, List.set_cons_zero, List.set_cons_succ, Nat.reduceAdd] at h'
      have h := h'
      clear h'
      (try simp only at h ⊢)
      rw [hs]
      ((try simp only [S, TY, reduceCtorEq, nq0, nq1, nq2, nq3, nq4, iq0, iq1, iq2, iq3, iq4, iq5, iq6, iq7, iq8]); (try (simp (disch := omega) only [W2, Int.cast_ofNat_Int]; (try simp only [S, TY, reduceCtorEq, nq0, nq1, nq2, nq3, nq4, iq0, iq1, iq2, iq3, iq4, iq5, iq6, iq7, iq8]))); repeat ((first | (refine cl_drawi 4 D106_4 (List.range 7) (by decide) (by kernel_rfl) ?_; unfold D106_4)); simp only [S, TY, reduceCtorEq, nq0, nq1, nq2, nq3, nq4, iq0, iq1, iq2, iq3, iq4, iq5, iq6, iq7, iq8]; (try (simp (disch := omega) only [W2, Int.cast_ofNat_Int]; (try simp only [S, TY, reduceCtorEq, nq0, nq1, nq2, nq3, nq4, iq0, iq1, iq2, iq3, iq4, iq5, iq6, iq7, iq8])))))
      cases oc with
      | drop =>
        refine ⟨rfl, sg.st (h.front 5) rfl rfl (fun H2 h2 => ?_)⟩
        simp only [front_eq, fronts_nil, fronts_cons, List.getElem?_cons_zero, List.getElem?_cons_succ, List.eraseIdx_cons_zero, List.eraseIdx_cons_succ, List.cons_append, List.nil_append, putL_cons, putL_nil, List.set_cons_zero, List.set_cons_succ, Nat.reduceAdd] at h2
        have fl := h2.li 0 rfl
        ((try simp only [S, TY, reduceCtorEq, nq0, nq1, nq2, nq3, nq4, iq0, iq1, iq2, iq3, iq4, iq5, iq6, iq7, iq8, fl]); (try (simp (disch := omega) only [W2, Int.cast_ofNat_Int]; (try simp only [S, TY, reduceCtorEq, nq0, nq1, nq2, nq3, nq4, iq0, iq1, iq2, iq3, iq4, iq5, iq6, iq7, iq8, fl]))); repeat ((first | (refine cl_drawi 4 D106_4 (List.range 7) (by decide) (by kernel_rfl) ?_; unfold D106_4)); simp only [S, TY, reduceCtorEq, nq0, nq1, nq2, nq3, nq4, iq0, iq1, iq2, iq3, iq4, iq5, iq6, iq7, iq8, fl]; (try (simp (disch := omega) only [W2, Int.cast_ofNat_Int]; (try simp only [S, TY, reduceCtorEq, nq0, nq1, nq2, nq3, nq4, iq0, iq1, iq2, iq3, iq4, iq5, iq6, iq7, iq8, fl])))))
        exact fin_take (B := [_, _, _, _]) (h2.fronts [5, 1, 1, 1]) ⟨rfl, rfl⟩
      | del p g s =>
        refine ⟨rfl, sg.st (h.front 5) rfl rfl (fun H2 h2 => ?_)⟩
        simp only [front_eq, fronts_nil, fronts_cons, List.getElem?_cons_zero, List.getElem?_cons_succ, List.eraseIdx_cons_zero, List.eraseIdx_cons_succ, List.cons_append, List.nil_append, putL_cons, putL_nil, List.set_cons_zero, List.set_cons_succ, Nat.reduceAdd] at h2
        have fl := h2.li 0 rfl
        ((try simp only [S, TY, reduceCtorEq, nq0, nq1, nq2, nq3, nq4, iq0, iq1, iq2, iq3, iq4, iq5, iq6, iq7, iq8, fl]); (try (simp (disch := omega) only [W2, Int.cast_ofNat_Int]; (try simp only [S, TY, reduceCtorEq, nq0, nq1, nq2, nq3, nq4, iq0, iq1, iq2, iq3, iq4, iq5, iq6, iq7, iq8, fl]))); repeat ((first | (refine cl_drawi 4 D106_4 (List.range 7) (by decide) (by kernel_rfl) ?_; unfold D106_4)); simp only [S, TY, reduceCtorEq, nq0, nq1, nq2, nq3, nq4, iq0, iq1, iq2, iq3, iq4, iq5, iq6, iq7, iq8, fl]; (try (simp (disch := omega) only [W2, Int.cast_ofNat_Int]; (try simp only [S, TY, reduceCtorEq, nq0, nq1, nq2, nq3, nq4, iq0, iq1, iq2, iq3, iq4, iq5, iq6, iq7, iq8, fl])))))
        exact fin_take (B := [_, _, _, _]) (h2.fronts [5, 1, 1, 1]) ⟨rfl, rfl⟩
      | snt k o f t p g i =>
        refine ⟨rfl, sg.st (h.front 5) rfl rfl (fun H2 h2 => ?_)⟩
        simp only [front_eq, fronts_nil, fronts_cons, List.getElem?_cons_zero, List.getElem?_cons_succ, List.eraseIdx_cons_zero, List.eraseIdx_cons_succ, List.cons_append, List.nil_append, putL_cons, putL_nil, List.set_cons_zero, List.set_cons_succ, Nat.reduceAdd] at h2
        have fl := h2.li 0 rfl
        ((try simp only [S, TY, reduceCtorEq, nq0, nq1, nq2, nq3, nq4, iq0, iq1, iq2, iq3, iq4, iq5, iq6, iq7, iq8, fl]); (try (simp (disch := omega) only [W2, Int.cast_ofNat_Int]; (try simp only [S, TY, reduceCtorEq, nq0, nq1, nq2, nq3, nq4, iq0, iq1, iq2, iq3, iq4, iq5, iq6, iq7, iq8, fl]))); repeat ((first | (refine cl_drawi 4 D106_4 (List.range 7) (by decide) (by kernel_rfl) ?_; unfold D106_4)); simp only [S, TY, reduceCtorEq, nq0, nq1, nq2, nq3, nq4, iq0, iq1, iq2, iq3, iq4, iq5, iq6, iq7, iq8, fl]; (try (simp (disch := omega) only [W2, Int.cast_ofNat_Int]; (try simp only [S, TY, reduceCtorEq, nq0, nq1, nq2, nq3, nq4, iq0, iq1, iq2, iq3, iq4, iq5, iq6, iq7, iq8, fl])))))
        exact fin_take (B := [_, _, _, _]) (h2.fronts [5, 1, 1, 1]) ⟨rfl, rfl⟩
    · obtain rfl : Oc.drop = oc := by rw [← hoc]; unfold wayM; rw [if_neg e1, if_neg e2]
      refine Con.intro Try.func106 rfl (Nat.le_of_ble_eq_true (by kernel_rfl)) (by kernel_rfl) Try.results106 ?_
      intro H h
      ((try simp only [S, TY, reduceCtorEq, nq0, nq1, nq2, nq3, nq4, iq0, iq1, iq2, iq3, iq4, iq5, iq6, iq7, iq8]); (try (simp (disch := omega) only [W2, Int.cast_ofNat_Int]; (try simp only [S, TY, reduceCtorEq, nq0, nq1, nq2, nq3, nq4, iq0, iq1, iq2, iq3, iq4, iq5, iq6, iq7, iq8]))); repeat ((first | (refine cl_drawi 4 D106_4 (List.range 7) (by decide) (by kernel_rfl) ?_; unfold D106_4)); simp only [S, TY, reduceCtorEq, nq0, nq1, nq2, nq3, nq4, iq0, iq1, iq2, iq3, iq4, iq5, iq6, iq7, iq8]; (try (simp (disch := omega) only [W2, Int.cast_ofNat_Int]; (try simp only [S, TY, reduceCtorEq, nq0, nq1, nq2, nq3, nq4, iq0, iq1, iq2, iq3, iq4, iq5, iq6, iq7, iq8])))))
      iterate 14 (all_goals (try ((first
          | ((with_reducible show CallsH _ _ 173 _ _ _); (refine (Look_ok (l := t) hk2 ⟨k1, k2, k3, k4, k5⟩ (by omega)).at_ h [3] _ rfl (fun r B H' hr h' => ?_); obtain ⟨rfl, rfl⟩ := hr; rw [ha]; skip))
          | ((with_reducible show fin _ _ _); first | (exact fin_take (B := [_, _, _, _]) (h.fronts [2, 4, 4, 4]) ⟨rfl, rfl⟩))
          | ((with_reducible show New _ _ _); first | (refine New_sl h 1 rfl (fun b H' h' => ?_); skip) | (refine New_qsl h 1 rfl (fun b => rfl) (fun b H' h' => ?_); skip) | (refine New_ob h (fun b H' h' => ?_); skip) | (refine New_qob h (fun b H' h' => ?_); skip))
          | ((with_reducible show St _ _); first | (refine sg.st (h.front 0) rfl rfl (fun H' h' => ?_); skip) | (refine sg.st (h.front 1) rfl rfl (fun H' h' => ?_); skip) | (refine sg.st (h.front 2) rfl rfl (fun H' h' => ?_); skip) | (refine sg.st (h.front 3) rfl rfl (fun H' h' => ?_); skip) | (refine sg.st (h.front 4) rfl rfl (fun H' h' => ?_); skip) | (refine sg.st (h.front 5) rfl rfl (fun H' h' => ?_); skip) | (refine sg.st (h.front 6) rfl rfl (fun H' h' => ?_); skip) | (refine sg.st (h.front 7) rfl rfl (fun H' h' => ?_); skip))
          | ((with_reducible show Gate _ _ _); refine Gate.intro (fun g => ?_) (fun g => ?_) <;> (try subst g))
          ) <;> ((try ((try simp only [row, En.l, Ky.l, Ac.l, front_eq] at h'); (try simp only [front_eq, fronts_nil, fronts_cons, List.getElem?_cons_zero, List.getElem?_cons_succ, List.eraseIdx_cons_zero, List.eraseIdx_cons_succ, List.cons_append, List.nil_append, putL_cons, putL_nil, List.set_cons_zero, List.set_cons_succ, Nat.reduceAdd] at h'); clear h; have h := h'; clear h'; (try have fc := h.ci 0 rfl); (try have fl := h.li 0 rfl); (try have fc := h.ci 1 rfl); (try have fl := h.li 1 rfl); (try have fc := h.ci 2 rfl); (try have fl := h.li 2 rfl); (try have fc := h.ci 3 rfl); (try have fl := h.li 3 rfl); (try have fc := h.ci 4 rfl); (try have fl := h.li 4 rfl); (try have fc := h.ci 5 rfl); (try have fl := h.li 5 rfl); (try have fc := h.ci 6 rfl); (try have fl := h.li 6 rfl); (try have fc := h.ci 7 rfl); (try have fl := h.li 7 rfl))); ((try simp only [S, TY, reduceCtorEq, nq0, nq1, nq2, nq3, nq4, iq0, iq1, iq2, iq3, iq4, iq5, iq6, iq7, iq8, *]); (try (simp (disch := omega) only [W2, Int.cast_ofNat_Int]; (try simp only [S, TY, reduceCtorEq, nq0, nq1, nq2, nq3, nq4, iq0, iq1, iq2, iq3, iq4, iq5, iq6, iq7, iq8, *]))); repeat ((first | (refine cl_drawi 4 D106_4 (List.range 7) (by decide) (by kernel_rfl) ?_; unfold D106_4)); simp only [S, TY, reduceCtorEq, nq0, nq1, nq2, nq3, nq4, iq0, iq1, iq2, iq3, iq4, iq5, iq6, iq7, iq8, *]; (try (simp (disch := omega) only [W2, Int.cast_ofNat_Int]; (try simp only [S, TY, reduceCtorEq, nq0, nq1, nq2, nq3, nq4, iq0, iq1, iq2, iq3, iq4, iq5, iq6, iq7, iq8, *])))))))))
      all_goals (exfalso; omega)
end Go.Proofs.Ytanhmbdcdbcfmaa.Dp
