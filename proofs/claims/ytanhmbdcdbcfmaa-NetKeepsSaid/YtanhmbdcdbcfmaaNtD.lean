/- The document's net, over the machine. -/
import Derived.Test.YtanhmbdcdbcfmaaNtK
set_option linter.unusedVariables false
set_option linter.unusedSimpArgs false
set_option maxRecDepth 10000
set_option maxHeartbeats 4000000
namespace Go.Proofs.Ytanhmbdcdbcfmaa.NtD
open Nat renaming reduceEqDiff → nq0, reduceAdd → nq1, reduceLeDiff → nq2, reduceBEq → nq3, reduceMul → nq4
open Int renaming reduceBEq → iq0, reduceEq → iq1, reduceLT → iq2, reduceLE → iq3, reduceAdd → iq4, reduceSub → iq5, reduceMul → iq6, reduceToNat → iq7, cast_ofNat_Int → iq8
open Go Go.Sl Go.Proofs Go.Proofs.Ytanhmbdcdbcfmaa.NtP Go.Proofs.Ytanhmbdcdbcfmaa.Nt Go.Proofs.Ytanhmbdcdbcfmaa.NtK
theorem TY : aggN Try.prog 3 = some none ∧
  aggN Try.prog 5 = some none ∧
  aggN Try.prog 9 = some none ∧
  aggN Try.prog 24 = some none ∧
  aggN Try.prog 30 = some none ∧
  aggN Try.prog 143 = some none ∧
  aggN Try.prog 144 = some none ∧
  aggN Try.prog 146 = some (some 3) ∧
  aggN Try.prog 152 = some (some 3) ∧
  aggN Try.prog 160 = some (some 3) ∧
  apI Try.prog 24 = some (5, 1, 1) ∧
  apI Try.prog 144 = some (160, 3, 32) ∧
  bIs Try.prog 146 = true ∧
  bIs Try.prog 152 = true ∧
  bIs Try.prog 160 = true ∧
  bySl Try.prog 24 = true ∧
  csz Try.prog 3 = some 1 ∧
  csz Try.prog 5 = some 1 ∧
  csz Try.prog 9 = some 1 ∧
  csz Try.prog 24 = some 1 ∧
  csz Try.prog 30 = some 1 ∧
  csz Try.prog 143 = some 1 ∧
  csz Try.prog 144 = some 1 ∧
  csz Try.prog 146 = some 3 ∧
  csz Try.prog 152 = some 3 ∧
  csz Try.prog 160 = some 3 ∧
  eqF Try.prog 160 = some [.i, .i, .s] ∧
  fIs Try.prog 146 0 = true ∧
  fIs Try.prog 146 1 = true ∧
  fIs Try.prog 146 2 = true ∧
  fIs Try.prog 152 0 = true ∧
  fIs Try.prog 152 1 = true ∧
  fIs Try.prog 152 2 = true ∧
  fIs Try.prog 160 0 = true ∧
  fIs Try.prog 160 1 = true ∧
  fIs Try.prog 160 2 = true ∧
  fOff Try.prog 146 0 = 0 ∧
  fOff Try.prog 146 1 = 1 ∧
  fOff Try.prog 146 2 = 2 ∧
  fOff Try.prog 152 0 = 0 ∧
  fOff Try.prog 152 1 = 1 ∧
  fOff Try.prog 152 2 = 2 ∧
  fOff Try.prog 160 0 = 0 ∧
  fOff Try.prog 160 1 = 1 ∧
  fOff Try.prog 160 2 = 2 ∧
  fTy Try.prog 146 0 = 144 ∧
  fTy Try.prog 146 1 = 3 ∧
  fTy Try.prog 146 2 = 3 ∧
  fTy Try.prog 152 0 = 3 ∧
  fTy Try.prog 152 1 = 3 ∧
  fTy Try.prog 152 2 = 24 ∧
  fTy Try.prog 160 0 = 3 ∧
  fTy Try.prog 160 1 = 3 ∧
  fTy Try.prog 160 2 = 9 ∧
  goes Try.prog 82 = true ∧
  goes Try.prog 147 = true ∧
  goes Try.prog 184 = true ∧
  inIs Try.prog 3 = some .i64 ∧
  inIs Try.prog 5 = some .u8 ∧
  inIs Try.prog 30 = some .i64 ∧
  plcs Try.prog 146 = [(0, 1), (1, 1), (2, 1)] ∧
  plcs Try.prog 152 = [(0, 1), (1, 1), (2, 1)] ∧
  plcs Try.prog 160 = [(0, 1), (1, 1), (2, 1)] ∧
  ptIs Try.prog 143 = true ∧
  slEl Try.prog 24 = 5 ∧
  slEl Try.prog 144 = 160 ∧
  slIs Try.prog 24 = true ∧
  slIs Try.prog 144 = true ∧
  slSz Try.prog 24 = 1 ∧
  slSz Try.prog 144 = 3 ∧
  stIs Try.prog 9 = true ∧
  zcs Try.prog 146 = [.slice none 0 0, .int .i64 0, .int .i64 0] ∧
  zcs Try.prog 152 = [.int .i64 0, .int .i64 0, .slice none 0 0] ∧
  zcs Try.prog 160 = [.int .i64 0, .int .i64 0, .string ByteArray.empty] ∧
  zro Try.prog 3 = some (.int .i64 0) ∧
  zro Try.prog 5 = some (.int .u8 0) ∧
  zro Try.prog 9 = some (.string ByteArray.empty) ∧
  zro Try.prog 24 = some (.slice none 0 0) ∧
  zro Try.prog 30 = some (.int .i64 0) ∧
  zro Try.prog 143 = some (.pointer none) ∧
  zro Try.prog 144 = some (.slice none 0 0) ∧
  zro Try.prog 146 = some (.agg #[.slice none 0 0, .int .i64 0, .int .i64 0]) ∧
  zro Try.prog 152 = some (.agg #[.int .i64 0, .int .i64 0, .slice none 0 0]) ∧
  zro Try.prog 160 = some (.agg #[.int .i64 0, .int .i64 0, .string ByteArray.empty]) :=
  ⟨by kernel_rfl, by kernel_rfl, by kernel_rfl, by kernel_rfl, by kernel_rfl, by kernel_rfl, by kernel_rfl, by kernel_rfl, by kernel_rfl, by kernel_rfl, by kernel_rfl, by kernel_rfl, by kernel_rfl, by kernel_rfl, by kernel_rfl, by kernel_rfl, by kernel_rfl, by kernel_rfl, by kernel_rfl, by kernel_rfl, by kernel_rfl, by kernel_rfl, by kernel_rfl, by kernel_rfl, by kernel_rfl, by kernel_rfl, by kernel_rfl, by kernel_rfl, by kernel_rfl, by kernel_rfl, by kernel_rfl, by kernel_rfl, by kernel_rfl, by kernel_rfl, by kernel_rfl, by kernel_rfl, by kernel_rfl, by kernel_rfl, by kernel_rfl, by kernel_rfl, by kernel_rfl, by kernel_rfl, by kernel_rfl, by kernel_rfl, by kernel_rfl, by kernel_rfl, by kernel_rfl, by kernel_rfl, by kernel_rfl, by kernel_rfl, by kernel_rfl, by kernel_rfl, by kernel_rfl, by kernel_rfl, by kernel_rfl, by kernel_rfl, by kernel_rfl, by kernel_rfl, by kernel_rfl, by kernel_rfl, by kernel_rfl, by kernel_rfl, by kernel_rfl, by kernel_rfl, by kernel_rfl, by kernel_rfl, by kernel_rfl, by kernel_rfl, by kernel_rfl, by kernel_rfl, by kernel_rfl, by kernel_rfl, by kernel_rfl, by kernel_rfl, by kernel_rfl, by kernel_rfl, by kernel_rfl, by kernel_rfl, by kernel_rfl, by kernel_rfl, by kernel_rfl, by kernel_rfl, by kernel_rfl, by kernel_rfl⟩
def D146_4 : List Note := Go.Sl.nn [0, 0, 0, 1, 0, 0, 0, 0, 1, 0]
def D184_2 : List Note := Go.Sl.nn [0, 0, 0, 0, 0, 0, 1, 0, 0, 0, 0, 1, 0, 0]
abbrev dil (k c : Int) (b : List UInt8) : List Value := [.int .i64 k, .int .i64 c, .string (bs b)]
abbrev di (x : It) : List Value := dil x.k x.c x.b
abbrev dz : List Value := [.int .i64 0, .int .i64 0, .string ByteArray.empty]
theorem di_len (x : It) : (di x).length = 3 := rfl
theorem di_one (x : It) : ∀ v ∈ di x, v.oneCell' = true := by
  intro v hv
  simp only [di, dil, List.mem_cons, List.not_mem_nil, or_false] at hv
  rcases hv with rfl | rfl | rfl <;> rfl
theorem dis_one (l : List It) : ∀ v ∈ l.flatMap di, v.oneCell' = true := by
  intro v hv
  obtain ⟨x, _, hx⟩ := List.mem_flatMap.1 hv
  exact di_one x v hx
abbrev dC (p : Nat) (v : Value) (room lost : Int) : Asn := ob p (.cells #[v, .int .i64 room, .int .i64 lost] 146 (0, 0))
def dN (p : Nat) (n : Nt) : Asn := fun H => ∃ v : Value, seps [dC p v n.room n.lost, own 160 3 v (n.l.flatMap di)] H
theorem dN_open {G H : Hp} {p : Nat} {n : Nt} {L : List Asn} (h : sg G (dN p n :: L) H) : ∃ (a : Option Addr) (c : Nat), n.l.length ≤ c ∧
    sg G (dC p (.slice a n.l.length c) n.room n.lost :: own 160 3 (.slice a n.l.length c) (n.l.flatMap di) :: L) H := by
  obtain ⟨hd, H1, H2, rfl, hd2, ⟨v, h1⟩, h2⟩ := h
  have h3 : sg G (dC p v n.room n.lost :: own 160 3 v (n.l.flatMap di) :: L) (H1.un H2) := ⟨hd, seps_append (l := [_, _]).2 ⟨H1, H2, rfl, hd2, h1, h2⟩⟩
  obtain ⟨a, m, c, rfl, e1, f1⟩ := h3.sl 1 rfl Rd_own
  rw [flat_len di_len] at e1
  obtain rfl : m = n.l.length := by omega
  exact ⟨a, c, f1, h3⟩
theorem dN_shut {G H : Hp} {p : Nat} (n : Nt) {v : Value} {L : List Asn} (h : sg G (dC p v n.room n.lost :: own 160 3 v (n.l.flatMap di) :: L) H) : sg G (dN p n :: L) H :=
  h.shut [_, _] fun H _ h => ⟨v, h⟩
theorem Of_ok {G : Hp} {u : Value} (x : It) (hv : rds G 1 u (bv x.b)) : Con Try.prog G 81 [.agg (il x.k x.c u).toArray] [] (fun r B => r = .agg (di x).toArray ∧ B = []) := by
  have hv0 := hv
  obtain ⟨va, n, c, rfl, -, -⟩ := hv.slice
  refine Con.intro Try.func81 rfl (Nat.le_of_ble_eq_true (by kernel_rfl)) (by kernel_rfl) Try.results81 ?_
  intro H hH
  ((try simp only [S, TY, reduceCtorEq, nq0, nq1, nq2, nq3, nq4, iq0, iq1, iq2, iq3, iq4, iq5, iq6, iq7, iq8]); (try (simp (disch := omega) only [W2, Int.cast_ofNat_Int]; (try simp only [S, TY, reduceCtorEq, nq0, nq1, nq2, nq3, nq4, iq0, iq1, iq2, iq3, iq4, iq5, iq6, iq7, iq8]))))
  intro b hb hg
  have h1 := hH.new hb hg (.cells (il x.k x.c (.slice va n c)).toArray 152 (0, 0))
  ((try simp only [S, TY, reduceCtorEq, nq0, nq1, nq2, nq3, nq4, iq0, iq1, iq2, iq3, iq4, iq5, iq6, iq7, iq8]); (try (simp (disch := omega) only [W2, Int.cast_ofNat_Int]; (try simp only [S, TY, reduceCtorEq, nq0, nq1, nq2, nq3, nq4, iq0, iq1, iq2, iq3, iq4, iq5, iq6, iq7, iq8]))))
  intro b2 hb2 hg2
  have h2 := h1.new hb2 hg2 (.cells dz.toArray 160 (0, 0))
  have c2 := (h2.front 1).c0
  have s2 := rStr_of (P := Try.prog) (h2.ro hv0)
  ((try simp only [S, TY, reduceCtorEq, nq0, nq1, nq2, nq3, nq4, iq0, iq1, iq2, iq3, iq4, iq5, iq6, iq7, iq8, c2, s2]); (try (simp (disch := omega) only [W2, Int.cast_ofNat_Int]; (try simp only [S, TY, reduceCtorEq, nq0, nq1, nq2, nq3, nq4, iq0, iq1, iq2, iq3, iq4, iq5, iq6, iq7, iq8, c2, s2]))))
  refine sg.stAll (vs := di x) h2 rfl rfl fun H3 h3 => ?_
  have w3 := h3.ld
  simp only [List.length_cons, List.length_nil, Nat.reduceAdd] at w3
  ((try simp only [S, TY, reduceCtorEq, nq0, nq1, nq2, nq3, nq4, iq0, iq1, iq2, iq3, iq4, iq5, iq6, iq7, iq8, w3]); (try (simp (disch := omega) only [W2, Int.cast_ofNat_Int]; (try simp only [S, TY, reduceCtorEq, nq0, nq1, nq2, nq3, nq4, iq0, iq1, iq2, iq3, iq4, iq5, iq6, iq7, iq8, w3]))))
  exact fin_take (B := []) h3 ⟨rfl, rfl⟩
theorem dRight_ok {G : Hp} (x : It) : Con Try.prog G 82 [.agg (di x).toArray] [] (fun r B => r = .bool x.ok ∧ B = []) := by
  obtain ⟨k, cc, b⟩ := x
  simp only [di]
  refine Con.intro Try.func82 rfl (Nat.le_of_ble_eq_true (by kernel_rfl)) (by kernel_rfl) Try.results82 ?_
  intro H hH
  ((try simp only [S, TY, reduceCtorEq, nq0, nq1, nq2, nq3, nq4, iq0, iq1, iq2, iq3, iq4, iq5, iq6, iq7, iq8]); (try (simp (disch := omega) only [W2, Int.cast_ofNat_Int]; (try simp only [S, TY, reduceCtorEq, nq0, nq1, nq2, nq3, nq4, iq0, iq1, iq2, iq3, iq4, iq5, iq6, iq7, iq8]))))
  intro q hq hg
  have h1 := hH.new hq hg (.cells (dil k cc b).toArray 160 (0, 0))
  have c1 := h1.c0
  obtain ⟨res, hres⟩ : ∃ r, It.ok ⟨k, cc, b⟩ = r := ⟨_, rfl⟩
  rw [hres]
  have key : ∀ r : Bool, r = It.ok ⟨k, cc, b⟩ → fin (fun r B => r = .bool res ∧ B = []) (.returned (.bool r)) (H.set q (.cells (dil k cc b).toArray 160 (0, 0))) := by
    rintro r rfl
    exact fin_take (B := []) h1 ⟨by rw [hres], rfl⟩
  have hok : It.ok ⟨k, cc, b⟩ = decide ((0 ≤ k ∧ k ≤ 2) ∧ (0 ≤ cc ∧ cc ≤ 15) ∧ b.length ≤ 2000) := by
    unfold It.ok
    exact decide_eq_decide.2 (by simp only; omega)
  rw [hok] at key
  by_cases g1 : 0 ≤ k
  · by_cases g2 : k ≤ 2
    · by_cases g3 : 0 ≤ cc
      · by_cases g4 : cc ≤ 15
        · ((try simp only [S, TY, reduceCtorEq, nq0, nq1, nq2, nq3, nq4, iq0, iq1, iq2, iq3, iq4, iq5, iq6, iq7, iq8, c1, g1, g2, g3, g4]); (try (simp (disch := omega) only [W2, Int.cast_ofNat_Int]; (try simp only [S, TY, reduceCtorEq, nq0, nq1, nq2, nq3, nq4, iq0, iq1, iq2, iq3, iq4, iq5, iq6, iq7, iq8, c1, g1, g2, g3, g4]))))
          refine key _ ?_
          simp [g1, g2, g3, g4]
          omega
        · ((try simp only [S, TY, reduceCtorEq, nq0, nq1, nq2, nq3, nq4, iq0, iq1, iq2, iq3, iq4, iq5, iq6, iq7, iq8, c1, g1, g2, g3, g4]); (try (simp (disch := omega) only [W2, Int.cast_ofNat_Int]; (try simp only [S, TY, reduceCtorEq, nq0, nq1, nq2, nq3, nq4, iq0, iq1, iq2, iq3, iq4, iq5, iq6, iq7, iq8, c1, g1, g2, g3, g4]))))
          refine key _ ?_
          simp [g1, g2, g3, g4]
      · ((try simp only [S, TY, reduceCtorEq, nq0, nq1, nq2, nq3, nq4, iq0, iq1, iq2, iq3, iq4, iq5, iq6, iq7, iq8, c1, g1, g2, g3]); (try (simp (disch := omega) only [W2, Int.cast_ofNat_Int]; (try simp only [S, TY, reduceCtorEq, nq0, nq1, nq2, nq3, nq4, iq0, iq1, iq2, iq3, iq4, iq5, iq6, iq7, iq8, c1, g1, g2, g3]))))
        refine key _ ?_
        simp [g1, g2, g3]
    · ((try simp only [S, TY, reduceCtorEq, nq0, nq1, nq2, nq3, nq4, iq0, iq1, iq2, iq3, iq4, iq5, iq6, iq7, iq8, c1, g1, g2]); (try (simp (disch := omega) only [W2, Int.cast_ofNat_Int]; (try simp only [S, TY, reduceCtorEq, nq0, nq1, nq2, nq3, nq4, iq0, iq1, iq2, iq3, iq4, iq5, iq6, iq7, iq8, c1, g1, g2]))))
      refine key _ ?_
      simp [g1, g2]
  · ((try simp only [S, TY, reduceCtorEq, nq0, nq1, nq2, nq3, nq4, iq0, iq1, iq2, iq3, iq4, iq5, iq6, iq7, iq8, c1, g1]); (try (simp (disch := omega) only [W2, Int.cast_ofNat_Int]; (try simp only [S, TY, reduceCtorEq, nq0, nq1, nq2, nq3, nq4, iq0, iq1, iq2, iq3, iq4, iq5, iq6, iq7, iq8, c1, g1]))))
    refine key _ ?_
    simp [g1]
theorem dPut_ok {G : Hp} {p : Nat} {n : Nt} {N : Int} (hw : n.wf N) (hN : N ≤ 1000000) (x : It) : Con Try.prog G 184 [.pointer (some ⟨p, 0, none⟩), .agg (di x).toArray] [dN p n] (fun r B => r = .bool (n.put1 x).2 ∧ B = [dN p (n.put1 x).1]) := by
  have hwr := hw.r
  have hwl := hw.l
  have hwt := hw.t
  obtain ⟨res, hres⟩ : ∃ r, n.put1 x = r := ⟨_, rfl⟩
  rw [hres]
  unfold Nt.put1 at hres
  obtain ⟨k, cc, b⟩ := x
  simp only [di] at *
  refine Con.intro Try.func184 rfl (Nat.le_of_ble_eq_true (by kernel_rfl)) (by kernel_rfl) Try.results184 ?_
  intro H hH
  ((try simp only [S, TY, reduceCtorEq, nq0, nq1, nq2, nq3, nq4, iq0, iq1, iq2, iq3, iq4, iq5, iq6, iq7, iq8]); (try (simp (disch := omega) only [W2, Int.cast_ofNat_Int]; (try simp only [S, TY, reduceCtorEq, nq0, nq1, nq2, nq3, nq4, iq0, iq1, iq2, iq3, iq4, iq5, iq6, iq7, iq8]))); repeat ((first | (refine cl_drawi 2 D184_2 (List.range 14) (by decide) (by kernel_rfl) ?_; unfold D184_2)); simp only [S, TY, reduceCtorEq, nq0, nq1, nq2, nq3, nq4, iq0, iq1, iq2, iq3, iq4, iq5, iq6, iq7, iq8]; (try (simp (disch := omega) only [W2, Int.cast_ofNat_Int]; (try simp only [S, TY, reduceCtorEq, nq0, nq1, nq2, nq3, nq4, iq0, iq1, iq2, iq3, iq4, iq5, iq6, iq7, iq8])))))
  intro q hq hg
  have h0 := hH.new hq hg (.cells (dil k cc b).toArray 160 (0, 0))
  obtain ⟨a, c, hc, h1⟩ := dN_open (h0.front 1)
  simp only [front_eq, fronts_nil, fronts_cons, List.getElem?_cons_zero, List.getElem?_cons_succ, List.eraseIdx_cons_zero, List.eraseIdx_cons_succ, List.cons_append, List.nil_append, putL_cons, putL_nil, List.set_cons_zero, List.set_cons_succ, Nat.reduceAdd] at h1
  have w1 := h1.li 2 rfl
  ((try simp only [S, TY, reduceCtorEq, nq0, nq1, nq2, nq3, nq4, iq0, iq1, iq2, iq3, iq4, iq5, iq6, iq7, iq8, w1]); (try (simp (disch := omega) only [W2, Int.cast_ofNat_Int]; (try simp only [S, TY, reduceCtorEq, nq0, nq1, nq2, nq3, nq4, iq0, iq1, iq2, iq3, iq4, iq5, iq6, iq7, iq8, w1]))); repeat ((first | (refine cl_drawi 2 D184_2 (List.range 14) (by decide) (by kernel_rfl) ?_; unfold D184_2)); simp only [S, TY, reduceCtorEq, nq0, nq1, nq2, nq3, nq4, iq0, iq1, iq2, iq3, iq4, iq5, iq6, iq7, iq8, w1]; (try (simp (disch := omega) only [W2, Int.cast_ofNat_Int]; (try simp only [S, TY, reduceCtorEq, nq0, nq1, nq2, nq3, nq4, iq0, iq1, iq2, iq3, iq4, iq5, iq6, iq7, iq8, w1])))))
  refine (dRight_ok ⟨k, cc, b⟩).at_ h1 [] _ rfl fun r B H2 hr h2 => ?_
  obtain ⟨rfl, rfl⟩ := hr
  simp only [front_eq, fronts_nil, fronts_cons, List.getElem?_cons_zero, List.getElem?_cons_succ, List.eraseIdx_cons_zero, List.eraseIdx_cons_succ, List.cons_append, List.nil_append, putL_cons, putL_nil, List.set_cons_zero, List.set_cons_succ, Nat.reduceAdd] at h2
  have c2 := h2.c0
  have w2 := h2.li 2 rfl
  by_cases g1 : It.ok ⟨k, cc, b⟩ = true
  · by_cases g2 : n.room ≤ (n.l.length : Int)
    · rw [if_neg (by omega)] at hres
      subst hres
      ((try simp only [S, TY, reduceCtorEq, nq0, nq1, nq2, nq3, nq4, iq0, iq1, iq2, iq3, iq4, iq5, iq6, iq7, iq8, c2, g1, g2]); (try (simp (disch := omega) only [W2, Int.cast_ofNat_Int]; (try simp only [S, TY, reduceCtorEq, nq0, nq1, nq2, nq3, nq4, iq0, iq1, iq2, iq3, iq4, iq5, iq6, iq7, iq8, c2, g1, g2]))); repeat ((first | (refine cl_drawi 2 D184_2 (List.range 14) (by decide) (by kernel_rfl) ?_; unfold D184_2)); simp only [S, TY, reduceCtorEq, nq0, nq1, nq2, nq3, nq4, iq0, iq1, iq2, iq3, iq4, iq5, iq6, iq7, iq8, c2, g1, g2]; (try (simp (disch := omega) only [W2, Int.cast_ofNat_Int]; (try simp only [S, TY, reduceCtorEq, nq0, nq1, nq2, nq3, nq4, iq0, iq1, iq2, iq3, iq4, iq5, iq6, iq7, iq8, c2, g1, g2])))))
      refine sg.st h2 rfl rfl fun H3 h3 => ?_
      simp only [front_eq, fronts_nil, fronts_cons, List.getElem?_cons_zero, List.getElem?_cons_succ, List.eraseIdx_cons_zero, List.eraseIdx_cons_succ, List.cons_append, List.nil_append, putL_cons, putL_nil, List.set_cons_zero, List.set_cons_succ, Nat.reduceAdd] at h3
      ((try simp only [S, TY, reduceCtorEq, nq0, nq1, nq2, nq3, nq4, iq0, iq1, iq2, iq3, iq4, iq5, iq6, iq7, iq8]); (try (simp (disch := omega) only [W2, Int.cast_ofNat_Int]; (try simp only [S, TY, reduceCtorEq, nq0, nq1, nq2, nq3, nq4, iq0, iq1, iq2, iq3, iq4, iq5, iq6, iq7, iq8]))); repeat ((first | (refine cl_drawi 2 D184_2 (List.range 14) (by decide) (by kernel_rfl) ?_; unfold D184_2)); simp only [S, TY, reduceCtorEq, nq0, nq1, nq2, nq3, nq4, iq0, iq1, iq2, iq3, iq4, iq5, iq6, iq7, iq8]; (try (simp (disch := omega) only [W2, Int.cast_ofNat_Int]; (try simp only [S, TY, reduceCtorEq, nq0, nq1, nq2, nq3, nq4, iq0, iq1, iq2, iq3, iq4, iq5, iq6, iq7, iq8])))))
      exact fin_take (B := [_]) (dN_shut ⟨n.l, n.room, n.lost + 1⟩ h3) ⟨rfl, rfl⟩
    · rw [if_pos ⟨g1, by omega⟩] at hres
      subst hres
      ((try simp only [S, TY, reduceCtorEq, nq0, nq1, nq2, nq3, nq4, iq0, iq1, iq2, iq3, iq4, iq5, iq6, iq7, iq8, c2, g1, g2]); (try (simp (disch := omega) only [W2, Int.cast_ofNat_Int]; (try simp only [S, TY, reduceCtorEq, nq0, nq1, nq2, nq3, nq4, iq0, iq1, iq2, iq3, iq4, iq5, iq6, iq7, iq8, c2, g1, g2]))); repeat ((first | (refine cl_drawi 2 D184_2 (List.range 14) (by decide) (by kernel_rfl) ?_; unfold D184_2)); simp only [S, TY, reduceCtorEq, nq0, nq1, nq2, nq3, nq4, iq0, iq1, iq2, iq3, iq4, iq5, iq6, iq7, iq8, c2, g1, g2]; (try (simp (disch := omega) only [W2, Int.cast_ofNat_Int]; (try simp only [S, TY, reduceCtorEq, nq0, nq1, nq2, nq3, nq4, iq0, iq1, iq2, iq3, iq4, iq5, iq6, iq7, iq8, c2, g1, g2])))))
      intro k3 hk3 hg3
      have h3 := h2.newsl (e := 160) (sz := 3) (n := 0) (xs := []) hk3 hg3 rfl
      have c3 := h3.ci 1 rfl
      ((try simp only [S, TY, reduceCtorEq, nq0, nq1, nq2, nq3, nq4, iq0, iq1, iq2, iq3, iq4, iq5, iq6, iq7, iq8, c3]); (try (simp (disch := omega) only [W2, Int.cast_ofNat_Int]; (try simp only [S, TY, reduceCtorEq, nq0, nq1, nq2, nq3, nq4, iq0, iq1, iq2, iq3, iq4, iq5, iq6, iq7, iq8, c3]))); repeat ((first | (refine cl_drawi 2 D184_2 (List.range 14) (by decide) (by kernel_rfl) ?_; unfold D184_2)); simp only [S, TY, reduceCtorEq, nq0, nq1, nq2, nq3, nq4, iq0, iq1, iq2, iq3, iq4, iq5, iq6, iq7, iq8, c3]; (try (simp (disch := omega) only [W2, Int.cast_ofNat_Int]; (try simp only [S, TY, reduceCtorEq, nq0, nq1, nq2, nq3, nq4, iq0, iq1, iq2, iq3, iq4, iq5, iq6, iq7, iq8, c3])))))
      refine append_sl (show apI Try.prog 144 = some (160, 3, 32) from by kernel_rfl) (show slIs Try.prog 144 = true from by kernel_rfl) h3 (h3.rdsi 2 rfl Rd_own) (dis_one _) (by rw [flat_len di_len]; simp; omega) fun w H4 h4 => ?_
      simp only [front_eq, fronts_nil, fronts_cons, List.getElem?_cons_zero, List.getElem?_cons_succ, List.eraseIdx_cons_zero, List.eraseIdx_cons_succ, List.cons_append, List.nil_append, putL_cons, putL_nil, List.set_cons_zero, List.set_cons_succ, Nat.reduceAdd] at h4
      obtain ⟨wa, wn, wc, rfl, _, _⟩ := h4.sl 0 rfl Rd_own
      have w4 := h4.li 3 rfl
      ((try simp only [S, TY, reduceCtorEq, nq0, nq1, nq2, nq3, nq4, iq0, iq1, iq2, iq3, iq4, iq5, iq6, iq7, iq8, w4]); (try (simp (disch := omega) only [W2, Int.cast_ofNat_Int]; (try simp only [S, TY, reduceCtorEq, nq0, nq1, nq2, nq3, nq4, iq0, iq1, iq2, iq3, iq4, iq5, iq6, iq7, iq8, w4]))); repeat ((first | (refine cl_drawi 2 D184_2 (List.range 14) (by decide) (by kernel_rfl) ?_; unfold D184_2)); simp only [S, TY, reduceCtorEq, nq0, nq1, nq2, nq3, nq4, iq0, iq1, iq2, iq3, iq4, iq5, iq6, iq7, iq8, w4]; (try (simp (disch := omega) only [W2, Int.cast_ofNat_Int]; (try simp only [S, TY, reduceCtorEq, nq0, nq1, nq2, nq3, nq4, iq0, iq1, iq2, iq3, iq4, iq5, iq6, iq7, iq8, w4])))))
      intro k5 hk5 hg5
      have h5 := h4.newsl (e := 160) (sz := 3) (n := 1) (xs := dil k cc b) hk5 hg5 rfl
      ((try simp only [S, TY, reduceCtorEq, nq0, nq1, nq2, nq3, nq4, iq0, iq1, iq2, iq3, iq4, iq5, iq6, iq7, iq8]); (try (simp (disch := omega) only [W2, Int.cast_ofNat_Int]; (try simp only [S, TY, reduceCtorEq, nq0, nq1, nq2, nq3, nq4, iq0, iq1, iq2, iq3, iq4, iq5, iq6, iq7, iq8]))); repeat ((first | (refine cl_drawi 2 D184_2 (List.range 14) (by decide) (by kernel_rfl) ?_; unfold D184_2)); simp only [S, TY, reduceCtorEq, nq0, nq1, nq2, nq3, nq4, iq0, iq1, iq2, iq3, iq4, iq5, iq6, iq7, iq8]; (try (simp (disch := omega) only [W2, Int.cast_ofNat_Int]; (try simp only [S, TY, reduceCtorEq, nq0, nq1, nq2, nq3, nq4, iq0, iq1, iq2, iq3, iq4, iq5, iq6, iq7, iq8])))))
      refine append_sl (show apI Try.prog 144 = some (160, 3, 32) from by kernel_rfl) (show slIs Try.prog 144 = true from by kernel_rfl) (h5.front 1) (h5.rdsi 0 rfl Rd_own) (di_one ⟨k, cc, b⟩) (by rw [flat_len di_len]; simp; omega) fun w H6 h6 => ?_
      simp only [front_eq, fronts_nil, fronts_cons, List.getElem?_cons_zero, List.getElem?_cons_succ, List.eraseIdx_cons_zero, List.eraseIdx_cons_succ, List.cons_append, List.nil_append, putL_cons, putL_nil, List.set_cons_zero, List.set_cons_succ, Nat.reduceAdd] at h6
      obtain ⟨ya, yn, yc, rfl, _, _⟩ := h6.sl 0 rfl Rd_own
      ((try simp only [S, TY, reduceCtorEq, nq0, nq1, nq2, nq3, nq4, iq0, iq1, iq2, iq3, iq4, iq5, iq6, iq7, iq8]); (try (simp (disch := omega) only [W2, Int.cast_ofNat_Int]; (try simp only [S, TY, reduceCtorEq, nq0, nq1, nq2, nq3, nq4, iq0, iq1, iq2, iq3, iq4, iq5, iq6, iq7, iq8]))); repeat ((first | (refine cl_drawi 2 D184_2 (List.range 14) (by decide) (by kernel_rfl) ?_; unfold D184_2)); simp only [S, TY, reduceCtorEq, nq0, nq1, nq2, nq3, nq4, iq0, iq1, iq2, iq3, iq4, iq5, iq6, iq7, iq8]; (try (simp (disch := omega) only [W2, Int.cast_ofNat_Int]; (try simp only [S, TY, reduceCtorEq, nq0, nq1, nq2, nq3, nq4, iq0, iq1, iq2, iq3, iq4, iq5, iq6, iq7, iq8])))))
      refine sg.st (h6.front 2) rfl rfl fun H7 h7 => ?_
      simp only [front_eq, fronts_nil, fronts_cons, List.getElem?_cons_zero, List.getElem?_cons_succ, List.eraseIdx_cons_zero, List.eraseIdx_cons_succ, List.cons_append, List.nil_append, putL_cons, putL_nil, List.set_cons_zero, List.set_cons_succ, Nat.reduceAdd] at h7
      ((try simp only [S, TY, reduceCtorEq, nq0, nq1, nq2, nq3, nq4, iq0, iq1, iq2, iq3, iq4, iq5, iq6, iq7, iq8]); (try (simp (disch := omega) only [W2, Int.cast_ofNat_Int]; (try simp only [S, TY, reduceCtorEq, nq0, nq1, nq2, nq3, nq4, iq0, iq1, iq2, iq3, iq4, iq5, iq6, iq7, iq8]))); repeat ((first | (refine cl_drawi 2 D184_2 (List.range 14) (by decide) (by kernel_rfl) ?_; unfold D184_2)); simp only [S, TY, reduceCtorEq, nq0, nq1, nq2, nq3, nq4, iq0, iq1, iq2, iq3, iq4, iq5, iq6, iq7, iq8]; (try (simp (disch := omega) only [W2, Int.cast_ofNat_Int]; (try simp only [S, TY, reduceCtorEq, nq0, nq1, nq2, nq3, nq4, iq0, iq1, iq2, iq3, iq4, iq5, iq6, iq7, iq8])))))
      have e : n.l.flatMap di ++ dil k cc b = (n.l ++ [(⟨k, cc, b⟩ : It)]).flatMap di := by simp
      rw [e] at h7
      exact fin_take (B := [_]) (dN_shut ⟨n.l ++ [⟨k, cc, b⟩], n.room, n.lost⟩ h7) ⟨rfl, rfl⟩
  · rw [if_neg (fun z => g1 z.1)] at hres
    subst hres
    ((try simp only [S, TY, reduceCtorEq, nq0, nq1, nq2, nq3, nq4, iq0, iq1, iq2, iq3, iq4, iq5, iq6, iq7, iq8, c2, g1]); (try (simp (disch := omega) only [W2, Int.cast_ofNat_Int]; (try simp only [S, TY, reduceCtorEq, nq0, nq1, nq2, nq3, nq4, iq0, iq1, iq2, iq3, iq4, iq5, iq6, iq7, iq8, c2, g1]))); repeat ((first | (refine cl_drawi 2 D184_2 (List.range 14) (by decide) (by kernel_rfl) ?_; unfold D184_2)); simp only [S, TY, reduceCtorEq, nq0, nq1, nq2, nq3, nq4, iq0, iq1, iq2, iq3, iq4, iq5, iq6, iq7, iq8, c2, g1]; (try (simp (disch := omega) only [W2, Int.cast_ofNat_Int]; (try simp only [S, TY, reduceCtorEq, nq0, nq1, nq2, nq3, nq4, iq0, iq1, iq2, iq3, iq4, iq5, iq6, iq7, iq8, c2, g1])))))
    refine sg.st h2 rfl rfl fun H3 h3 => ?_
    simp only [front_eq, fronts_nil, fronts_cons, List.getElem?_cons_zero, List.getElem?_cons_succ, List.eraseIdx_cons_zero, List.eraseIdx_cons_succ, List.cons_append, List.nil_append, putL_cons, putL_nil, List.set_cons_zero, List.set_cons_succ, Nat.reduceAdd] at h3
    ((try simp only [S, TY, reduceCtorEq, nq0, nq1, nq2, nq3, nq4, iq0, iq1, iq2, iq3, iq4, iq5, iq6, iq7, iq8]); (try (simp (disch := omega) only [W2, Int.cast_ofNat_Int]; (try simp only [S, TY, reduceCtorEq, nq0, nq1, nq2, nq3, nq4, iq0, iq1, iq2, iq3, iq4, iq5, iq6, iq7, iq8]))); repeat ((first | (refine cl_drawi 2 D184_2 (List.range 14) (by decide) (by kernel_rfl) ?_; unfold D184_2)); simp only [S, TY, reduceCtorEq, nq0, nq1, nq2, nq3, nq4, iq0, iq1, iq2, iq3, iq4, iq5, iq6, iq7, iq8]; (try (simp (disch := omega) only [W2, Int.cast_ofNat_Int]; (try simp only [S, TY, reduceCtorEq, nq0, nq1, nq2, nq3, nq4, iq0, iq1, iq2, iq3, iq4, iq5, iq6, iq7, iq8])))))
    exact fin_take (B := [_]) (dN_shut ⟨n.l, n.room, n.lost + 1⟩ h3) ⟨rfl, rfl⟩
def dAtR (p : Nat) (n : Nt) (m : Nt) (i : Int) (r : Value) (B : List Asn) : Prop := if n.has i then r = .tuple #[.agg (di (n.l.getD i.toNat ⟨0, 0, []⟩)).toArray, .int .i64 0] ∧ B = [dN p m]
  else r = .tuple #[.agg dz.toArray, .int .i64 4] ∧ B = [dN p n]
theorem dAt_ok {G : Hp} {p : Nat} {n : Nt} (i : Int) : Con Try.prog G 147 [.pointer (some ⟨p, 0, none⟩), .int .i64 i] [dN p n] (dAtR p n n i) := by
  refine Con.intro Try.func147 rfl (Nat.le_of_ble_eq_true (by kernel_rfl)) (by kernel_rfl) Try.results147 ?_
  intro H hH
  ((try simp only [S, TY, reduceCtorEq, nq0, nq1, nq2, nq3, nq4, iq0, iq1, iq2, iq3, iq4, iq5, iq6, iq7, iq8]); (try (simp (disch := omega) only [W2, Int.cast_ofNat_Int]; (try simp only [S, TY, reduceCtorEq, nq0, nq1, nq2, nq3, nq4, iq0, iq1, iq2, iq3, iq4, iq5, iq6, iq7, iq8]))))
  intro q hq hg
  have h0 := hH.new hq hg (.cells dz.toArray 160 (0, 0))
  obtain ⟨a, c, hc, h1⟩ := dN_open (h0.front 1)
  simp only [front_eq, fronts_nil, fronts_cons, List.getElem?_cons_zero, List.getElem?_cons_succ, List.eraseIdx_cons_zero, List.eraseIdx_cons_succ, List.cons_append, List.nil_append, putL_cons, putL_nil, List.set_cons_zero, List.set_cons_succ, Nat.reduceAdd] at h1
  have c1 := h1.c0
  by_cases g1 : n.has i
  · have g2 : 0 ≤ i ∧ i < (n.l.length : Int) := g1
    have g3 : ¬ i < 0 := by omega
    have g4 : ¬ (n.l.length : Int) ≤ i := by omega
    have hi : i.toNat < n.l.length := by omega
    obtain ⟨k, off, hl', rfl, _, e3⟩ := (h1.rdsi 1 rfl Rd_own).el di_len (i := i.toNat) hi (by omega)
    have hx : n.l.getD i.toNat ⟨0, 0, []⟩ = n.l[i.toNat] := by rw [List.getD_eq_getElem?_getD, List.getElem?_eq_getElem hi]; rfl
    ((try simp only [S, TY, reduceCtorEq, nq0, nq1, nq2, nq3, nq4, iq0, iq1, iq2, iq3, iq4, iq5, iq6, iq7, iq8, c1, g2, g3, g4, e3]); (try (simp (disch := omega) only [W2, Int.cast_ofNat_Int]; (try simp only [S, TY, reduceCtorEq, nq0, nq1, nq2, nq3, nq4, iq0, iq1, iq2, iq3, iq4, iq5, iq6, iq7, iq8, c1, g2, g3, g4, e3]))))
    refine sg.st (h1.front 2) rfl rfl fun H3 h3 => ?_
    simp only [front_eq, fronts_nil, fronts_cons, List.getElem?_cons_zero, List.getElem?_cons_succ, List.eraseIdx_cons_zero, List.eraseIdx_cons_succ, List.cons_append, List.nil_append, putL_cons, putL_nil, List.set_cons_zero, List.set_cons_succ, Nat.reduceAdd] at h3
    have w3 := h3.li 0 rfl
    ((try simp only [S, TY, reduceCtorEq, nq0, nq1, nq2, nq3, nq4, iq0, iq1, iq2, iq3, iq4, iq5, iq6, iq7, iq8, w3]); (try (simp (disch := omega) only [W2, Int.cast_ofNat_Int]; (try simp only [S, TY, reduceCtorEq, nq0, nq1, nq2, nq3, nq4, iq0, iq1, iq2, iq3, iq4, iq5, iq6, iq7, iq8, w3]))))
    exact fin_take (B := [_]) (dN_shut n (h3.fronts [1, 1])) (by unfold dAtR; rw [if_pos g1, hx]; exact ⟨rfl, rfl⟩)
  · have g2 : ¬ (0 ≤ i ∧ i < (n.l.length : Int)) := g1
    by_cases g3 : i < 0
    · ((try simp only [S, TY, reduceCtorEq, nq0, nq1, nq2, nq3, nq4, iq0, iq1, iq2, iq3, iq4, iq5, iq6, iq7, iq8, c1, g3]); (try (simp (disch := omega) only [W2, Int.cast_ofNat_Int]; (try simp only [S, TY, reduceCtorEq, nq0, nq1, nq2, nq3, nq4, iq0, iq1, iq2, iq3, iq4, iq5, iq6, iq7, iq8, c1, g3]))))
      refine sg.st (h1.front 2) rfl rfl fun H3 h3 => ?_
      simp only [front_eq, fronts_nil, fronts_cons, List.getElem?_cons_zero, List.getElem?_cons_succ, List.eraseIdx_cons_zero, List.eraseIdx_cons_succ, List.cons_append, List.nil_append, putL_cons, putL_nil, List.set_cons_zero, List.set_cons_succ, Nat.reduceAdd] at h3
      have w3 := h3.li 0 rfl
      ((try simp only [S, TY, reduceCtorEq, nq0, nq1, nq2, nq3, nq4, iq0, iq1, iq2, iq3, iq4, iq5, iq6, iq7, iq8, w3]); (try (simp (disch := omega) only [W2, Int.cast_ofNat_Int]; (try simp only [S, TY, reduceCtorEq, nq0, nq1, nq2, nq3, nq4, iq0, iq1, iq2, iq3, iq4, iq5, iq6, iq7, iq8, w3]))))
      exact fin_take (B := [_]) (dN_shut n (h3.fronts [1, 1])) (by unfold dAtR; rw [if_neg g1]; exact ⟨rfl, rfl⟩)
    · have g4 : (n.l.length : Int) ≤ i := by omega
      ((try simp only [S, TY, reduceCtorEq, nq0, nq1, nq2, nq3, nq4, iq0, iq1, iq2, iq3, iq4, iq5, iq6, iq7, iq8, c1, g3, g4]); (try (simp (disch := omega) only [W2, Int.cast_ofNat_Int]; (try simp only [S, TY, reduceCtorEq, nq0, nq1, nq2, nq3, nq4, iq0, iq1, iq2, iq3, iq4, iq5, iq6, iq7, iq8, c1, g3, g4]))))
      refine sg.st (h1.front 2) rfl rfl fun H3 h3 => ?_
      simp only [front_eq, fronts_nil, fronts_cons, List.getElem?_cons_zero, List.getElem?_cons_succ, List.eraseIdx_cons_zero, List.eraseIdx_cons_succ, List.cons_append, List.nil_append, putL_cons, putL_nil, List.set_cons_zero, List.set_cons_succ, Nat.reduceAdd] at h3
      have w3 := h3.li 0 rfl
      ((try simp only [S, TY, reduceCtorEq, nq0, nq1, nq2, nq3, nq4, iq0, iq1, iq2, iq3, iq4, iq5, iq6, iq7, iq8, w3]); (try (simp (disch := omega) only [W2, Int.cast_ofNat_Int]; (try simp only [S, TY, reduceCtorEq, nq0, nq1, nq2, nq3, nq4, iq0, iq1, iq2, iq3, iq4, iq5, iq6, iq7, iq8, w3]))))
      exact fin_take (B := [_]) (dN_shut n (h3.fronts [1, 1])) (by unfold dAtR; rw [if_neg g1]; exact ⟨rfl, rfl⟩)
theorem erase_snoc {α : Type} (l : List α) (x : α) (j : Nat) (h : l.length ≠ j) : (l ++ [x]).eraseIdx j = l.eraseIdx j ++ [x] := by
  rcases Nat.lt_or_gt_of_ne h with g | g
  · rw [List.eraseIdx_of_length_le (by simp; omega), List.eraseIdx_of_length_le (by omega)]
  · rw [List.eraseIdx_append_of_lt_length g]
theorem dTake_ok {G : Hp} {p : Nat} {n : Nt} {N : Int} (hw : n.wf N) (i : Int) : Con Try.prog G 145 [.pointer (some ⟨p, 0, none⟩), .int .i64 i] [dN p n] (dAtR p n (n.drop i) i) := by
  have hwr := hw.r
  have hwl := hw.l
  refine Con.intro Try.func145 rfl (Nat.le_of_ble_eq_true (by kernel_rfl)) (by kernel_rfl) Try.results145 ?_
  intro H h
  ((try simp only [S, TY, reduceCtorEq, nq0, nq1, nq2, nq3, nq4, iq0, iq1, iq2, iq3, iq4, iq5, iq6, iq7, iq8]); (try (simp (disch := omega) only [W2, Int.cast_ofNat_Int]; (try simp only [S, TY, reduceCtorEq, nq0, nq1, nq2, nq3, nq4, iq0, iq1, iq2, iq3, iq4, iq5, iq6, iq7, iq8]))))
  intro q hq hg
  have h1 := h.new hq hg (.cells dz.toArray 160 (0, 0))
  ((try simp only [S, TY, reduceCtorEq, nq0, nq1, nq2, nq3, nq4, iq0, iq1, iq2, iq3, iq4, iq5, iq6, iq7, iq8]); (try (simp (disch := omega) only [W2, Int.cast_ofNat_Int]; (try simp only [S, TY, reduceCtorEq, nq0, nq1, nq2, nq3, nq4, iq0, iq1, iq2, iq3, iq4, iq5, iq6, iq7, iq8]))))
  refine (dAt_ok i).at_ h1 [1] _ rfl fun r B H2 hr h2 => ?_
  unfold dAtR at hr
  by_cases g1 : n.has i
  · rw [if_pos g1] at hr
    obtain ⟨rfl, rfl⟩ := hr
    obtain ⟨x, hx⟩ : ∃ x, n.l.getD i.toNat ⟨0, 0, []⟩ = x := ⟨_, rfl⟩
    have hT : dAtR p n (n.drop i) i = fun r B => r = .tuple #[.agg (di x).toArray, .int .i64 0] ∧ B = [dN p (n.drop i)] := by
      funext r B
      unfold dAtR
      rw [if_pos g1, hx]
    rw [hT]
    clear hT
    rw [hx] at ⊢
    obtain ⟨xk, xc, xb⟩ := x
    simp only [front_eq, fronts_nil, fronts_cons, List.getElem?_cons_zero, List.getElem?_cons_succ, List.eraseIdx_cons_zero, List.eraseIdx_cons_succ, List.cons_append, List.nil_append, putL_cons, putL_nil, List.set_cons_zero, List.set_cons_succ, Nat.reduceAdd] at h2
    ((try simp only [S, TY, reduceCtorEq, nq0, nq1, nq2, nq3, nq4, iq0, iq1, iq2, iq3, iq4, iq5, iq6, iq7, iq8]); (try (simp (disch := omega) only [W2, Int.cast_ofNat_Int]; (try simp only [S, TY, reduceCtorEq, nq0, nq1, nq2, nq3, nq4, iq0, iq1, iq2, iq3, iq4, iq5, iq6, iq7, iq8]))))
    intro q3 hq3 hg3
    have h3 := h2.new hq3 hg3 (.cells dz.toArray 160 (0, 0))
    ((try simp only [S, TY, reduceCtorEq, nq0, nq1, nq2, nq3, nq4, iq0, iq1, iq2, iq3, iq4, iq5, iq6, iq7, iq8]); (try (simp (disch := omega) only [W2, Int.cast_ofNat_Int]; (try simp only [S, TY, reduceCtorEq, nq0, nq1, nq2, nq3, nq4, iq0, iq1, iq2, iq3, iq4, iq5, iq6, iq7, iq8]))))
    refine sg.st h3 rfl rfl fun H4 h4 => ?_
    simp only [front_eq, fronts_nil, fronts_cons, List.getElem?_cons_zero, List.getElem?_cons_succ, List.eraseIdx_cons_zero, List.eraseIdx_cons_succ, List.cons_append, List.nil_append, putL_cons, putL_nil, List.set_cons_zero, List.set_cons_succ, Nat.reduceAdd] at h4
    have hi0 : 0 ≤ i := g1.1
    have hi1 : i < n.l.length := g1.2
    obtain ⟨j, rfl⟩ : ∃ j : Nat, i = (j : Int) := ⟨i.toNat, by omega⟩
    have hj : j < n.l.length := by omega
    ((try simp only [S, TY, reduceCtorEq, nq0, nq1, nq2, nq3, nq4, iq0, iq1, iq2, iq3, iq4, iq5, iq6, iq7, iq8]); (try (simp (disch := omega) only [W2, Int.cast_ofNat_Int]; (try simp only [S, TY, reduceCtorEq, nq0, nq1, nq2, nq3, nq4, iq0, iq1, iq2, iq3, iq4, iq5, iq6, iq7, iq8]))))
    have hdr : n.drop (j : Int) = ⟨n.l.eraseIdx j, n.room, n.lost⟩ := by unfold Nt.drop; rw [if_pos g1, Int.toNat_natCast]
    rw [hdr]
    refine cl_loop (fun k e H => k ≤ n.l.length ∧ e 0 = .pointer (some ⟨p, 0, none⟩) ∧ e 1 = .int .i64 (j : Nat) ∧ e 4 = .pointer (some ⟨q, 0, none⟩) ∧ e 6 = .pointer (some ⟨q3, 0, none⟩) ∧ e 9 = .int .i64 (k : Nat) ∧ ∃ o, e 8 = o ∧
        sg G [dN p n, ob q3 (.cells (dil xk xc xb).toArray 160 (0, 0)), ob q (.cells dz.toArray 160 (0, 0)), own 160 3 o (((n.l.take k).eraseIdx j).flatMap di)] H) (fun k : Nat => n.l.length - k) 0
      ⟨by omega, rfl, rfl, rfl, rfl, rfl, .slice none 0 0, rfl, by rw [List.take_zero, List.eraseIdx_nil]; exact (h4.nil_ 160 3).fronts [2, 1, 1, 0]⟩ ?_
    clear h h1 h2 h3 h4
    rintro k e H ⟨qk, q0, q1, q4, q6, q9, o, q8, h⟩
    obtain ⟨oa, on, oc, rfl, eo, _⟩ := h.sl 3 rfl Rd_own
    obtain ⟨a, c, hc, h1⟩ := dN_open h
    have c1 := h1.c0
    have hle := List.length_eraseIdx_le (n.l.take k) j
    by_cases g2 : (k : Int) < n.l.length
    · have g3 : (0 : Int) ≤ k ∧ (k : Int) < n.l.length := ⟨by omega, g2⟩
      have hk : k < n.l.length := by omega
      have hs : n.l.take (k + 1) = n.l.take k ++ [n.l[k]] := by rw [List.take_add_one, List.getElem?_eq_getElem hk]; rfl
      by_cases g4 : (k : Int) = (j : Int)
      · obtain rfl : k = j := by omega
        have hlen : (n.l.take k).length = k := by rw [List.length_take]; omega
        have e : ((n.l.take (k + 1)).eraseIdx k) = ((n.l.take k).eraseIdx k) := by
          have e2 : (n.l.take k).eraseIdx k = n.l.take k := List.eraseIdx_of_length_le (by omega)
          rw [e2, hs, List.eraseIdx_append_of_length_le (by omega), hlen, Nat.sub_self]
          exact List.append_nil _
        ((try simp only [S, TY, reduceCtorEq, nq0, nq1, nq2, nq3, nq4, iq0, iq1, iq2, iq3, iq4, iq5, iq6, iq7, iq8, q0, q1, q4, q6, q8, q9, c1, g2, g3]); (try (simp (disch := omega) only [W2, Int.cast_ofNat_Int]; (try simp only [S, TY, reduceCtorEq, nq0, nq1, nq2, nq3, nq4, iq0, iq1, iq2, iq3, iq4, iq5, iq6, iq7, iq8, q0, q1, q4, q6, q8, q9, c1, g2, g3]))))
        refine .go (k + 1) (by omega) ⟨by omega, q0, q1, q4, q6, rfl, _, q8, by rw [e]; exact h⟩
      · obtain ⟨b, off, hl', rfl, _, e3⟩ := (h1.rdsi 1 rfl Rd_own).el di_len (i := k) hk (by omega)
        ((try simp only [S, TY, reduceCtorEq, nq0, nq1, nq2, nq3, nq4, iq0, iq1, iq2, iq3, iq4, iq5, iq6, iq7, iq8, q0, q1, q4, q6, q8, q9, c1, g2, g3, g4, e3]); (try (simp (disch := omega) only [W2, Int.cast_ofNat_Int]; (try simp only [S, TY, reduceCtorEq, nq0, nq1, nq2, nq3, nq4, iq0, iq1, iq2, iq3, iq4, iq5, iq6, iq7, iq8, q0, q1, q4, q6, q8, q9, c1, g2, g3, g4, e3]))))
        intro k5 hk5 hg5
        have h5 := h1.newsl (e := 160) (sz := 3) (n := 1) (xs := di n.l[k]) hk5 hg5 rfl
        ((try simp only [S, TY, reduceCtorEq, nq0, nq1, nq2, nq3, nq4, iq0, iq1, iq2, iq3, iq4, iq5, iq6, iq7, iq8, q0, q1, q4, q6, q8, q9]); (try (simp (disch := omega) only [W2, Int.cast_ofNat_Int]; (try simp only [S, TY, reduceCtorEq, nq0, nq1, nq2, nq3, nq4, iq0, iq1, iq2, iq3, iq4, iq5, iq6, iq7, iq8, q0, q1, q4, q6, q8, q9]))))
        refine append_sl (show apI Try.prog 144 = some (160, 3, 32) from by kernel_rfl) (show slIs Try.prog 144 = true from by kernel_rfl) (h5.front 5) (h5.rdsi 0 rfl Rd_own) (di_one _) (by rw [flat_len di_len]; rw [List.length_take] at hle; simp; omega) fun w H6 h6 => ?_
        simp only [front_eq, fronts_nil, fronts_cons, List.getElem?_cons_zero, List.getElem?_cons_succ, List.eraseIdx_cons_zero, List.eraseIdx_cons_succ, List.cons_append, List.nil_append, putL_cons, putL_nil, List.set_cons_zero, List.set_cons_succ, Nat.reduceAdd] at h6
        obtain ⟨ya, yn, yc, rfl, _, _⟩ := h6.sl 0 rfl Rd_own
        ((try simp only [S, TY, reduceCtorEq, nq0, nq1, nq2, nq3, nq4, iq0, iq1, iq2, iq3, iq4, iq5, iq6, iq7, iq8, q0, q1, q4, q6, q9]); (try (simp (disch := omega) only [W2, Int.cast_ofNat_Int]; (try simp only [S, TY, reduceCtorEq, nq0, nq1, nq2, nq3, nq4, iq0, iq1, iq2, iq3, iq4, iq5, iq6, iq7, iq8, q0, q1, q4, q6, q9]))))
        have e : ((n.l.take k).eraseIdx j).flatMap di ++ di n.l[k] = ((n.l.take (k + 1)).eraseIdx j).flatMap di := by
          rw [hs, erase_snoc _ _ _ (by rw [List.length_take]; omega), List.flatMap_append]
          simp
        rw [e] at h6
        have h7 := dN_shut n ((h6.fronts [2, 2]))
        refine .go (k + 1) (by omega) ⟨by omega, q0, q1, q4, q6, rfl, _, rfl, ⟨h7.1, seps_take (B := [_, _, _, _]) (h7.fronts [0, 2, 2, 0]).2⟩⟩
    · obtain rfl : k = n.l.length := by omega
      rw [List.take_length] at h1
      ((try simp only [S, TY, reduceCtorEq, nq0, nq1, nq2, nq3, nq4, iq0, iq1, iq2, iq3, iq4, iq5, iq6, iq7, iq8, q0, q1, q4, q6, q8, q9, c1, g2]); (try (simp (disch := omega) only [W2, Int.cast_ofNat_Int]; (try simp only [S, TY, reduceCtorEq, nq0, nq1, nq2, nq3, nq4, iq0, iq1, iq2, iq3, iq4, iq5, iq6, iq7, iq8, q0, q1, q4, q6, q8, q9, c1, g2]))))
      refine sg.st h1 rfl rfl fun H5 h5 => ?_
      simp only [front_eq, fronts_nil, fronts_cons, List.getElem?_cons_zero, List.getElem?_cons_succ, List.eraseIdx_cons_zero, List.eraseIdx_cons_succ, List.cons_append, List.nil_append, putL_cons, putL_nil, List.set_cons_zero, List.set_cons_succ, Nat.reduceAdd] at h5
      have w5 := h5.li 2 rfl
      ((try simp only [S, TY, reduceCtorEq, nq0, nq1, nq2, nq3, nq4, iq0, iq1, iq2, iq3, iq4, iq5, iq6, iq7, iq8, q0, q1, q4, q6, q8, q9, w5]); (try (simp (disch := omega) only [W2, Int.cast_ofNat_Int]; (try simp only [S, TY, reduceCtorEq, nq0, nq1, nq2, nq3, nq4, iq0, iq1, iq2, iq3, iq4, iq5, iq6, iq7, iq8, q0, q1, q4, q6, q8, q9, w5]))))
      refine sg.st (h5.front 3) rfl rfl fun H6 h6 => ?_
      simp only [front_eq, fronts_nil, fronts_cons, List.getElem?_cons_zero, List.getElem?_cons_succ, List.eraseIdx_cons_zero, List.eraseIdx_cons_succ, List.cons_append, List.nil_append, putL_cons, putL_nil, List.set_cons_zero, List.set_cons_succ, Nat.reduceAdd] at h6
      have w6 := h6.li 0 rfl
      ((try simp only [S, TY, reduceCtorEq, nq0, nq1, nq2, nq3, nq4, iq0, iq1, iq2, iq3, iq4, iq5, iq6, iq7, iq8, q0, q1, q4, q6, q8, q9, w6]); (try (simp (disch := omega) only [W2, Int.cast_ofNat_Int]; (try simp only [S, TY, reduceCtorEq, nq0, nq1, nq2, nq3, nq4, iq0, iq1, iq2, iq3, iq4, iq5, iq6, iq7, iq8, q0, q1, q4, q6, q8, q9, w6]))))
      exact fin_take (B := [_]) (dN_shut ⟨n.l.eraseIdx j, n.room, n.lost⟩ (h6.fronts [1, 3])) ⟨rfl, rfl⟩
  · rw [if_neg g1] at hr
    obtain ⟨rfl, rfl⟩ := hr
    have hT : dAtR p n (n.drop i) i = fun r B => r = .tuple #[.agg dz.toArray, .int .i64 4] ∧ B = [dN p n] := by
      funext r B
      unfold dAtR
      rw [if_neg g1]
    rw [hT]
    clear hT
    simp only [front_eq, fronts_nil, fronts_cons, List.getElem?_cons_zero, List.getElem?_cons_succ, List.eraseIdx_cons_zero, List.eraseIdx_cons_succ, List.cons_append, List.nil_append, putL_cons, putL_nil, List.set_cons_zero, List.set_cons_succ, Nat.reduceAdd] at h2
    ((try simp only [S, TY, reduceCtorEq, nq0, nq1, nq2, nq3, nq4, iq0, iq1, iq2, iq3, iq4, iq5, iq6, iq7, iq8]); (try (simp (disch := omega) only [W2, Int.cast_ofNat_Int]; (try simp only [S, TY, reduceCtorEq, nq0, nq1, nq2, nq3, nq4, iq0, iq1, iq2, iq3, iq4, iq5, iq6, iq7, iq8]))))
    intro q3 hq3 hg3
    have h3 := h2.new hq3 hg3 (.cells dz.toArray 160 (0, 0))
    ((try simp only [S, TY, reduceCtorEq, nq0, nq1, nq2, nq3, nq4, iq0, iq1, iq2, iq3, iq4, iq5, iq6, iq7, iq8]); (try (simp (disch := omega) only [W2, Int.cast_ofNat_Int]; (try simp only [S, TY, reduceCtorEq, nq0, nq1, nq2, nq3, nq4, iq0, iq1, iq2, iq3, iq4, iq5, iq6, iq7, iq8]))))
    refine sg.st h3 rfl rfl fun H4 h4 => ?_
    simp only [front_eq, fronts_nil, fronts_cons, List.getElem?_cons_zero, List.getElem?_cons_succ, List.eraseIdx_cons_zero, List.eraseIdx_cons_succ, List.cons_append, List.nil_append, putL_cons, putL_nil, List.set_cons_zero, List.set_cons_succ, Nat.reduceAdd] at h4
    have w4 := h4.li 0 rfl
    ((try simp only [S, TY, reduceCtorEq, nq0, nq1, nq2, nq3, nq4, iq0, iq1, iq2, iq3, iq4, iq5, iq6, iq7, iq8, w4]); (try (simp (disch := omega) only [W2, Int.cast_ofNat_Int]; (try simp only [S, TY, reduceCtorEq, nq0, nq1, nq2, nq3, nq4, iq0, iq1, iq2, iq3, iq4, iq5, iq6, iq7, iq8, w4]))))
    refine sg.st (h4.front 2) rfl rfl fun H5 h5 => ?_
    simp only [front_eq, fronts_nil, fronts_cons, List.getElem?_cons_zero, List.getElem?_cons_succ, List.eraseIdx_cons_zero, List.eraseIdx_cons_succ, List.cons_append, List.nil_append, putL_cons, putL_nil, List.set_cons_zero, List.set_cons_succ, Nat.reduceAdd] at h5
    have w5 := h5.li 0 rfl
    ((try simp only [S, TY, reduceCtorEq, nq0, nq1, nq2, nq3, nq4, iq0, iq1, iq2, iq3, iq4, iq5, iq6, iq7, iq8, w5]); (try (simp (disch := omega) only [W2, Int.cast_ofNat_Int]; (try simp only [S, TY, reduceCtorEq, nq0, nq1, nq2, nq3, nq4, iq0, iq1, iq2, iq3, iq4, iq5, iq6, iq7, iq8, w5]))))
    exact fin_take (B := [_]) (show sg G [dN p n, _, _] _ from h5.front 2) ⟨rfl, rfl⟩
theorem dDouble_ok {G : Hp} {p : Nat} {n : Nt} {N : Int} (hw : n.wf N) (hN : N ≤ 1000000) (i : Int) : Con Try.prog G 146 [.pointer (some ⟨p, 0, none⟩), .int .i64 i] [dN p n] (fun r B => r = .int .i64 (n.dbl i).2 ∧ B = [dN p (n.dbl i).1]) := by
  obtain ⟨res, hres⟩ : ∃ r, n.dbl i = r := ⟨_, rfl⟩
  rw [hres]
  unfold Nt.dbl at hres
  refine Con.intro Try.func146 rfl (Nat.le_of_ble_eq_true (by kernel_rfl)) (by kernel_rfl) Try.results146 ?_
  intro H h
  ((try simp only [S, TY, reduceCtorEq, nq0, nq1, nq2, nq3, nq4, iq0, iq1, iq2, iq3, iq4, iq5, iq6, iq7, iq8]); (try (simp (disch := omega) only [W2, Int.cast_ofNat_Int]; (try simp only [S, TY, reduceCtorEq, nq0, nq1, nq2, nq3, nq4, iq0, iq1, iq2, iq3, iq4, iq5, iq6, iq7, iq8]))); repeat ((first | (refine cl_drawi 4 D146_4 (List.range 10) (by decide) (by kernel_rfl) ?_; unfold D146_4)); simp only [S, TY, reduceCtorEq, nq0, nq1, nq2, nq3, nq4, iq0, iq1, iq2, iq3, iq4, iq5, iq6, iq7, iq8]; (try (simp (disch := omega) only [W2, Int.cast_ofNat_Int]; (try simp only [S, TY, reduceCtorEq, nq0, nq1, nq2, nq3, nq4, iq0, iq1, iq2, iq3, iq4, iq5, iq6, iq7, iq8])))))
  refine (dAt_ok i).at_ h [0] _ rfl fun r B H1 hr h1 => ?_
  unfold dAtR at hr
  by_cases g1 : n.has i
  · rw [if_pos g1] at hr hres
    obtain ⟨rfl, rfl⟩ := hr
    obtain ⟨x, hx⟩ : ∃ x, n.l.getD i.toNat ⟨0, 0, []⟩ = x := ⟨_, rfl⟩
    have hok : x.ok = true := by
      have hi : i.toNat < n.l.length := by have := g1.1; have := g1.2; omega
      rw [← hx, List.getD_eq_getElem?_getD, List.getElem?_eq_getElem hi]
      exact hw.b _ (List.getElem_mem hi)
    rw [hx] at hres ⊢
    ((try simp only [S, TY, reduceCtorEq, nq0, nq1, nq2, nq3, nq4, iq0, iq1, iq2, iq3, iq4, iq5, iq6, iq7, iq8]); (try (simp (disch := omega) only [W2, Int.cast_ofNat_Int]; (try simp only [S, TY, reduceCtorEq, nq0, nq1, nq2, nq3, nq4, iq0, iq1, iq2, iq3, iq4, iq5, iq6, iq7, iq8]))); repeat ((first | (refine cl_drawi 4 D146_4 (List.range 10) (by decide) (by kernel_rfl) ?_; unfold D146_4)); simp only [S, TY, reduceCtorEq, nq0, nq1, nq2, nq3, nq4, iq0, iq1, iq2, iq3, iq4, iq5, iq6, iq7, iq8]; (try (simp (disch := omega) only [W2, Int.cast_ofNat_Int]; (try simp only [S, TY, reduceCtorEq, nq0, nq1, nq2, nq3, nq4, iq0, iq1, iq2, iq3, iq4, iq5, iq6, iq7, iq8])))))
    intro q hq hg
    have h2 := h1.new hq hg (.cells dz.toArray 160 (0, 0))
    ((try simp only [S, TY, reduceCtorEq, nq0, nq1, nq2, nq3, nq4, iq0, iq1, iq2, iq3, iq4, iq5, iq6, iq7, iq8]); (try (simp (disch := omega) only [W2, Int.cast_ofNat_Int]; (try simp only [S, TY, reduceCtorEq, nq0, nq1, nq2, nq3, nq4, iq0, iq1, iq2, iq3, iq4, iq5, iq6, iq7, iq8]))); repeat ((first | (refine cl_drawi 4 D146_4 (List.range 10) (by decide) (by kernel_rfl) ?_; unfold D146_4)); simp only [S, TY, reduceCtorEq, nq0, nq1, nq2, nq3, nq4, iq0, iq1, iq2, iq3, iq4, iq5, iq6, iq7, iq8]; (try (simp (disch := omega) only [W2, Int.cast_ofNat_Int]; (try simp only [S, TY, reduceCtorEq, nq0, nq1, nq2, nq3, nq4, iq0, iq1, iq2, iq3, iq4, iq5, iq6, iq7, iq8])))))
    refine sg.st h2 rfl rfl fun H3 h3 => ?_
    simp only [front_eq, fronts_nil, fronts_cons, List.getElem?_cons_zero, List.getElem?_cons_succ, List.eraseIdx_cons_zero, List.eraseIdx_cons_succ, List.cons_append, List.nil_append, putL_cons, putL_nil, List.set_cons_zero, List.set_cons_succ, Nat.reduceAdd] at h3
    obtain ⟨a, c, hc, h4⟩ := dN_open (h3.front 1)
    simp only [front_eq, fronts_nil, fronts_cons, List.getElem?_cons_zero, List.getElem?_cons_succ, List.eraseIdx_cons_zero, List.eraseIdx_cons_succ, List.cons_append, List.nil_append, putL_cons, putL_nil, List.set_cons_zero, List.set_cons_succ, Nat.reduceAdd] at h4
    have c4 := h4.c0
    have w4 := h4.li 2 rfl
    by_cases g2 : n.room ≤ (n.l.length : Int)
    · rw [if_pos g2] at hres
      subst hres
      ((try simp only [S, TY, reduceCtorEq, nq0, nq1, nq2, nq3, nq4, iq0, iq1, iq2, iq3, iq4, iq5, iq6, iq7, iq8, c4, g2]); (try (simp (disch := omega) only [W2, Int.cast_ofNat_Int]; (try simp only [S, TY, reduceCtorEq, nq0, nq1, nq2, nq3, nq4, iq0, iq1, iq2, iq3, iq4, iq5, iq6, iq7, iq8, c4, g2]))); repeat ((first | (refine cl_drawi 4 D146_4 (List.range 10) (by decide) (by kernel_rfl) ?_; unfold D146_4)); simp only [S, TY, reduceCtorEq, nq0, nq1, nq2, nq3, nq4, iq0, iq1, iq2, iq3, iq4, iq5, iq6, iq7, iq8, c4, g2]; (try (simp (disch := omega) only [W2, Int.cast_ofNat_Int]; (try simp only [S, TY, reduceCtorEq, nq0, nq1, nq2, nq3, nq4, iq0, iq1, iq2, iq3, iq4, iq5, iq6, iq7, iq8, c4, g2])))))
      exact fin_take (B := [_]) (dN_shut n h4) ⟨rfl, rfl⟩
    · rw [if_neg g2] at hres
      subst hres
      ((try simp only [S, TY, reduceCtorEq, nq0, nq1, nq2, nq3, nq4, iq0, iq1, iq2, iq3, iq4, iq5, iq6, iq7, iq8, c4, w4, g2]); (try (simp (disch := omega) only [W2, Int.cast_ofNat_Int]; (try simp only [S, TY, reduceCtorEq, nq0, nq1, nq2, nq3, nq4, iq0, iq1, iq2, iq3, iq4, iq5, iq6, iq7, iq8, c4, w4, g2]))); repeat ((first | (refine cl_drawi 4 D146_4 (List.range 10) (by decide) (by kernel_rfl) ?_; unfold D146_4)); simp only [S, TY, reduceCtorEq, nq0, nq1, nq2, nq3, nq4, iq0, iq1, iq2, iq3, iq4, iq5, iq6, iq7, iq8, c4, w4, g2]; (try (simp (disch := omega) only [W2, Int.cast_ofNat_Int]; (try simp only [S, TY, reduceCtorEq, nq0, nq1, nq2, nq3, nq4, iq0, iq1, iq2, iq3, iq4, iq5, iq6, iq7, iq8, c4, w4, g2])))))
      have hp : n.put1 x = (⟨n.l ++ [x], n.room, n.lost⟩, true) := by unfold Nt.put1; rw [if_pos ⟨hok, by omega⟩]
      refine (dPut_ok hw hN x).at_ (dN_shut n h4) [0] _ rfl fun r B H5 hr h5 => ?_
      obtain ⟨rfl, rfl⟩ := hr
      rw [hp] at h5
      ((try simp only [S, TY, reduceCtorEq, nq0, nq1, nq2, nq3, nq4, iq0, iq1, iq2, iq3, iq4, iq5, iq6, iq7, iq8]); (try (simp (disch := omega) only [W2, Int.cast_ofNat_Int]; (try simp only [S, TY, reduceCtorEq, nq0, nq1, nq2, nq3, nq4, iq0, iq1, iq2, iq3, iq4, iq5, iq6, iq7, iq8]))); repeat ((first | (refine cl_drawi 4 D146_4 (List.range 10) (by decide) (by kernel_rfl) ?_; unfold D146_4)); simp only [S, TY, reduceCtorEq, nq0, nq1, nq2, nq3, nq4, iq0, iq1, iq2, iq3, iq4, iq5, iq6, iq7, iq8]; (try (simp (disch := omega) only [W2, Int.cast_ofNat_Int]; (try simp only [S, TY, reduceCtorEq, nq0, nq1, nq2, nq3, nq4, iq0, iq1, iq2, iq3, iq4, iq5, iq6, iq7, iq8])))))
      exact fin_take (B := [_]) h5 ⟨rfl, rfl⟩
  · rw [if_neg g1] at hr hres
    obtain ⟨rfl, rfl⟩ := hr
    subst hres
    ((try simp only [S, TY, reduceCtorEq, nq0, nq1, nq2, nq3, nq4, iq0, iq1, iq2, iq3, iq4, iq5, iq6, iq7, iq8]); (try (simp (disch := omega) only [W2, Int.cast_ofNat_Int]; (try simp only [S, TY, reduceCtorEq, nq0, nq1, nq2, nq3, nq4, iq0, iq1, iq2, iq3, iq4, iq5, iq6, iq7, iq8]))); repeat ((first | (refine cl_drawi 4 D146_4 (List.range 10) (by decide) (by kernel_rfl) ?_; unfold D146_4)); simp only [S, TY, reduceCtorEq, nq0, nq1, nq2, nq3, nq4, iq0, iq1, iq2, iq3, iq4, iq5, iq6, iq7, iq8]; (try (simp (disch := omega) only [W2, Int.cast_ofNat_Int]; (try simp only [S, TY, reduceCtorEq, nq0, nq1, nq2, nq3, nq4, iq0, iq1, iq2, iq3, iq4, iq5, iq6, iq7, iq8])))))
    intro q hq hg
    have h2 := h1.new hq hg (.cells dz.toArray 160 (0, 0))
    ((try simp only [S, TY, reduceCtorEq, nq0, nq1, nq2, nq3, nq4, iq0, iq1, iq2, iq3, iq4, iq5, iq6, iq7, iq8]); (try (simp (disch := omega) only [W2, Int.cast_ofNat_Int]; (try simp only [S, TY, reduceCtorEq, nq0, nq1, nq2, nq3, nq4, iq0, iq1, iq2, iq3, iq4, iq5, iq6, iq7, iq8]))); repeat ((first | (refine cl_drawi 4 D146_4 (List.range 10) (by decide) (by kernel_rfl) ?_; unfold D146_4)); simp only [S, TY, reduceCtorEq, nq0, nq1, nq2, nq3, nq4, iq0, iq1, iq2, iq3, iq4, iq5, iq6, iq7, iq8]; (try (simp (disch := omega) only [W2, Int.cast_ofNat_Int]; (try simp only [S, TY, reduceCtorEq, nq0, nq1, nq2, nq3, nq4, iq0, iq1, iq2, iq3, iq4, iq5, iq6, iq7, iq8])))))
    refine sg.st h2 rfl rfl fun H3 h3 => ?_
    simp only [front_eq, fronts_nil, fronts_cons, List.getElem?_cons_zero, List.getElem?_cons_succ, List.eraseIdx_cons_zero, List.eraseIdx_cons_succ, List.cons_append, List.nil_append, putL_cons, putL_nil, List.set_cons_zero, List.set_cons_succ, Nat.reduceAdd] at h3
    ((try simp only [S, TY, reduceCtorEq, nq0, nq1, nq2, nq3, nq4, iq0, iq1, iq2, iq3, iq4, iq5, iq6, iq7, iq8]); (try (simp (disch := omega) only [W2, Int.cast_ofNat_Int]; (try simp only [S, TY, reduceCtorEq, nq0, nq1, nq2, nq3, nq4, iq0, iq1, iq2, iq3, iq4, iq5, iq6, iq7, iq8]))); repeat ((first | (refine cl_drawi 4 D146_4 (List.range 10) (by decide) (by kernel_rfl) ?_; unfold D146_4)); simp only [S, TY, reduceCtorEq, nq0, nq1, nq2, nq3, nq4, iq0, iq1, iq2, iq3, iq4, iq5, iq6, iq7, iq8]; (try (simp (disch := omega) only [W2, Int.cast_ofNat_Int]; (try simp only [S, TY, reduceCtorEq, nq0, nq1, nq2, nq3, nq4, iq0, iq1, iq2, iq3, iq4, iq5, iq6, iq7, iq8])))))
    exact fin_take (B := [_]) (show sg G [dN p n, _] _ from h3.front 1) ⟨rfl, rfl⟩
theorem dFind_ok {G : Hp} {p : Nat} {n : Nt} (hl : n.l.length ≤ 100000) (k c : Int) : Con Try.prog G 148 [.pointer (some ⟨p, 0, none⟩), .int .i64 k, .int .i64 c] [dN p n] (fun r B => r = .int .i64 (find k c n.l 0) ∧ B = [dN p n]) := by
  refine Con.intro Try.func148 rfl (Nat.le_of_ble_eq_true (by kernel_rfl)) (by kernel_rfl) Try.results148 ?_
  intro H h
  ((try simp only [S, TY, reduceCtorEq, nq0, nq1, nq2, nq3, nq4, iq0, iq1, iq2, iq3, iq4, iq5, iq6, iq7, iq8]); (try (simp (disch := omega) only [W2, Int.cast_ofNat_Int]; (try simp only [S, TY, reduceCtorEq, nq0, nq1, nq2, nq3, nq4, iq0, iq1, iq2, iq3, iq4, iq5, iq6, iq7, iq8]))))
  refine cl_loop (fun i e H => i ≤ n.l.length ∧ e 0 = .pointer (some ⟨p, 0, none⟩) ∧ e 1 = .int .i64 k ∧ e 2 = .int .i64 c ∧ e 7 = .int .i64 (i : Nat) ∧ find k c n.l 0 = find k c (n.l.drop i) (i : Nat) ∧ sg G [dN p n] H) (fun i : Nat => n.l.length - i) 0
    ⟨by omega, rfl, rfl, rfl, rfl, rfl, h⟩ ?_
  clear h
  rintro i e H ⟨q, q0, q1, q2, q7, hf, h⟩
  obtain ⟨a, cc, hc, h1⟩ := dN_open h
  have c1 := h1.c0
  by_cases g1 : (i : Int) < n.l.length
  · have g2 : (0 : Int) ≤ i ∧ (i : Int) < n.l.length := ⟨by omega, g1⟩
    have hi : i < n.l.length := by omega
    obtain ⟨bb, off, hl', rfl, hcc, d1⟩ := (h1.rdsi 1 rfl Rd_own).el di_len (i := i) hi (by omega)
    have e0 := hcc 0 (by decide)
    have e1 := hcc 1 (by decide)
    simp only [List.getElem?_cons_zero, List.getElem?_cons_succ, Nat.add_zero] at e0 e1
    have hd : n.l.drop i = n.l[i] :: n.l.drop (i + 1) := List.drop_eq_getElem_cons hi
    rw [hd, find] at hf
    by_cases g3 : n.l[i].k = k
    · by_cases g4 : n.l[i].c = c
      · have hh : hit k c n.l[i] = true := by unfold hit; exact decide_eq_true ⟨g3, g4⟩
        rw [hh] at hf
        simp only [if_true] at hf
        ((try simp only [S, TY, reduceCtorEq, nq0, nq1, nq2, nq3, nq4, iq0, iq1, iq2, iq3, iq4, iq5, iq6, iq7, iq8, q0, q1, q2, q7, c1, g1, g2, e0, e1, g3, g4]); (try (simp (disch := omega) only [W2, Int.cast_ofNat_Int]; (try simp only [S, TY, reduceCtorEq, nq0, nq1, nq2, nq3, nq4, iq0, iq1, iq2, iq3, iq4, iq5, iq6, iq7, iq8, q0, q1, q2, q7, c1, g1, g2, e0, e1, g3, g4]))))
        exact fin_take (B := [_]) h ⟨by rw [hf], rfl⟩
      · have hh : hit k c n.l[i] = false := by unfold hit; exact decide_eq_false fun z => g4 z.2
        rw [hh] at hf
        simp only [Bool.false_eq_true, if_false] at hf
        ((try simp only [S, TY, reduceCtorEq, nq0, nq1, nq2, nq3, nq4, iq0, iq1, iq2, iq3, iq4, iq5, iq6, iq7, iq8, q0, q1, q2, q7, c1, g1, g2, e0, e1, g3, g4]); (try (simp (disch := omega) only [W2, Int.cast_ofNat_Int]; (try simp only [S, TY, reduceCtorEq, nq0, nq1, nq2, nq3, nq4, iq0, iq1, iq2, iq3, iq4, iq5, iq6, iq7, iq8, q0, q1, q2, q7, c1, g1, g2, e0, e1, g3, g4]))))
        exact .go (i + 1) (by omega) ⟨by omega, q0, q1, q2, rfl, hf, h⟩
    · have hh : hit k c n.l[i] = false := by unfold hit; exact decide_eq_false fun z => g3 z.1
      rw [hh] at hf
      simp only [Bool.false_eq_true, if_false] at hf
      ((try simp only [S, TY, reduceCtorEq, nq0, nq1, nq2, nq3, nq4, iq0, iq1, iq2, iq3, iq4, iq5, iq6, iq7, iq8, q0, q1, q2, q7, c1, g1, g2, e0, e1, g3]); (try (simp (disch := omega) only [W2, Int.cast_ofNat_Int]; (try simp only [S, TY, reduceCtorEq, nq0, nq1, nq2, nq3, nq4, iq0, iq1, iq2, iq3, iq4, iq5, iq6, iq7, iq8, q0, q1, q2, q7, c1, g1, g2, e0, e1, g3]))))
      exact .go (i + 1) (by omega) ⟨by omega, q0, q1, q2, rfl, hf, h⟩
  · have hd : n.l.drop i = [] := List.drop_eq_nil_of_le (by omega)
    rw [hd] at hf
    rw [hf]
    ((try simp only [S, TY, reduceCtorEq, nq0, nq1, nq2, nq3, nq4, iq0, iq1, iq2, iq3, iq4, iq5, iq6, iq7, iq8, q0, q1, q2, q7, c1, g1]); (try (simp (disch := omega) only [W2, Int.cast_ofNat_Int]; (try simp only [S, TY, reduceCtorEq, nq0, nq1, nq2, nq3, nq4, iq0, iq1, iq2, iq3, iq4, iq5, iq6, iq7, iq8, q0, q1, q2, q7, c1, g1]))))
    exact fin_take (B := [_]) h ⟨rfl, rfl⟩
end Go.Proofs.Ytanhmbdcdbcfmaa.NtD
