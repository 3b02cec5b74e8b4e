/- net's Net, over the machine. -/
import Derived.Test.YtanhmbdcdbcfmaaNtP
import Derived.Test.YtanhmbdcdbcfmaaSeW
import Derived.Test.YtanhmbdcdbcfmaaExt
set_option linter.unusedVariables false
set_option linter.unusedSimpArgs false
set_option maxRecDepth 10000
set_option maxHeartbeats 4000000
namespace Go.Proofs.Ytanhmbdcdbcfmaa.Nt
open Nat renaming reduceEqDiff → nq0, reduceAdd → nq1, reduceLeDiff → nq2, reduceBEq → nq3, reduceMul → nq4
open Int renaming reduceBEq → iq0, reduceEq → iq1, reduceLT → iq2, reduceLE → iq3, reduceAdd → iq4, reduceSub → iq5, reduceMul → iq6, reduceToNat → iq7, cast_ofNat_Int → iq8
open Go Go.Sl Go.Proofs Go.Proofs.Ytanhmbdcdbcfmaa.NtP
theorem TY : aggN Try.prog 2 = some none ∧
  aggN Try.prog 3 = some none ∧
  aggN Try.prog 5 = some none ∧
  aggN Try.prog 24 = some none ∧
  aggN Try.prog 30 = some none ∧
  aggN Try.prog 140 = some none ∧
  aggN Try.prog 148 = some none ∧
  aggN Try.prog 152 = some (some 3) ∧
  aggN Try.prog 265 = some (some 1) ∧
  aggN Try.prog 267 = some (some 3) ∧
  aggN Try.prog 299 = some none ∧
  apI Try.prog 24 = some (5, 1, 1) ∧
  apI Try.prog 148 = some (152, 3, 40) ∧
  bIs Try.prog 152 = true ∧
  bIs Try.prog 265 = true ∧
  bIs Try.prog 267 = true ∧
  bySl Try.prog 24 = true ∧
  csz Try.prog 2 = some 1 ∧
  csz Try.prog 3 = some 1 ∧
  csz Try.prog 5 = some 1 ∧
  csz Try.prog 24 = some 1 ∧
  csz Try.prog 30 = some 1 ∧
  csz Try.prog 140 = some 1 ∧
  csz Try.prog 148 = some 1 ∧
  csz Try.prog 152 = some 3 ∧
  csz Try.prog 265 = some 1 ∧
  csz Try.prog 267 = some 3 ∧
  csz Try.prog 299 = some 1 ∧
  fIs Try.prog 152 0 = true ∧
  fIs Try.prog 152 1 = true ∧
  fIs Try.prog 152 2 = true ∧
  fIs Try.prog 265 2 = true ∧
  fIs Try.prog 267 0 = true ∧
  fIs Try.prog 267 1 = true ∧
  fIs Try.prog 267 2 = true ∧
  fOff Try.prog 152 0 = 0 ∧
  fOff Try.prog 152 1 = 1 ∧
  fOff Try.prog 152 2 = 2 ∧
  fOff Try.prog 265 2 = 0 ∧
  fOff Try.prog 267 0 = 0 ∧
  fOff Try.prog 267 1 = 1 ∧
  fOff Try.prog 267 2 = 2 ∧
  fTy Try.prog 152 0 = 3 ∧
  fTy Try.prog 152 1 = 3 ∧
  fTy Try.prog 152 2 = 24 ∧
  fTy Try.prog 265 2 = 2 ∧
  fTy Try.prog 267 0 = 148 ∧
  fTy Try.prog 267 1 = 3 ∧
  fTy Try.prog 267 2 = 265 ∧
  goes Try.prog 76 = true ∧
  goes Try.prog 102 = true ∧
  goes Try.prog 150 = true ∧
  goes Try.prog 151 = true ∧
  goes Try.prog 152 = true ∧
  goes Try.prog 156 = true ∧
  goes Try.prog 157 = true ∧
  inIs Try.prog 2 = some .i64 ∧
  inIs Try.prog 3 = some .i64 ∧
  inIs Try.prog 5 = some .u8 ∧
  inIs Try.prog 30 = some .i64 ∧
  plcs Try.prog 152 = [(0, 1), (1, 1), (2, 1)] ∧
  plcs Try.prog 265 = [(0, 0), (0, 0), (0, 1)] ∧
  plcs Try.prog 267 = [(0, 1), (1, 1), (2, 1)] ∧
  ptIs Try.prog 140 = true ∧
  ptIs Try.prog 299 = true ∧
  slEl Try.prog 24 = 5 ∧
  slEl Try.prog 148 = 152 ∧
  slIs Try.prog 24 = true ∧
  slIs Try.prog 148 = true ∧
  slSz Try.prog 24 = 1 ∧
  slSz Try.prog 148 = 3 ∧
  zcs Try.prog 152 = [.int .i64 0, .int .i64 0, .slice none 0 0] ∧
  zcs Try.prog 265 = [.int .i64 0] ∧
  zcs Try.prog 267 = [.slice none 0 0, .int .i64 0, .int .i64 0] ∧
  zro Try.prog 2 = some (.int .i64 0) ∧
  zro Try.prog 3 = some (.int .i64 0) ∧
  zro Try.prog 5 = some (.int .u8 0) ∧
  zro Try.prog 24 = some (.slice none 0 0) ∧
  zro Try.prog 30 = some (.int .i64 0) ∧
  zro Try.prog 140 = some (.pointer none) ∧
  zro Try.prog 148 = some (.slice none 0 0) ∧
  zro Try.prog 152 = some (.agg #[.int .i64 0, .int .i64 0, .slice none 0 0]) ∧
  zro Try.prog 265 = some (.agg #[.int .i64 0]) ∧
  zro Try.prog 267 = some (.agg #[.slice none 0 0, .int .i64 0, .int .i64 0]) ∧
  zro Try.prog 299 = some (.pointer none) :=
  ⟨by kernel_rfl, by kernel_rfl, by kernel_rfl, by kernel_rfl, by kernel_rfl, by kernel_rfl, by kernel_rfl, by kernel_rfl, by kernel_rfl, by kernel_rfl, by kernel_rfl, by kernel_rfl, by kernel_rfl, by kernel_rfl, by kernel_rfl, by kernel_rfl, by kernel_rfl, by kernel_rfl, by kernel_rfl, by kernel_rfl, by kernel_rfl, by kernel_rfl, by kernel_rfl, by kernel_rfl, by kernel_rfl, by kernel_rfl, by kernel_rfl, by kernel_rfl, by kernel_rfl, by kernel_rfl, by kernel_rfl, by kernel_rfl, by kernel_rfl, by kernel_rfl, by kernel_rfl, by kernel_rfl, by kernel_rfl, by kernel_rfl, by kernel_rfl, by kernel_rfl, by kernel_rfl, by kernel_rfl, by kernel_rfl, by kernel_rfl, by kernel_rfl, by kernel_rfl, by kernel_rfl, by kernel_rfl, by kernel_rfl, by kernel_rfl, by kernel_rfl, by kernel_rfl, by kernel_rfl, by kernel_rfl, by kernel_rfl, by kernel_rfl, by kernel_rfl, by kernel_rfl, by kernel_rfl, by kernel_rfl, by kernel_rfl, by kernel_rfl, by kernel_rfl, by kernel_rfl, by kernel_rfl, by kernel_rfl, by kernel_rfl, by kernel_rfl, by kernel_rfl, by kernel_rfl, by kernel_rfl, by kernel_rfl, by kernel_rfl, by kernel_rfl, by kernel_rfl, by kernel_rfl, by kernel_rfl, by kernel_rfl, by kernel_rfl, by kernel_rfl, by kernel_rfl, by kernel_rfl, by kernel_rfl, by kernel_rfl, by kernel_rfl⟩
def D78_4 : List Note := Go.Sl.nn [0, 0, 0, 1, 0, 0, 0, 0, 1, 0, 0]
def D78_6 : List Note := Go.Sl.nn [0, 0, 0, 0, 1, 1, 2, 3, 0, 0, 3]
def D80_7 : List Note := Go.Sl.nn [1, 3, 0, 0, 0, 0, 0] ++ ([(1, [1])] ++ (Go.Sl.nn [0, 0, 0, 0] ++ ([(1, [1])] ++ (Go.Sl.nn [0, 0]))))
def D80_9 : List Note := Go.Sl.nn [0, 0, 0, 0, 1, 1] ++ ([(3, [4])] ++ (Go.Sl.nn [2, 3, 0, 0, 3]))
theorem ext_load : extE Try.prog 185 = some (Extern.Atomic.loadT (.int .i64)) := by kernel_rfl
theorem ext_add : extE Try.prog 186 = some (Extern.Atomic.update (Op.intArith .add) .i64 true) := by kernel_rfl
abbrev il (k c : Int) (v : Value) : List Value := [.int .i64 k, .int .i64 c, v]
abbrev ic (y : It × Value) : List Value := il y.1.k y.1.c y.2
theorem ic_len (y : It × Value) : (ic y).length = 3 := rfl
theorem il_one {k c : Int} {v : Value} (h : v.oneCell' = true) : ∀ w ∈ il k c v, w.oneCell' = true := by
  intro w hw
  simp only [il, List.mem_cons, List.not_mem_nil, or_false] at hw
  rcases hw with rfl | rfl | rfl
  · rfl
  · rfl
  · exact h
abbrev nC (p : Nat) (v : Value) (room lost : Int) : Asn := ob p (.cells #[v, .int .i64 room, .int .i64 lost] 267 (0, 0))
def nN (p : Nat) (n : Nt) : Asn := fun H => ∃ (v : Value) (zl : List (It × Value)), zl.map (·.1) = n.l ∧ seps [nC p v n.room n.lost, own 152 3 v (zl.flatMap ic), blobs (zl.map (·.2)) (zl.map (·.1.b))] H
theorem nN_open {G H : Hp} {p : Nat} {n : Nt} {L : List Asn} (h : sg G (nN p n :: L) H) : ∃ (a : Option Addr) (c : Nat) (zl : List (It × Value)), zl.map (·.1) = n.l ∧ n.l.length = zl.length ∧ zl.length ≤ c ∧
    sg G (nC p (.slice a zl.length c) n.room n.lost :: own 152 3 (.slice a zl.length c) (zl.flatMap ic) :: blobs (zl.map (·.2)) (zl.map (·.1.b)) :: L) H := by
  obtain ⟨hd, H1, H2, rfl, hd2, ⟨v, zl, hz, h1⟩, h2⟩ := h
  have h3 : sg G (nC p v n.room n.lost :: own 152 3 v (zl.flatMap ic) :: blobs (zl.map (·.2)) (zl.map (·.1.b)) :: L) (H1.un H2) := ⟨hd, seps_append (l := [_, _, _]).2 ⟨H1, H2, rfl, hd2, h1, h2⟩⟩
  obtain ⟨a, m, c, rfl, e1, f1⟩ := h3.sl 1 rfl Rd_own
  rw [flat_len ic_len] at e1
  obtain rfl : m = zl.length := by omega
  exact ⟨a, c, zl, hz, by rw [← hz, List.length_map], f1, h3⟩
theorem nN_shut {G H : Hp} {p : Nat} (n : Nt) {v : Value} {zl : List (It × Value)} {L : List Asn} (hz : zl.map (·.1) = n.l)
    (h : sg G (nC p v n.room n.lost :: own 152 3 v (zl.flatMap ic) :: blobs (zl.map (·.2)) (zl.map (·.1.b)) :: L) H) : sg G (nN p n :: L) H :=
  h.shut [_, _, _] fun H _ h => ⟨v, zl, hz, h⟩
theorem New_ok {G : Hp} (room : Int) (h : 0 ≤ room ∧ room ≤ 4096) : Con Try.prog G 72 [.int .i64 room] [] (fun r B => ∃ p, r = .tuple #[.pointer (some ⟨p, 0, none⟩), .int .i64 0] ∧ B = [nN p ⟨[], room, 0⟩]) := by
  refine Con.intro Try.func72 rfl (Nat.le_of_ble_eq_true (by kernel_rfl)) (by kernel_rfl) Try.results72 ?_
  intro H hH
  have g1 : ¬ room < 0 := by omega
  have g2 : ¬ (4096 : Int) < room := by omega
  ((try simp only [S, TY, reduceCtorEq, nq0, nq1, nq2, nq3, nq4, iq0, iq1, iq2, iq3, iq4, iq5, iq6, iq7, iq8, g1, g2]); (try (simp (disch := omega) only [W2, Int.cast_ofNat_Int]; (try simp only [S, TY, reduceCtorEq, nq0, nq1, nq2, nq3, nq4, iq0, iq1, iq2, iq3, iq4, iq5, iq6, iq7, iq8, g1, g2]))))
  intro p hp hg
  have h2 := nN_shut ⟨[], room, 0⟩ (zl := []) rfl (((hH.blob_nil).nil_ 152 3).new hp hg (.cells #[.slice none 0 0, .int .i64 room, .int .i64 0] 267 (0, 0)))
  ((try simp only [S, TY, reduceCtorEq, nq0, nq1, nq2, nq3, nq4, iq0, iq1, iq2, iq3, iq4, iq5, iq6, iq7, iq8]); (try (simp (disch := omega) only [W2, Int.cast_ofNat_Int]; (try simp only [S, TY, reduceCtorEq, nq0, nq1, nq2, nq3, nq4, iq0, iq1, iq2, iq3, iq4, iq5, iq6, iq7, iq8]))))
  exact fin_take (B := [_]) h2 ⟨p, rfl, rfl⟩
theorem New_no {G : Hp} (room : Int) (h : ¬ (0 ≤ room ∧ room ≤ 4096)) : Con Try.prog G 72 [.int .i64 room] [] (fun r B => r = .tuple #[.pointer none, .int .i64 1] ∧ B = []) := by
  refine Con.intro Try.func72 rfl (Nat.le_of_ble_eq_true (by kernel_rfl)) (by kernel_rfl) Try.results72 ?_
  intro H hH
  by_cases g1 : room < 0
  · ((try simp only [S, TY, reduceCtorEq, nq0, nq1, nq2, nq3, nq4, iq0, iq1, iq2, iq3, iq4, iq5, iq6, iq7, iq8, g1]); (try (simp (disch := omega) only [W2, Int.cast_ofNat_Int]; (try simp only [S, TY, reduceCtorEq, nq0, nq1, nq2, nq3, nq4, iq0, iq1, iq2, iq3, iq4, iq5, iq6, iq7, iq8, g1]))))
    exact fin_take (B := []) hH ⟨rfl, rfl⟩
  · have g2 : (4096 : Int) < room := by omega
    ((try simp only [S, TY, reduceCtorEq, nq0, nq1, nq2, nq3, nq4, iq0, iq1, iq2, iq3, iq4, iq5, iq6, iq7, iq8, g1, g2]); (try (simp (disch := omega) only [W2, Int.cast_ofNat_Int]; (try simp only [S, TY, reduceCtorEq, nq0, nq1, nq2, nq3, nq4, iq0, iq1, iq2, iq3, iq4, iq5, iq6, iq7, iq8, g1, g2]))))
    exact fin_take (B := []) hH ⟨rfl, rfl⟩
theorem right_ok {G : Hp} {v : Value} (x : It) (hv : rds G 1 v (bv x.b)) : Con Try.prog G 156 [.agg (il x.k x.c v).toArray] [] (fun r B => r = .bool x.ok ∧ B = []) := by
  obtain ⟨a, n, c, rfl, e1, _⟩ := hv.slice
  rw [bv_length, Nat.mul_one] at e1
  obtain ⟨k, cc, b⟩ := x
  simp only at *
  subst e1
  refine Con.intro Try.func156 rfl (Nat.le_of_ble_eq_true (by kernel_rfl)) (by kernel_rfl) Try.results156 ?_
  intro H hH
  ((try simp only [S, TY, reduceCtorEq, nq0, nq1, nq2, nq3, nq4, iq0, iq1, iq2, iq3, iq4, iq5, iq6, iq7, iq8]); (try (simp (disch := omega) only [W2, Int.cast_ofNat_Int]; (try simp only [S, TY, reduceCtorEq, nq0, nq1, nq2, nq3, nq4, iq0, iq1, iq2, iq3, iq4, iq5, iq6, iq7, iq8]))))
  intro q hq hg
  have h1 := hH.new hq hg (.cells (il k cc (.slice a b.length c)).toArray 152 (0, 0))
  have c1 := h1.c0
  obtain ⟨res, hres⟩ : ∃ r, It.ok ⟨k, cc, b⟩ = r := ⟨_, rfl⟩
  rw [hres]
  have key : ∀ r : Bool, r = It.ok ⟨k, cc, b⟩ → fin (fun r B => r = .bool res ∧ B = []) (.returned (.bool r)) (H.set q (.cells (il k cc (.slice a b.length c)).toArray 152 (0, 0))) := by
    rintro r rfl
    exact fin_take (B := []) h1 ⟨by rw [hres], rfl⟩
  unfold It.ok at key
  by_cases g1 : 0 ≤ k
  · by_cases g2 : k < 3
    · by_cases g3 : 0 ≤ cc
      · by_cases g4 : cc < 16
        · ((try simp only [S, TY, reduceCtorEq, nq0, nq1, nq2, nq3, nq4, iq0, iq1, iq2, iq3, iq4, iq5, iq6, iq7, iq8, c1, g1, g2, g3, g4]); (try (simp (disch := omega) only [W2, Int.cast_ofNat_Int]; (try simp only [S, TY, reduceCtorEq, nq0, nq1, nq2, nq3, nq4, iq0, iq1, iq2, iq3, iq4, iq5, iq6, iq7, iq8, c1, g1, g2, g3, g4]))))
          refine key _ ?_
          simp [g1, g2, g3, g4]
          omega
        · ((try simp only [S, TY, reduceCtorEq, nq0, nq1, nq2, nq3, nq4, iq0, iq1, iq2, iq3, iq4, iq5, iq6, iq7, iq8, c1, g1, g2, g3, g4]); (try (simp (disch := omega) only [W2, Int.cast_ofNat_Int]; (try simp only [S, TY, reduceCtorEq, nq0, nq1, nq2, nq3, nq4, iq0, iq1, iq2, iq3, iq4, iq5, iq6, iq7, iq8, c1, g1, g2, g3, g4]))))
          refine key _ ?_
          simp [g1, g2, g3, g4]
      · ((try simp only [S, TY, reduceCtorEq, nq0, nq1, nq2, nq3, nq4, iq0, iq1, iq2, iq3, iq4, iq5, iq6, iq7, iq8, c1, g1, g2, g3]); (try (simp (disch := omega) only [W2, Int.cast_ofNat_Int]; (try simp only [S, TY, reduceCtorEq, nq0, nq1, nq2, nq3, nq4, iq0, iq1, iq2, iq3, iq4, iq5, iq6, iq7, iq8, c1, g1, g2, g3]))))
        refine key _ ?_
        simp [g1, g2, g3]
    · ((try simp only [S, TY, reduceCtorEq, nq0, nq1, nq2, nq3, nq4, iq0, iq1, iq2, iq3, iq4, iq5, iq6, iq7, iq8, c1, g1, g2]); (try (simp (disch := omega) only [W2, Int.cast_ofNat_Int]; (try simp only [S, TY, reduceCtorEq, nq0, nq1, nq2, nq3, nq4, iq0, iq1, iq2, iq3, iq4, iq5, iq6, iq7, iq8, c1, g1, g2]))))
      refine key _ ?_
      simp [g1, g2]
  · ((try simp only [S, TY, reduceCtorEq, nq0, nq1, nq2, nq3, nq4, iq0, iq1, iq2, iq3, iq4, iq5, iq6, iq7, iq8, c1, g1]); (try (simp (disch := omega) only [W2, Int.cast_ofNat_Int]; (try simp only [S, TY, reduceCtorEq, nq0, nq1, nq2, nq3, nq4, iq0, iq1, iq2, iq3, iq4, iq5, iq6, iq7, iq8, c1, g1]))))
    refine key _ ?_
    simp [g1]
theorem own_ok {G : Hp} {v : Value} (x : It) (hv : rds G 1 v (bv x.b)) (hl : x.b.length ≤ 100000) : Con Try.prog G 152 [.agg (il x.k x.c v).toArray] [] (fun r B => ∃ u, r = .agg (il x.k x.c u).toArray ∧ B = [own 5 1 u (bv x.b)]) := by
  have hv0 := hv
  obtain ⟨a, n, c, rfl, e1, _⟩ := hv.slice
  obtain ⟨k, cc, b⟩ := x
  simp only at *
  refine Con.intro Try.func152 rfl (Nat.le_of_ble_eq_true (by kernel_rfl)) (by kernel_rfl) Try.results152 ?_
  intro H hH
  ((try simp only [S, TY, reduceCtorEq, nq0, nq1, nq2, nq3, nq4, iq0, iq1, iq2, iq3, iq4, iq5, iq6, iq7, iq8]); (try (simp (disch := omega) only [W2, Int.cast_ofNat_Int]; (try simp only [S, TY, reduceCtorEq, nq0, nq1, nq2, nq3, nq4, iq0, iq1, iq2, iq3, iq4, iq5, iq6, iq7, iq8]))))
  intro q hq hg
  have h1 := hH.new hq hg (.cells (il k cc (.slice a n c)).toArray 152 (0, 0))
  ((try simp only [S, TY, reduceCtorEq, nq0, nq1, nq2, nq3, nq4, iq0, iq1, iq2, iq3, iq4, iq5, iq6, iq7, iq8]); (try (simp (disch := omega) only [W2, Int.cast_ofNat_Int]; (try simp only [S, TY, reduceCtorEq, nq0, nq1, nq2, nq3, nq4, iq0, iq1, iq2, iq3, iq4, iq5, iq6, iq7, iq8]))))
  intro q2 hq2 hg2
  have h2 := h1.new hq2 hg2 (.cells (il 0 0 (.slice none 0 0)).toArray 152 (0, 0))
  have c2 := h2.ci 1 rfl
  ((try simp only [S, TY, reduceCtorEq, nq0, nq1, nq2, nq3, nq4, iq0, iq1, iq2, iq3, iq4, iq5, iq6, iq7, iq8, c2]); (try (simp (disch := omega) only [W2, Int.cast_ofNat_Int]; (try simp only [S, TY, reduceCtorEq, nq0, nq1, nq2, nq3, nq4, iq0, iq1, iq2, iq3, iq4, iq5, iq6, iq7, iq8, c2]))))
  refine (SeS.Clone_ok hv0 (by omega)).at_ h2 [] _ rfl fun r B H3 hr h3 => ?_
  subst hr
  obtain ⟨ua, un, uc, rfl, _, _⟩ := h3.sl 0 rfl Rd_own
  simp only [front_eq, fronts_nil, fronts_cons, List.getElem?_cons_zero, List.getElem?_cons_succ, List.eraseIdx_cons_zero, List.eraseIdx_cons_succ, List.cons_append, List.nil_append, putL_cons, putL_nil, List.set_cons_zero, List.set_cons_succ, Nat.reduceAdd] at h3
  ((try simp only [S, TY, reduceCtorEq, nq0, nq1, nq2, nq3, nq4, iq0, iq1, iq2, iq3, iq4, iq5, iq6, iq7, iq8]); (try (simp (disch := omega) only [W2, Int.cast_ofNat_Int]; (try simp only [S, TY, reduceCtorEq, nq0, nq1, nq2, nq3, nq4, iq0, iq1, iq2, iq3, iq4, iq5, iq6, iq7, iq8]))))
  refine sg.st (h3.front 2) rfl rfl fun H4 h4 => ?_
  simp only [front_eq, fronts_nil, fronts_cons, List.getElem?_cons_zero, List.getElem?_cons_succ, List.eraseIdx_cons_zero, List.eraseIdx_cons_succ, List.cons_append, List.nil_append, putL_cons, putL_nil, List.set_cons_zero, List.set_cons_succ, Nat.reduceAdd] at h4
  have w4 := h4.li 0 rfl
  ((try simp only [S, TY, reduceCtorEq, nq0, nq1, nq2, nq3, nq4, iq0, iq1, iq2, iq3, iq4, iq5, iq6, iq7, iq8, w4]); (try (simp (disch := omega) only [W2, Int.cast_ofNat_Int]; (try simp only [S, TY, reduceCtorEq, nq0, nq1, nq2, nq3, nq4, iq0, iq1, iq2, iq3, iq4, iq5, iq6, iq7, iq8, w4]))))
  refine sg.st (h4.front 2) rfl rfl fun H5 h5 => ?_
  simp only [front_eq, fronts_nil, fronts_cons, List.getElem?_cons_zero, List.getElem?_cons_succ, List.eraseIdx_cons_zero, List.eraseIdx_cons_succ, List.cons_append, List.nil_append, putL_cons, putL_nil, List.set_cons_zero, List.set_cons_succ, Nat.reduceAdd] at h5
  have w5 := h5.li 0 rfl
  ((try simp only [S, TY, reduceCtorEq, nq0, nq1, nq2, nq3, nq4, iq0, iq1, iq2, iq3, iq4, iq5, iq6, iq7, iq8, w5]); (try (simp (disch := omega) only [W2, Int.cast_ofNat_Int]; (try simp only [S, TY, reduceCtorEq, nq0, nq1, nq2, nq3, nq4, iq0, iq1, iq2, iq3, iq4, iq5, iq6, iq7, iq8, w5]))))
  exact fin_take (B := [_]) (h5.front 2) ⟨_, rfl, rfl⟩
theorem wrong_nil {G : Hp} (i : Int) : Con Try.prog G 151 [.pointer none, .int .i64 i] [] (fun r B => r = .int .i64 1 ∧ B = []) := by
  refine Con.intro Try.func151 rfl (Nat.le_of_ble_eq_true (by kernel_rfl)) (by kernel_rfl) Try.results151 ?_
  intro H h
  ((try simp only [S, TY, reduceCtorEq, nq0, nq1, nq2, nq3, nq4, iq0, iq1, iq2, iq3, iq4, iq5, iq6, iq7, iq8]); (try (simp (disch := omega) only [W2, Int.cast_ofNat_Int]; (try simp only [S, TY, reduceCtorEq, nq0, nq1, nq2, nq3, nq4, iq0, iq1, iq2, iq3, iq4, iq5, iq6, iq7, iq8]))))
  exact fin_take (B := []) h ⟨rfl, rfl⟩
theorem wrong_ok {G : Hp} {p : Nat} {a : Option Addr} {n c : Nat} {room lost : Int} (i : Int) : Con Try.prog G 151 [.pointer (some ⟨p, 0, none⟩), .int .i64 i] [nC p (.slice a n c) room lost]
    (fun r B => r = .int .i64 (if 0 ≤ i ∧ i < n then 0 else 4) ∧ B = [nC p (.slice a n c) room lost]) := by
  refine Con.intro Try.func151 rfl (Nat.le_of_ble_eq_true (by kernel_rfl)) (by kernel_rfl) Try.results151 ?_
  intro H h
  have c0 := h.c0
  by_cases g1 : i < 0
  · rw [if_neg (by omega)]
    ((try simp only [S, TY, reduceCtorEq, nq0, nq1, nq2, nq3, nq4, iq0, iq1, iq2, iq3, iq4, iq5, iq6, iq7, iq8, c0, g1]); (try (simp (disch := omega) only [W2, Int.cast_ofNat_Int]; (try simp only [S, TY, reduceCtorEq, nq0, nq1, nq2, nq3, nq4, iq0, iq1, iq2, iq3, iq4, iq5, iq6, iq7, iq8, c0, g1]))))
    exact fin_take (B := [_]) h ⟨rfl, rfl⟩
  · by_cases g2 : (n : Int) ≤ i
    · rw [if_neg (by omega)]
      ((try simp only [S, TY, reduceCtorEq, nq0, nq1, nq2, nq3, nq4, iq0, iq1, iq2, iq3, iq4, iq5, iq6, iq7, iq8, c0, g1, g2]); (try (simp (disch := omega) only [W2, Int.cast_ofNat_Int]; (try simp only [S, TY, reduceCtorEq, nq0, nq1, nq2, nq3, nq4, iq0, iq1, iq2, iq3, iq4, iq5, iq6, iq7, iq8, c0, g1, g2]))))
      exact fin_take (B := [_]) h ⟨rfl, rfl⟩
    · rw [if_pos (by omega)]
      ((try simp only [S, TY, reduceCtorEq, nq0, nq1, nq2, nq3, nq4, iq0, iq1, iq2, iq3, iq4, iq5, iq6, iq7, iq8, c0, g1, g2]); (try (simp (disch := omega) only [W2, Int.cast_ofNat_Int]; (try simp only [S, TY, reduceCtorEq, nq0, nq1, nq2, nq3, nq4, iq0, iq1, iq2, iq3, iq4, iq5, iq6, iq7, iq8, c0, g1, g2]))))
      exact fin_take (B := [_]) h ⟨rfl, rfl⟩
theorem Len_ok {G : Hp} {p : Nat} {n : Nt} : Con Try.prog G 74 [.pointer (some ⟨p, 0, none⟩)] [nN p n] (fun r B => r = .int .i64 n.l.length ∧ B = [nN p n]) := by
  refine Con.intro Try.func74 rfl (Nat.le_of_ble_eq_true (by kernel_rfl)) (by kernel_rfl) Try.results74 ?_
  intro H hH
  obtain ⟨a, c, zl, hz, hl, _, h⟩ := nN_open hH
  have c0 := h.c0
  rw [hl]
  ((try simp only [S, TY, reduceCtorEq, nq0, nq1, nq2, nq3, nq4, iq0, iq1, iq2, iq3, iq4, iq5, iq6, iq7, iq8, c0]); (try (simp (disch := omega) only [W2, Int.cast_ofNat_Int]; (try simp only [S, TY, reduceCtorEq, nq0, nq1, nq2, nq3, nq4, iq0, iq1, iq2, iq3, iq4, iq5, iq6, iq7, iq8, c0]))))
  exact fin_take (B := [_]) (nN_shut n hz h) ⟨rfl, rfl⟩
theorem Len_nil {G : Hp} : Con Try.prog G 74 [.pointer none] [] (fun r B => r = .int .i64 0 ∧ B = []) := by
  refine Con.intro Try.func74 rfl (Nat.le_of_ble_eq_true (by kernel_rfl)) (by kernel_rfl) Try.results74 ?_
  intro H hH
  ((try simp only [S, TY, reduceCtorEq, nq0, nq1, nq2, nq3, nq4, iq0, iq1, iq2, iq3, iq4, iq5, iq6, iq7, iq8]); (try (simp (disch := omega) only [W2, Int.cast_ofNat_Int]; (try simp only [S, TY, reduceCtorEq, nq0, nq1, nq2, nq3, nq4, iq0, iq1, iq2, iq3, iq4, iq5, iq6, iq7, iq8]))))
  exact fin_take (B := []) hH ⟨rfl, rfl⟩
theorem aLoad_ok {G : Hp} {p : Nat} {v : Value} {room lost : Int} : Con Try.prog G 150 [.pointer (some ⟨p, 2, none⟩)] [nC p v room lost] (fun r B => r = .int .i64 lost ∧ B = [nC p v room lost]) := by
  refine Con.intro Try.func150 rfl (Nat.le_of_ble_eq_true (by kernel_rfl)) (by kernel_rfl) Try.results150 ?_
  intro H h
  have c0 := h.c0
  ((try simp only [S, TY, reduceCtorEq, nq0, nq1, nq2, nq3, nq4, iq0, iq1, iq2, iq3, iq4, iq5, iq6, iq7, iq8, c0]); (try (simp (disch := omega) only [W2, Int.cast_ofNat_Int]; (try simp only [S, TY, reduceCtorEq, nq0, nq1, nq2, nq3, nq4, iq0, iq1, iq2, iq3, iq4, iq5, iq6, iq7, iq8, c0]))))
  refine load64 (a := ⟨p, 2, none⟩) (n := lost) ext_load rfl (c0 2) ?_
  ((try simp only [S, TY, reduceCtorEq, nq0, nq1, nq2, nq3, nq4, iq0, iq1, iq2, iq3, iq4, iq5, iq6, iq7, iq8, c0]); (try (simp (disch := omega) only [W2, Int.cast_ofNat_Int]; (try simp only [S, TY, reduceCtorEq, nq0, nq1, nq2, nq3, nq4, iq0, iq1, iq2, iq3, iq4, iq5, iq6, iq7, iq8, c0]))))
  exact fin_take (B := [_]) h ⟨rfl, rfl⟩
theorem aAdd_ok {G : Hp} {p : Nat} {v : Value} {room lost : Int} (hl : 0 ≤ lost ∧ lost ≤ 1000000) : Con Try.prog G 157 [.pointer (some ⟨p, 2, none⟩), .int .i64 1] [nC p v room lost] (fun r B => B = [nC p v room (lost + 1)]) := by
  refine Con.intro Try.func157 rfl (Nat.le_of_ble_eq_true (by kernel_rfl)) (by kernel_rfl) Try.results157 ?_
  intro H h
  have c0 := h.c0
  ((try simp only [S, TY, reduceCtorEq, nq0, nq1, nq2, nq3, nq4, iq0, iq1, iq2, iq3, iq4, iq5, iq6, iq7, iq8, c0]); (try (simp (disch := omega) only [W2, Int.cast_ofNat_Int]; (try simp only [S, TY, reduceCtorEq, nq0, nq1, nq2, nq3, nq4, iq0, iq1, iq2, iq3, iq4, iq5, iq6, iq7, iq8, c0]))))
  refine add64 (a := ⟨p, 2, none⟩) (n := lost) (m := 1) ext_add rfl rfl (c0 2) ?_
  rw [show IntKind.i64.wrap (lost + 1) = lost + 1 by rw [wrap_id] <;> omega]
  refine sg.st h rfl rfl fun H2 h2 => ?_
  simp only [front_eq, fronts_nil, fronts_cons, List.getElem?_cons_zero, List.getElem?_cons_succ, List.eraseIdx_cons_zero, List.eraseIdx_cons_succ, List.cons_append, List.nil_append, putL_cons, putL_nil, List.set_cons_zero, List.set_cons_succ, Nat.reduceAdd] at h2
  ((try simp only [S, TY, reduceCtorEq, nq0, nq1, nq2, nq3, nq4, iq0, iq1, iq2, iq3, iq4, iq5, iq6, iq7, iq8]); (try (simp (disch := omega) only [W2, Int.cast_ofNat_Int]; (try simp only [S, TY, reduceCtorEq, nq0, nq1, nq2, nq3, nq4, iq0, iq1, iq2, iq3, iq4, iq5, iq6, iq7, iq8]))))
  exact fin_take (B := [_]) h2 rfl
theorem Lost_ok {G : Hp} {p : Nat} {n : Nt} : Con Try.prog G 75 [.pointer (some ⟨p, 0, none⟩)] [nN p n] (fun r B => r = .int .i64 n.lost ∧ B = [nN p n]) := by
  refine Con.intro Try.func75 rfl (Nat.le_of_ble_eq_true (by kernel_rfl)) (by kernel_rfl) Try.results75 ?_
  intro H hH
  obtain ⟨a, c, zl, hz, hl, _, h⟩ := nN_open hH
  ((try simp only [S, TY, reduceCtorEq, nq0, nq1, nq2, nq3, nq4, iq0, iq1, iq2, iq3, iq4, iq5, iq6, iq7, iq8]); (try (simp (disch := omega) only [W2, Int.cast_ofNat_Int]; (try simp only [S, TY, reduceCtorEq, nq0, nq1, nq2, nq3, nq4, iq0, iq1, iq2, iq3, iq4, iq5, iq6, iq7, iq8]))))
  refine aLoad_ok.at_ h [0] _ rfl fun r B H2 hr h2 => ?_
  obtain ⟨rfl, rfl⟩ := hr
  ((try simp only [S, TY, reduceCtorEq, nq0, nq1, nq2, nq3, nq4, iq0, iq1, iq2, iq3, iq4, iq5, iq6, iq7, iq8]); (try (simp (disch := omega) only [W2, Int.cast_ofNat_Int]; (try simp only [S, TY, reduceCtorEq, nq0, nq1, nq2, nq3, nq4, iq0, iq1, iq2, iq3, iq4, iq5, iq6, iq7, iq8]))))
  exact fin_take (B := [_]) (nN_shut n hz h2) ⟨rfl, rfl⟩
theorem Lost_nil {G : Hp} : Con Try.prog G 75 [.pointer none] [] (fun r B => r = .int .i64 0 ∧ B = []) := by
  refine Con.intro Try.func75 rfl (Nat.le_of_ble_eq_true (by kernel_rfl)) (by kernel_rfl) Try.results75 ?_
  intro H hH
  ((try simp only [S, TY, reduceCtorEq, nq0, nq1, nq2, nq3, nq4, iq0, iq1, iq2, iq3, iq4, iq5, iq6, iq7, iq8]); (try (simp (disch := omega) only [W2, Int.cast_ofNat_Int]; (try simp only [S, TY, reduceCtorEq, nq0, nq1, nq2, nq3, nq4, iq0, iq1, iq2, iq3, iq4, iq5, iq6, iq7, iq8]))))
  exact fin_take (B := []) hH ⟨rfl, rfl⟩
/-- The item at a place, with bytes of its own. -/
def AtR (p : Nat) (n : Nt) (i : Int) (r : Value) (B : List Asn) : Prop := if n.has i then ∃ u, r = .tuple #[.agg (il (n.l.getD i.toNat ⟨0, 0, []⟩).k (n.l.getD i.toNat ⟨0, 0, []⟩).c u).toArray, .int .i64 0] ∧ B = [own 5 1 u (bv (n.l.getD i.toNat ⟨0, 0, []⟩).b), nN p n]
  else r = .tuple #[.agg (il 0 0 (.slice none 0 0)).toArray, .int .i64 4] ∧ B = [nN p n]
theorem At_nil {G : Hp} (i : Int) : Con Try.prog G 76 [.pointer none, .int .i64 i] [] (fun r B => r = .tuple #[.agg (il 0 0 (.slice none 0 0)).toArray, .int .i64 1] ∧ B = []) := by
  refine Con.intro Try.func76 rfl (Nat.le_of_ble_eq_true (by kernel_rfl)) (by kernel_rfl) Try.results76 ?_
  intro H h
  ((try simp only [S, TY, reduceCtorEq, nq0, nq1, nq2, nq3, nq4, iq0, iq1, iq2, iq3, iq4, iq5, iq6, iq7, iq8]); (try (simp (disch := omega) only [W2, Int.cast_ofNat_Int]; (try simp only [S, TY, reduceCtorEq, nq0, nq1, nq2, nq3, nq4, iq0, iq1, iq2, iq3, iq4, iq5, iq6, iq7, iq8]))))
  intro q hq hg
  have h1 := h.new hq hg (.cells (il 0 0 (.slice none 0 0)).toArray 152 (0, 0))
  ((try simp only [S, TY, reduceCtorEq, nq0, nq1, nq2, nq3, nq4, iq0, iq1, iq2, iq3, iq4, iq5, iq6, iq7, iq8]); (try (simp (disch := omega) only [W2, Int.cast_ofNat_Int]; (try simp only [S, TY, reduceCtorEq, nq0, nq1, nq2, nq3, nq4, iq0, iq1, iq2, iq3, iq4, iq5, iq6, iq7, iq8]))))
  refine (wrong_nil i).at_ h1 [] _ rfl fun r B H2 hr h2 => ?_
  obtain ⟨rfl, rfl⟩ := hr
  ((try simp only [S, TY, reduceCtorEq, nq0, nq1, nq2, nq3, nq4, iq0, iq1, iq2, iq3, iq4, iq5, iq6, iq7, iq8]); (try (simp (disch := omega) only [W2, Int.cast_ofNat_Int]; (try simp only [S, TY, reduceCtorEq, nq0, nq1, nq2, nq3, nq4, iq0, iq1, iq2, iq3, iq4, iq5, iq6, iq7, iq8]))))
  refine sg.st h2 rfl rfl fun H3 h3 => ?_
  simp only [front_eq, fronts_nil, fronts_cons, List.getElem?_cons_zero, List.getElem?_cons_succ, List.eraseIdx_cons_zero, List.eraseIdx_cons_succ, List.cons_append, List.nil_append, putL_cons, putL_nil, List.set_cons_zero, List.set_cons_succ, Nat.reduceAdd] at h3
  have w3 := h3.li 0 rfl
  ((try simp only [S, TY, reduceCtorEq, nq0, nq1, nq2, nq3, nq4, iq0, iq1, iq2, iq3, iq4, iq5, iq6, iq7, iq8, w3]); (try (simp (disch := omega) only [W2, Int.cast_ofNat_Int]; (try simp only [S, TY, reduceCtorEq, nq0, nq1, nq2, nq3, nq4, iq0, iq1, iq2, iq3, iq4, iq5, iq6, iq7, iq8, w3]))))
  exact fin_take (B := []) h3 ⟨rfl, rfl⟩
theorem At_ok {G : Hp} {p : Nat} {n : Nt} {N : Int} (hw : n.wf N) (i : Int) : Con Try.prog G 76 [.pointer (some ⟨p, 0, none⟩), .int .i64 i] [nN p n] (AtR p n i) := by
  refine Con.intro Try.func76 rfl (Nat.le_of_ble_eq_true (by kernel_rfl)) (by kernel_rfl) Try.results76 ?_
  intro H hH
  ((try simp only [S, TY, reduceCtorEq, nq0, nq1, nq2, nq3, nq4, iq0, iq1, iq2, iq3, iq4, iq5, iq6, iq7, iq8]); (try (simp (disch := omega) only [W2, Int.cast_ofNat_Int]; (try simp only [S, TY, reduceCtorEq, nq0, nq1, nq2, nq3, nq4, iq0, iq1, iq2, iq3, iq4, iq5, iq6, iq7, iq8]))))
  intro q hq hg
  have h1 := hH.new hq hg (.cells (il 0 0 (.slice none 0 0)).toArray 152 (0, 0))
  obtain ⟨a, c, zl, hz, hl, hc, h2⟩ := nN_open (h1.front 1)
  simp only [front_eq, fronts_nil, fronts_cons, List.getElem?_cons_zero, List.getElem?_cons_succ, List.eraseIdx_cons_zero, List.eraseIdx_cons_succ, List.cons_append, List.nil_append, putL_cons, putL_nil, List.set_cons_zero, List.set_cons_succ, Nat.reduceAdd] at h2
  ((try simp only [S, TY, reduceCtorEq, nq0, nq1, nq2, nq3, nq4, iq0, iq1, iq2, iq3, iq4, iq5, iq6, iq7, iq8]); (try (simp (disch := omega) only [W2, Int.cast_ofNat_Int]; (try simp only [S, TY, reduceCtorEq, nq0, nq1, nq2, nq3, nq4, iq0, iq1, iq2, iq3, iq4, iq5, iq6, iq7, iq8]))))
  refine (wrong_ok i).at_ h2 [0] _ rfl fun r B H3 hr h3 => ?_
  obtain ⟨rfl, rfl⟩ := hr
  simp only [front_eq, fronts_nil, fronts_cons, List.getElem?_cons_zero, List.getElem?_cons_succ, List.eraseIdx_cons_zero, List.eraseIdx_cons_succ, List.cons_append, List.nil_append, putL_cons, putL_nil, List.set_cons_zero, List.set_cons_succ, Nat.reduceAdd] at h3
  have c3 := h3.c0
  by_cases g1 : n.has i
  · have g2 : 0 ≤ i ∧ i < (zl.length : Int) := by rw [← hl]; exact g1
    rw [if_pos g2]
    have hi : i.toNat < zl.length := by omega
    obtain ⟨k, off, hl', rfl, _, e3⟩ := (h3.rdsi 1 rfl Rd_own).el ic_len (i := i.toNat) hi (by omega)
    have hx : n.l.getD i.toNat ⟨0, 0, []⟩ = zl[i.toNat].1 := by rw [← hz, List.getD_eq_getElem?_getD, List.getElem?_map, List.getElem?_eq_getElem hi]; rfl
    have hxb : zl[i.toNat].1.b.length ≤ 2000 := by rw [← hx]; exact It.len (hw.b _ (by rw [List.getD_eq_getElem?_getD, List.getElem?_eq_getElem (by omega : i.toNat < n.l.length)]; exact List.getElem_mem _))
    have hB : ∀ F, seps [blobs (zl.map (·.2)) (zl.map (·.1.b))] F → rds F 1 zl[i.toNat].2 (bv zl[i.toNat].1.b) := by
      intro F hs
      have := (SeW.seps_blob hs 0 rfl).get i.toNat (by rw [List.length_map]; exact hi) (by rw [List.length_map]; exact hi)
      rw [List.getElem_map, List.getElem_map] at this
      exact this
    ((try simp only [S, TY, reduceCtorEq, nq0, nq1, nq2, nq3, nq4, iq0, iq1, iq2, iq3, iq4, iq5, iq6, iq7, iq8, c3, g2, e3]); (try (simp (disch := omega) only [W2, Int.cast_ofNat_Int]; (try simp only [S, TY, reduceCtorEq, nq0, nq1, nq2, nq3, nq4, iq0, iq1, iq2, iq3, iq4, iq5, iq6, iq7, iq8, c3, g2, e3]))))
    refine Con.lend_at [] [blobs (zl.map (·.2)) (zl.map (·.1.b))] h3 [2] rfl (fun F hF hs => own_ok zl[i.toNat].1 (v := zl[i.toNat].2) (hB F hs).left (by omega)) fun r B H4 hr h4 => ?_
    obtain ⟨u, rfl, rfl⟩ := hr
    obtain ⟨ua, un, uc, rfl, _, _⟩ := h4.sl 0 rfl Rd_own
    simp only [front_eq, fronts_nil, fronts_cons, List.getElem?_cons_zero, List.getElem?_cons_succ, List.eraseIdx_cons_zero, List.eraseIdx_cons_succ, List.cons_append, List.nil_append, putL_cons, putL_nil, List.set_cons_zero, List.set_cons_succ, Nat.reduceAdd] at h4
    ((try simp only [S, TY, reduceCtorEq, nq0, nq1, nq2, nq3, nq4, iq0, iq1, iq2, iq3, iq4, iq5, iq6, iq7, iq8]); (try (simp (disch := omega) only [W2, Int.cast_ofNat_Int]; (try simp only [S, TY, reduceCtorEq, nq0, nq1, nq2, nq3, nq4, iq0, iq1, iq2, iq3, iq4, iq5, iq6, iq7, iq8]))))
    refine sg.st (h4.front 4) rfl rfl fun H5 h5 => ?_
    simp only [front_eq, fronts_nil, fronts_cons, List.getElem?_cons_zero, List.getElem?_cons_succ, List.eraseIdx_cons_zero, List.eraseIdx_cons_succ, List.cons_append, List.nil_append, putL_cons, putL_nil, List.set_cons_zero, List.set_cons_succ, Nat.reduceAdd] at h5
    have w5 := h5.li 0 rfl
    ((try simp only [S, TY, reduceCtorEq, nq0, nq1, nq2, nq3, nq4, iq0, iq1, iq2, iq3, iq4, iq5, iq6, iq7, iq8, w5]); (try (simp (disch := omega) only [W2, Int.cast_ofNat_Int]; (try simp only [S, TY, reduceCtorEq, nq0, nq1, nq2, nq3, nq4, iq0, iq1, iq2, iq3, iq4, iq5, iq6, iq7, iq8, w5]))))
    exact fin_take (B := [_, _]) ((nN_shut n hz (h5.fronts [3, 3, 2])).fronts [2, 0]) (by unfold AtR; rw [if_pos g1, hx]; exact ⟨_, rfl, rfl⟩)
  · have g2 : ¬ (0 ≤ i ∧ i < (zl.length : Int)) := by rw [← hl]; exact g1
    rw [if_neg g2]
    ((try simp only [S, TY, reduceCtorEq, nq0, nq1, nq2, nq3, nq4, iq0, iq1, iq2, iq3, iq4, iq5, iq6, iq7, iq8, c3]); (try (simp (disch := omega) only [W2, Int.cast_ofNat_Int]; (try simp only [S, TY, reduceCtorEq, nq0, nq1, nq2, nq3, nq4, iq0, iq1, iq2, iq3, iq4, iq5, iq6, iq7, iq8, c3]))))
    refine sg.st (h3.front 3) rfl rfl fun H4 h4 => ?_
    simp only [front_eq, fronts_nil, fronts_cons, List.getElem?_cons_zero, List.getElem?_cons_succ, List.eraseIdx_cons_zero, List.eraseIdx_cons_succ, List.cons_append, List.nil_append, putL_cons, putL_nil, List.set_cons_zero, List.set_cons_succ, Nat.reduceAdd] at h4
    have w4 := h4.li 0 rfl
    ((try simp only [S, TY, reduceCtorEq, nq0, nq1, nq2, nq3, nq4, iq0, iq1, iq2, iq3, iq4, iq5, iq6, iq7, iq8, w4]); (try (simp (disch := omega) only [W2, Int.cast_ofNat_Int]; (try simp only [S, TY, reduceCtorEq, nq0, nq1, nq2, nq3, nq4, iq0, iq1, iq2, iq3, iq4, iq5, iq6, iq7, iq8, w4]))))
    exact fin_take (B := [_]) (nN_shut n hz (h4.fronts [1, 1, 1])) (by unfold AtR; rw [if_neg g1]; exact ⟨rfl, rfl⟩)
theorem Put_nil {G : Hp} (w : Value) : Con Try.prog G 80 [.pointer none, w] [] (fun r B => r = .int .i64 0 ∧ B = []) := by
  refine Con.intro Try.func80 rfl (Nat.le_of_ble_eq_true (by kernel_rfl)) (by kernel_rfl) Try.results80 ?_
  intro H h
  ((try simp only [S, TY, reduceCtorEq, nq0, nq1, nq2, nq3, nq4, iq0, iq1, iq2, iq3, iq4, iq5, iq6, iq7, iq8]); (try (simp (disch := omega) only [W2, Int.cast_ofNat_Int]; (try simp only [S, TY, reduceCtorEq, nq0, nq1, nq2, nq3, nq4, iq0, iq1, iq2, iq3, iq4, iq5, iq6, iq7, iq8]))); repeat ((first | (refine cl_drawi 7 D80_7 (List.range 15) (by decide) (by kernel_rfl) ?_; unfold D80_7) | (refine cl_drawi 9 D80_9 (List.range 12) (by decide) (by kernel_rfl) ?_; unfold D80_9)); simp only [S, TY, reduceCtorEq, nq0, nq1, nq2, nq3, nq4, iq0, iq1, iq2, iq3, iq4, iq5, iq6, iq7, iq8]; (try (simp (disch := omega) only [W2, Int.cast_ofNat_Int]; (try simp only [S, TY, reduceCtorEq, nq0, nq1, nq2, nq3, nq4, iq0, iq1, iq2, iq3, iq4, iq5, iq6, iq7, iq8])))))
  exact fin_take (B := []) h ⟨rfl, rfl⟩
theorem Put_ok {G : Hp} {p : Nat} {n : Nt} {N : Int} {w : Value} {yl : List (It × Value)} (hw : n.wf N) (hN : 0 ≤ N ∧ N ≤ 100000) (hy : yl.length ≤ 1000) (hr : rds G 3 w (yl.flatMap ic)) (hb : blobs (yl.map (·.2)) (yl.map (·.1.b)) G) :
    Con Try.prog G 80 [.pointer (some ⟨p, 0, none⟩), w] [nN p n] (fun r B => r = .int .i64 (n.puts (yl.map (·.1))).2 ∧ B = [nN p (n.puts (yl.map (·.1))).1]) := by
  have hr0 := hr
  obtain ⟨wa, wn, wc, rfl, e1, _⟩ := hr.slice
  rw [flat_len ic_len] at e1
  obtain rfl : wn = yl.length := by omega
  refine Con.intro Try.func80 rfl (Nat.le_of_ble_eq_true (by kernel_rfl)) (by kernel_rfl) Try.results80 ?_
  intro H h
  ((try simp only [S, TY, reduceCtorEq, nq0, nq1, nq2, nq3, nq4, iq0, iq1, iq2, iq3, iq4, iq5, iq6, iq7, iq8]); (try (simp (disch := omega) only [W2, Int.cast_ofNat_Int]; (try simp only [S, TY, reduceCtorEq, nq0, nq1, nq2, nq3, nq4, iq0, iq1, iq2, iq3, iq4, iq5, iq6, iq7, iq8]))); repeat ((first | (refine cl_drawi 7 D80_7 (List.range 15) (by decide) (by kernel_rfl) ?_; unfold D80_7) | (refine cl_drawi 9 D80_9 (List.range 12) (by decide) (by kernel_rfl) ?_; unfold D80_9)); simp only [S, TY, reduceCtorEq, nq0, nq1, nq2, nq3, nq4, iq0, iq1, iq2, iq3, iq4, iq5, iq6, iq7, iq8]; (try (simp (disch := omega) only [W2, Int.cast_ofNat_Int]; (try simp only [S, TY, reduceCtorEq, nq0, nq1, nq2, nq3, nq4, iq0, iq1, iq2, iq3, iq4, iq5, iq6, iq7, iq8])))))
  refine cl_loop (fun i e H => i ≤ yl.length ∧ e 0 = .pointer (some ⟨p, 0, none⟩) ∧ e 10 = .slice wa yl.length wc ∧ e 11 = .int .i64 (yl.length : Nat) ∧ e 12 = .int .i64 (i : Nat) ∧ ∃ (m : Nt) (came : Nat), n.puts ((yl.take i).map (·.1)) = (m, came) ∧ e 5 = .int .i64 (came : Nat) ∧ sg G [nN p m] H) (fun i : Nat => yl.length - i) 0
    ⟨by omega, rfl, rfl, rfl, rfl, n, 0, rfl, rfl, h⟩ ?_
  clear h
  rintro i e H ⟨qi, q0, q10, q11, q12, m, came, hm, q5, h⟩
  have hwm : m.wf (N + i) := by
    have := wf_puts hw ((yl.take i).map (·.1))
    rw [hm] at this
    exact this.mono (by rw [List.length_map, List.length_take]; omega)
  have hlt := hwm.t
  have hlr := hwm.r
  have hcame : came ≤ i := by
    have := puts_le n ((yl.take i).map (·.1))
    rw [hm, List.length_map, List.length_take] at this
    simp only at this
    omega
  by_cases g1 : (i : Int) < yl.length
  · have g2 : (0 : Int) ≤ i ∧ (i : Int) < yl.length := ⟨by omega, g1⟩
    have hi : i < yl.length := by omega
    have hs : (yl.take (i + 1)).map (·.1) = (yl.take i).map (·.1) ++ [yl[i].1] := by rw [List.take_add_one, List.getElem?_eq_getElem hi, List.map_append]; rfl
    obtain ⟨k, off, hl', rfl, _, d1⟩ := hr0.el ic_len (i := i) hi (by omega)
    have hu : rds G 1 yl[i].2 (bv yl[i].1.b) := by
      have := hb.get i (by rw [List.length_map]; exact hi) (by rw [List.length_map]; exact hi)
      rw [List.getElem_map, List.getElem_map] at this
      exact this
    replace d1 := h.rold d1
    obtain ⟨y, hyi⟩ : ∃ y, yl[i] = y := ⟨_, rfl⟩
    rw [hyi] at d1 hu hs
    obtain ⟨⟨xk, xc, xb⟩, u⟩ := y
    simp only [ic] at d1 hu hs
    have hu0 := hu
    obtain ⟨ua, un, uc, rfl, _, _⟩ := hu.slice
    ((try simp only [S, TY, reduceCtorEq, nq0, nq1, nq2, nq3, nq4, iq0, iq1, iq2, iq3, iq4, iq5, iq6, iq7, iq8, q0, q5, q10, q11, q12, g1, g2, d1]); (try (simp (disch := omega) only [W2, Int.cast_ofNat_Int]; (try simp only [S, TY, reduceCtorEq, nq0, nq1, nq2, nq3, nq4, iq0, iq1, iq2, iq3, iq4, iq5, iq6, iq7, iq8, q0, q5, q10, q11, q12, g1, g2, d1]))); repeat ((first | (refine cl_drawi 7 D80_7 (List.range 15) (by decide) (by kernel_rfl) ?_; unfold D80_7) | (refine cl_drawi 9 D80_9 (List.range 12) (by decide) (by kernel_rfl) ?_; unfold D80_9)); simp only [S, TY, reduceCtorEq, nq0, nq1, nq2, nq3, nq4, iq0, iq1, iq2, iq3, iq4, iq5, iq6, iq7, iq8, q0, q5, q10, q11, q12, g1, g2, d1]; (try (simp (disch := omega) only [W2, Int.cast_ofNat_Int]; (try simp only [S, TY, reduceCtorEq, nq0, nq1, nq2, nq3, nq4, iq0, iq1, iq2, iq3, iq4, iq5, iq6, iq7, iq8, q0, q5, q10, q11, q12, g1, g2, d1])))))
    intro k7 hk7 hg7
    have h1 := h.new hk7 hg7 (.cells (il 0 0 (.slice none 0 0)).toArray 152 (0, 0))
    ((try simp only [S, TY, reduceCtorEq, nq0, nq1, nq2, nq3, nq4, iq0, iq1, iq2, iq3, iq4, iq5, iq6, iq7, iq8, q0, q5, q10, q11, q12]); (try (simp (disch := omega) only [W2, Int.cast_ofNat_Int]; (try simp only [S, TY, reduceCtorEq, nq0, nq1, nq2, nq3, nq4, iq0, iq1, iq2, iq3, iq4, iq5, iq6, iq7, iq8, q0, q5, q10, q11, q12]))); repeat ((first | (refine cl_drawi 7 D80_7 (List.range 15) (by decide) (by kernel_rfl) ?_; unfold D80_7) | (refine cl_drawi 9 D80_9 (List.range 12) (by decide) (by kernel_rfl) ?_; unfold D80_9)); simp only [S, TY, reduceCtorEq, nq0, nq1, nq2, nq3, nq4, iq0, iq1, iq2, iq3, iq4, iq5, iq6, iq7, iq8, q0, q5, q10, q11, q12]; (try (simp (disch := omega) only [W2, Int.cast_ofNat_Int]; (try simp only [S, TY, reduceCtorEq, nq0, nq1, nq2, nq3, nq4, iq0, iq1, iq2, iq3, iq4, iq5, iq6, iq7, iq8, q0, q5, q10, q11, q12])))))
    refine sg.st h1 rfl rfl fun H2 h2 => ?_
    simp only [front_eq, fronts_nil, fronts_cons, List.getElem?_cons_zero, List.getElem?_cons_succ, List.eraseIdx_cons_zero, List.eraseIdx_cons_succ, List.cons_append, List.nil_append, putL_cons, putL_nil, List.set_cons_zero, List.set_cons_succ, Nat.reduceAdd] at h2
    obtain ⟨ma, mc, zl, hz, hl, hc, h3⟩ := nN_open (h2.front 1)
    simp only [front_eq, fronts_nil, fronts_cons, List.getElem?_cons_zero, List.getElem?_cons_succ, List.eraseIdx_cons_zero, List.eraseIdx_cons_succ, List.cons_append, List.nil_append, putL_cons, putL_nil, List.set_cons_zero, List.set_cons_succ, Nat.reduceAdd] at h3
    have c3 := h3.c0
    have w3 := h3.li 3 rfl
    ((try simp only [S, TY, reduceCtorEq, nq0, nq1, nq2, nq3, nq4, iq0, iq1, iq2, iq3, iq4, iq5, iq6, iq7, iq8, q0, q5, q10, q11, q12, c3, w3]); (try (simp (disch := omega) only [W2, Int.cast_ofNat_Int]; (try simp only [S, TY, reduceCtorEq, nq0, nq1, nq2, nq3, nq4, iq0, iq1, iq2, iq3, iq4, iq5, iq6, iq7, iq8, q0, q5, q10, q11, q12, c3, w3]))); repeat ((first | (refine cl_drawi 7 D80_7 (List.range 15) (by decide) (by kernel_rfl) ?_; unfold D80_7) | (refine cl_drawi 9 D80_9 (List.range 12) (by decide) (by kernel_rfl) ?_; unfold D80_9)); simp only [S, TY, reduceCtorEq, nq0, nq1, nq2, nq3, nq4, iq0, iq1, iq2, iq3, iq4, iq5, iq6, iq7, iq8, q0, q5, q10, q11, q12, c3, w3]; (try (simp (disch := omega) only [W2, Int.cast_ofNat_Int]; (try simp only [S, TY, reduceCtorEq, nq0, nq1, nq2, nq3, nq4, iq0, iq1, iq2, iq3, iq4, iq5, iq6, iq7, iq8, q0, q5, q10, q11, q12, c3, w3])))))
    refine (right_ok ⟨xk, xc, xb⟩ hu0).at_ h3 [] _ rfl fun r B H5 hr h5 => ?_
    obtain ⟨rfl, rfl⟩ := hr
    simp only [front_eq, fronts_nil, fronts_cons, List.getElem?_cons_zero, List.getElem?_cons_succ, List.eraseIdx_cons_zero, List.eraseIdx_cons_succ, List.cons_append, List.nil_append, putL_cons, putL_nil, List.set_cons_zero, List.set_cons_succ, Nat.reduceAdd] at h5
    have c5 := h5.c0
    have w5 := h5.li 3 rfl
    by_cases g4 : It.ok ⟨xk, xc, xb⟩ = true
    · by_cases g5 : m.room ≤ (zl.length : Int)
      · ((try simp only [S, TY, reduceCtorEq, nq0, nq1, nq2, nq3, nq4, iq0, iq1, iq2, iq3, iq4, iq5, iq6, iq7, iq8, q0, q5, q10, q11, q12, c3, w3, c5, w5, g4, g5]); (try (simp (disch := omega) only [W2, Int.cast_ofNat_Int]; (try simp only [S, TY, reduceCtorEq, nq0, nq1, nq2, nq3, nq4, iq0, iq1, iq2, iq3, iq4, iq5, iq6, iq7, iq8, q0, q5, q10, q11, q12, c3, w3, c5, w5, g4, g5]))); repeat ((first | (refine cl_drawi 7 D80_7 (List.range 15) (by decide) (by kernel_rfl) ?_; unfold D80_7) | (refine cl_drawi 9 D80_9 (List.range 12) (by decide) (by kernel_rfl) ?_; unfold D80_9)); simp only [S, TY, reduceCtorEq, nq0, nq1, nq2, nq3, nq4, iq0, iq1, iq2, iq3, iq4, iq5, iq6, iq7, iq8, q0, q5, q10, q11, q12, c3, w3, c5, w5, g4, g5]; (try (simp (disch := omega) only [W2, Int.cast_ofNat_Int]; (try simp only [S, TY, reduceCtorEq, nq0, nq1, nq2, nq3, nq4, iq0, iq1, iq2, iq3, iq4, iq5, iq6, iq7, iq8, q0, q5, q10, q11, q12, c3, w3, c5, w5, g4, g5])))))
        refine (aAdd_ok (by omega)).at_ h5 [0] _ rfl fun r B H6 hr h6 => ?_
        subst hr
        simp only [front_eq, fronts_nil, fronts_cons, List.getElem?_cons_zero, List.getElem?_cons_succ, List.eraseIdx_cons_zero, List.eraseIdx_cons_succ, List.cons_append, List.nil_append, putL_cons, putL_nil, List.set_cons_zero, List.set_cons_succ, Nat.reduceAdd] at h6
        ((try simp only [S, TY, reduceCtorEq, nq0, nq1, nq2, nq3, nq4, iq0, iq1, iq2, iq3, iq4, iq5, iq6, iq7, iq8, q0, q5, q10, q11, q12]); (try (simp (disch := omega) only [W2, Int.cast_ofNat_Int]; (try simp only [S, TY, reduceCtorEq, nq0, nq1, nq2, nq3, nq4, iq0, iq1, iq2, iq3, iq4, iq5, iq6, iq7, iq8, q0, q5, q10, q11, q12]))); repeat ((first | (refine cl_drawi 7 D80_7 (List.range 15) (by decide) (by kernel_rfl) ?_; unfold D80_7) | (refine cl_drawi 9 D80_9 (List.range 12) (by decide) (by kernel_rfl) ?_; unfold D80_9)); simp only [S, TY, reduceCtorEq, nq0, nq1, nq2, nq3, nq4, iq0, iq1, iq2, iq3, iq4, iq5, iq6, iq7, iq8, q0, q5, q10, q11, q12]; (try (simp (disch := omega) only [W2, Int.cast_ofNat_Int]; (try simp only [S, TY, reduceCtorEq, nq0, nq1, nq2, nq3, nq4, iq0, iq1, iq2, iq3, iq4, iq5, iq6, iq7, iq8, q0, q5, q10, q11, q12])))))
        have hp : (n.puts ((yl.take (i + 1)).map (·.1))) = (⟨m.l, m.room, m.lost + 1⟩, came) := by
          rw [hs, puts_snoc, hm]
          unfold pstep Nt.put1
          simp only
          rw [if_neg (by rw [hl]; omega)]
          rfl
        have h7 := nN_shut ⟨m.l, m.room, m.lost + 1⟩ hz (h6.fronts [0, 0, 0])
        refine .go (i + 1) (by omega) ⟨by omega, q0, q10, q11, rfl, _, _, hp, q5, ⟨h7.1, seps_take (B := [_]) h7.2⟩⟩
      · have hxb : xb.length ≤ 2000 := by
          unfold It.ok at g4
          simp only [decide_eq_true_eq] at g4
          exact g4.2.2
        ((try simp only [S, TY, reduceCtorEq, nq0, nq1, nq2, nq3, nq4, iq0, iq1, iq2, iq3, iq4, iq5, iq6, iq7, iq8, q0, q5, q10, q11, q12, c3, w3, c5, w5, g4, g5]); (try (simp (disch := omega) only [W2, Int.cast_ofNat_Int]; (try simp only [S, TY, reduceCtorEq, nq0, nq1, nq2, nq3, nq4, iq0, iq1, iq2, iq3, iq4, iq5, iq6, iq7, iq8, q0, q5, q10, q11, q12, c3, w3, c5, w5, g4, g5]))); repeat ((first | (refine cl_drawi 7 D80_7 (List.range 15) (by decide) (by kernel_rfl) ?_; unfold D80_7) | (refine cl_drawi 9 D80_9 (List.range 12) (by decide) (by kernel_rfl) ?_; unfold D80_9)); simp only [S, TY, reduceCtorEq, nq0, nq1, nq2, nq3, nq4, iq0, iq1, iq2, iq3, iq4, iq5, iq6, iq7, iq8, q0, q5, q10, q11, q12, c3, w3, c5, w5, g4, g5]; (try (simp (disch := omega) only [W2, Int.cast_ofNat_Int]; (try simp only [S, TY, reduceCtorEq, nq0, nq1, nq2, nq3, nq4, iq0, iq1, iq2, iq3, iq4, iq5, iq6, iq7, iq8, q0, q5, q10, q11, q12, c3, w3, c5, w5, g4, g5])))))
        refine (own_ok ⟨xk, xc, xb⟩ hu0 (by show xb.length ≤ _; omega)).at_ h5 [] _ rfl fun r B H6 hr h6 => ?_
        obtain ⟨v, rfl, rfl⟩ := hr
        obtain ⟨va, vn, vc, rfl, _, _⟩ := h6.sl 0 rfl Rd_own
        simp only [front_eq, fronts_nil, fronts_cons, List.getElem?_cons_zero, List.getElem?_cons_succ, List.eraseIdx_cons_zero, List.eraseIdx_cons_succ, List.cons_append, List.nil_append, putL_cons, putL_nil, List.set_cons_zero, List.set_cons_succ, Nat.reduceAdd] at h6
        have c6 := h6.ci 1 rfl
        have w6 := h6.li 4 rfl
        ((try simp only [S, TY, reduceCtorEq, nq0, nq1, nq2, nq3, nq4, iq0, iq1, iq2, iq3, iq4, iq5, iq6, iq7, iq8, q0, q5, q10, q11, q12, c5, w5, c6, w6]); (try (simp (disch := omega) only [W2, Int.cast_ofNat_Int]; (try simp only [S, TY, reduceCtorEq, nq0, nq1, nq2, nq3, nq4, iq0, iq1, iq2, iq3, iq4, iq5, iq6, iq7, iq8, q0, q5, q10, q11, q12, c5, w5, c6, w6]))); repeat ((first | (refine cl_drawi 7 D80_7 (List.range 15) (by decide) (by kernel_rfl) ?_; unfold D80_7) | (refine cl_drawi 9 D80_9 (List.range 12) (by decide) (by kernel_rfl) ?_; unfold D80_9)); simp only [S, TY, reduceCtorEq, nq0, nq1, nq2, nq3, nq4, iq0, iq1, iq2, iq3, iq4, iq5, iq6, iq7, iq8, q0, q5, q10, q11, q12, c5, w5, c6, w6]; (try (simp (disch := omega) only [W2, Int.cast_ofNat_Int]; (try simp only [S, TY, reduceCtorEq, nq0, nq1, nq2, nq3, nq4, iq0, iq1, iq2, iq3, iq4, iq5, iq6, iq7, iq8, q0, q5, q10, q11, q12, c5, w5, c6, w6])))))
        intro k8 hk8 hg8
        have h7 := h6.newsl (e := 152) (sz := 3) (n := 1) (xs := il xk xc (.slice va vn vc)) hk8 hg8 rfl
        have c7 := h7.ci 2 rfl
        have w7 := h7.li 5 rfl
        ((try simp only [S, TY, reduceCtorEq, nq0, nq1, nq2, nq3, nq4, iq0, iq1, iq2, iq3, iq4, iq5, iq6, iq7, iq8, q0, q5, q10, q11, q12, c7, w7]); (try (simp (disch := omega) only [W2, Int.cast_ofNat_Int]; (try simp only [S, TY, reduceCtorEq, nq0, nq1, nq2, nq3, nq4, iq0, iq1, iq2, iq3, iq4, iq5, iq6, iq7, iq8, q0, q5, q10, q11, q12, c7, w7]))); repeat ((first | (refine cl_drawi 7 D80_7 (List.range 15) (by decide) (by kernel_rfl) ?_; unfold D80_7) | (refine cl_drawi 9 D80_9 (List.range 12) (by decide) (by kernel_rfl) ?_; unfold D80_9)); simp only [S, TY, reduceCtorEq, nq0, nq1, nq2, nq3, nq4, iq0, iq1, iq2, iq3, iq4, iq5, iq6, iq7, iq8, q0, q5, q10, q11, q12, c7, w7]; (try (simp (disch := omega) only [W2, Int.cast_ofNat_Int]; (try simp only [S, TY, reduceCtorEq, nq0, nq1, nq2, nq3, nq4, iq0, iq1, iq2, iq3, iq4, iq5, iq6, iq7, iq8, q0, q5, q10, q11, q12, c7, w7])))))
        refine append_sl (show apI Try.prog 148 = some (152, 3, 40) from by kernel_rfl) (show slIs Try.prog 148 = true from by kernel_rfl) (h7.front 3) (h7.rdsi 0 rfl Rd_own) (il_one rfl) (by rw [flat_len ic_len]; simp; omega) fun w H8 h8 => ?_
        simp only [front_eq, fronts_nil, fronts_cons, List.getElem?_cons_zero, List.getElem?_cons_succ, List.eraseIdx_cons_zero, List.eraseIdx_cons_succ, List.cons_append, List.nil_append, putL_cons, putL_nil, List.set_cons_zero, List.set_cons_succ, Nat.reduceAdd] at h8
        obtain ⟨wa', wn, wc', rfl, _, _⟩ := h8.sl 0 rfl Rd_own
        ((try simp only [S, TY, reduceCtorEq, nq0, nq1, nq2, nq3, nq4, iq0, iq1, iq2, iq3, iq4, iq5, iq6, iq7, iq8, q0, q5, q10, q11, q12]); (try (simp (disch := omega) only [W2, Int.cast_ofNat_Int]; (try simp only [S, TY, reduceCtorEq, nq0, nq1, nq2, nq3, nq4, iq0, iq1, iq2, iq3, iq4, iq5, iq6, iq7, iq8, q0, q5, q10, q11, q12]))); repeat ((first | (refine cl_drawi 7 D80_7 (List.range 15) (by decide) (by kernel_rfl) ?_; unfold D80_7) | (refine cl_drawi 9 D80_9 (List.range 12) (by decide) (by kernel_rfl) ?_; unfold D80_9)); simp only [S, TY, reduceCtorEq, nq0, nq1, nq2, nq3, nq4, iq0, iq1, iq2, iq3, iq4, iq5, iq6, iq7, iq8, q0, q5, q10, q11, q12]; (try (simp (disch := omega) only [W2, Int.cast_ofNat_Int]; (try simp only [S, TY, reduceCtorEq, nq0, nq1, nq2, nq3, nq4, iq0, iq1, iq2, iq3, iq4, iq5, iq6, iq7, iq8, q0, q5, q10, q11, q12])))))
        refine sg.st (h8.front 3) rfl rfl fun H9 h9 => ?_
        simp only [front_eq, fronts_nil, fronts_cons, List.getElem?_cons_zero, List.getElem?_cons_succ, List.eraseIdx_cons_zero, List.eraseIdx_cons_succ, List.cons_append, List.nil_append, putL_cons, putL_nil, List.set_cons_zero, List.set_cons_succ, Nat.reduceAdd] at h9
        ((try simp only [S, TY, reduceCtorEq, nq0, nq1, nq2, nq3, nq4, iq0, iq1, iq2, iq3, iq4, iq5, iq6, iq7, iq8, q0, q5, q10, q11, q12]); (try (simp (disch := omega) only [W2, Int.cast_ofNat_Int]; (try simp only [S, TY, reduceCtorEq, nq0, nq1, nq2, nq3, nq4, iq0, iq1, iq2, iq3, iq4, iq5, iq6, iq7, iq8, q0, q5, q10, q11, q12]))); repeat ((first | (refine cl_drawi 7 D80_7 (List.range 15) (by decide) (by kernel_rfl) ?_; unfold D80_7) | (refine cl_drawi 9 D80_9 (List.range 12) (by decide) (by kernel_rfl) ?_; unfold D80_9)); simp only [S, TY, reduceCtorEq, nq0, nq1, nq2, nq3, nq4, iq0, iq1, iq2, iq3, iq4, iq5, iq6, iq7, iq8, q0, q5, q10, q11, q12]; (try (simp (disch := omega) only [W2, Int.cast_ofNat_Int]; (try simp only [S, TY, reduceCtorEq, nq0, nq1, nq2, nq3, nq4, iq0, iq1, iq2, iq3, iq4, iq5, iq6, iq7, iq8, q0, q5, q10, q11, q12])))))
        have hp : (n.puts ((yl.take (i + 1)).map (·.1))) = (⟨m.l ++ [⟨xk, xc, xb⟩], m.room, m.lost⟩, came + 1) := by
          rw [hs, puts_snoc, hm]
          unfold pstep Nt.put1
          simp only
          rw [if_pos ⟨g4, by rw [hl]; omega⟩]
          rfl
        have h10 := ((h9.fronts [3, 3]).blob_push).fronts [1, 1, 0]
        simp only [front_eq, fronts_nil, fronts_cons, List.getElem?_cons_zero, List.getElem?_cons_succ, List.eraseIdx_cons_zero, List.eraseIdx_cons_succ, List.cons_append, List.nil_append, putL_cons, putL_nil, List.set_cons_zero, List.set_cons_succ, Nat.reduceAdd] at h10
        have ez : zl.flatMap ic ++ il xk xc (.slice va vn vc) = (zl ++ [((⟨xk, xc, xb⟩ : It), Value.slice va vn vc)]).flatMap ic := by simp
        have ez2 : zl.map (·.2) ++ [.slice va vn vc] = (zl ++ [((⟨xk, xc, xb⟩ : It), Value.slice va vn vc)]).map (·.2) := by simp
        have ez3 : zl.map (·.1.b) ++ [xb] = (zl ++ [((⟨xk, xc, xb⟩ : It), Value.slice va vn vc)]).map (·.1.b) := by simp
        rw [ez, ez2, ez3] at h10
        have h11 := nN_shut ⟨m.l ++ [⟨xk, xc, xb⟩], m.room, m.lost⟩ (by rw [List.map_append, hz]; rfl) h10
        refine .go (i + 1) (by omega) ⟨by omega, q0, q10, q11, rfl, _, _, hp, rfl, ⟨h11.1, seps_take (B := [_]) h11.2⟩⟩
    · ((try simp only [S, TY, reduceCtorEq, nq0, nq1, nq2, nq3, nq4, iq0, iq1, iq2, iq3, iq4, iq5, iq6, iq7, iq8, q0, q5, q10, q11, q12, c3, w3, c5, w5, g4]); (try (simp (disch := omega) only [W2, Int.cast_ofNat_Int]; (try simp only [S, TY, reduceCtorEq, nq0, nq1, nq2, nq3, nq4, iq0, iq1, iq2, iq3, iq4, iq5, iq6, iq7, iq8, q0, q5, q10, q11, q12, c3, w3, c5, w5, g4]))); repeat ((first | (refine cl_drawi 7 D80_7 (List.range 15) (by decide) (by kernel_rfl) ?_; unfold D80_7) | (refine cl_drawi 9 D80_9 (List.range 12) (by decide) (by kernel_rfl) ?_; unfold D80_9)); simp only [S, TY, reduceCtorEq, nq0, nq1, nq2, nq3, nq4, iq0, iq1, iq2, iq3, iq4, iq5, iq6, iq7, iq8, q0, q5, q10, q11, q12, c3, w3, c5, w5, g4]; (try (simp (disch := omega) only [W2, Int.cast_ofNat_Int]; (try simp only [S, TY, reduceCtorEq, nq0, nq1, nq2, nq3, nq4, iq0, iq1, iq2, iq3, iq4, iq5, iq6, iq7, iq8, q0, q5, q10, q11, q12, c3, w3, c5, w5, g4])))))
      refine (aAdd_ok (by omega)).at_ h5 [0] _ rfl fun r B H6 hr h6 => ?_
      subst hr
      simp only [front_eq, fronts_nil, fronts_cons, List.getElem?_cons_zero, List.getElem?_cons_succ, List.eraseIdx_cons_zero, List.eraseIdx_cons_succ, List.cons_append, List.nil_append, putL_cons, putL_nil, List.set_cons_zero, List.set_cons_succ, Nat.reduceAdd] at h6
      ((try simp only [S, TY, reduceCtorEq, nq0, nq1, nq2, nq3, nq4, iq0, iq1, iq2, iq3, iq4, iq5, iq6, iq7, iq8, q0, q5, q10, q11, q12]); (try (simp (disch := omega) only [W2, Int.cast_ofNat_Int]; (try simp only [S, TY, reduceCtorEq, nq0, nq1, nq2, nq3, nq4, iq0, iq1, iq2, iq3, iq4, iq5, iq6, iq7, iq8, q0, q5, q10, q11, q12]))); repeat ((first | (refine cl_drawi 7 D80_7 (List.range 15) (by decide) (by kernel_rfl) ?_; unfold D80_7) | (refine cl_drawi 9 D80_9 (List.range 12) (by decide) (by kernel_rfl) ?_; unfold D80_9)); simp only [S, TY, reduceCtorEq, nq0, nq1, nq2, nq3, nq4, iq0, iq1, iq2, iq3, iq4, iq5, iq6, iq7, iq8, q0, q5, q10, q11, q12]; (try (simp (disch := omega) only [W2, Int.cast_ofNat_Int]; (try simp only [S, TY, reduceCtorEq, nq0, nq1, nq2, nq3, nq4, iq0, iq1, iq2, iq3, iq4, iq5, iq6, iq7, iq8, q0, q5, q10, q11, q12])))))
      have hp : (n.puts ((yl.take (i + 1)).map (·.1))) = (⟨m.l, m.room, m.lost + 1⟩, came) := by
        rw [hs, puts_snoc, hm]
        unfold pstep Nt.put1
        simp only
        rw [if_neg (fun z => g4 z.1)]
        rfl
      have h7 := nN_shut ⟨m.l, m.room, m.lost + 1⟩ hz (h6.fronts [0, 0, 0])
      refine .go (i + 1) (by omega) ⟨by omega, q0, q10, q11, rfl, _, _, hp, q5, ⟨h7.1, seps_take (B := [_]) h7.2⟩⟩
  · obtain rfl : i = yl.length := by omega
    rw [List.take_length] at hm
    rw [hm]
    ((try simp only [S, TY, reduceCtorEq, nq0, nq1, nq2, nq3, nq4, iq0, iq1, iq2, iq3, iq4, iq5, iq6, iq7, iq8, q0, q5, q10, q11, q12, g1]); (try (simp (disch := omega) only [W2, Int.cast_ofNat_Int]; (try simp only [S, TY, reduceCtorEq, nq0, nq1, nq2, nq3, nq4, iq0, iq1, iq2, iq3, iq4, iq5, iq6, iq7, iq8, q0, q5, q10, q11, q12, g1]))); repeat ((first | (refine cl_drawi 7 D80_7 (List.range 15) (by decide) (by kernel_rfl) ?_; unfold D80_7) | (refine cl_drawi 9 D80_9 (List.range 12) (by decide) (by kernel_rfl) ?_; unfold D80_9)); simp only [S, TY, reduceCtorEq, nq0, nq1, nq2, nq3, nq4, iq0, iq1, iq2, iq3, iq4, iq5, iq6, iq7, iq8, q0, q5, q10, q11, q12, g1]; (try (simp (disch := omega) only [W2, Int.cast_ofNat_Int]; (try simp only [S, TY, reduceCtorEq, nq0, nq1, nq2, nq3, nq4, iq0, iq1, iq2, iq3, iq4, iq5, iq6, iq7, iq8, q0, q5, q10, q11, q12, g1])))))
    exact fin_take (B := [_]) h ⟨rfl, rfl⟩
theorem Double_ok {G : Hp} {p : Nat} {n : Nt} {N : Int} (hw : n.wf N) (i : Int) : Con Try.prog G 78 [.pointer (some ⟨p, 0, none⟩), .int .i64 i] [nN p n] (fun r B => r = .int .i64 (n.dbl i).2 ∧ B = [nN p (n.dbl i).1]) := by
  obtain ⟨res, hres⟩ : ∃ r, n.dbl i = r := ⟨_, rfl⟩
  rw [hres]
  unfold Nt.dbl at hres
  have hlr := hw.r
  have hll := hw.l
  refine Con.intro Try.func78 rfl (Nat.le_of_ble_eq_true (by kernel_rfl)) (by kernel_rfl) Try.results78 ?_
  intro H h
  ((try simp only [S, TY, reduceCtorEq, nq0, nq1, nq2, nq3, nq4, iq0, iq1, iq2, iq3, iq4, iq5, iq6, iq7, iq8]); (try (simp (disch := omega) only [W2, Int.cast_ofNat_Int]; (try simp only [S, TY, reduceCtorEq, nq0, nq1, nq2, nq3, nq4, iq0, iq1, iq2, iq3, iq4, iq5, iq6, iq7, iq8]))); repeat ((first | (refine cl_drawi 4 D78_4 (List.range 11) (by decide) (by kernel_rfl) ?_; unfold D78_4) | (refine cl_drawi 6 D78_6 (List.range 11) (by decide) (by kernel_rfl) ?_; unfold D78_6)); simp only [S, TY, reduceCtorEq, nq0, nq1, nq2, nq3, nq4, iq0, iq1, iq2, iq3, iq4, iq5, iq6, iq7, iq8]; (try (simp (disch := omega) only [W2, Int.cast_ofNat_Int]; (try simp only [S, TY, reduceCtorEq, nq0, nq1, nq2, nq3, nq4, iq0, iq1, iq2, iq3, iq4, iq5, iq6, iq7, iq8])))))
  refine (At_ok hw i).at_ h [0] _ rfl fun r B H1 hr h1 => ?_
  unfold AtR at hr
  by_cases g1 : n.has i
  · rw [if_pos g1] at hr hres
    obtain ⟨u, rfl, rfl⟩ := hr
    obtain ⟨ua, un, uc, rfl, _, _⟩ := h1.sl 0 rfl Rd_own
    obtain ⟨x, hx⟩ : ∃ x, n.l.getD i.toNat ⟨0, 0, []⟩ = x := ⟨_, rfl⟩
    rw [hx] at h1 hres ⊢
    obtain ⟨xk, xc, xb⟩ := x
    simp only [front_eq, fronts_nil, fronts_cons, List.getElem?_cons_zero, List.getElem?_cons_succ, List.eraseIdx_cons_zero, List.eraseIdx_cons_succ, List.cons_append, List.nil_append, putL_cons, putL_nil, List.set_cons_zero, List.set_cons_succ, Nat.reduceAdd] at h1
    ((try simp only [S, TY, reduceCtorEq, nq0, nq1, nq2, nq3, nq4, iq0, iq1, iq2, iq3, iq4, iq5, iq6, iq7, iq8]); (try (simp (disch := omega) only [W2, Int.cast_ofNat_Int]; (try simp only [S, TY, reduceCtorEq, nq0, nq1, nq2, nq3, nq4, iq0, iq1, iq2, iq3, iq4, iq5, iq6, iq7, iq8]))); repeat ((first | (refine cl_drawi 4 D78_4 (List.range 11) (by decide) (by kernel_rfl) ?_; unfold D78_4) | (refine cl_drawi 6 D78_6 (List.range 11) (by decide) (by kernel_rfl) ?_; unfold D78_6)); simp only [S, TY, reduceCtorEq, nq0, nq1, nq2, nq3, nq4, iq0, iq1, iq2, iq3, iq4, iq5, iq6, iq7, iq8]; (try (simp (disch := omega) only [W2, Int.cast_ofNat_Int]; (try simp only [S, TY, reduceCtorEq, nq0, nq1, nq2, nq3, nq4, iq0, iq1, iq2, iq3, iq4, iq5, iq6, iq7, iq8])))))
    intro q hq hg
    have h2 := h1.new hq hg (.cells (il 0 0 (.slice none 0 0)).toArray 152 (0, 0))
    ((try simp only [S, TY, reduceCtorEq, nq0, nq1, nq2, nq3, nq4, iq0, iq1, iq2, iq3, iq4, iq5, iq6, iq7, iq8]); (try (simp (disch := omega) only [W2, Int.cast_ofNat_Int]; (try simp only [S, TY, reduceCtorEq, nq0, nq1, nq2, nq3, nq4, iq0, iq1, iq2, iq3, iq4, iq5, iq6, iq7, iq8]))); repeat ((first | (refine cl_drawi 4 D78_4 (List.range 11) (by decide) (by kernel_rfl) ?_; unfold D78_4) | (refine cl_drawi 6 D78_6 (List.range 11) (by decide) (by kernel_rfl) ?_; unfold D78_6)); simp only [S, TY, reduceCtorEq, nq0, nq1, nq2, nq3, nq4, iq0, iq1, iq2, iq3, iq4, iq5, iq6, iq7, iq8]; (try (simp (disch := omega) only [W2, Int.cast_ofNat_Int]; (try simp only [S, TY, reduceCtorEq, nq0, nq1, nq2, nq3, nq4, iq0, iq1, iq2, iq3, iq4, iq5, iq6, iq7, iq8])))))
    refine sg.st h2 rfl rfl fun H3 h3 => ?_
    simp only [front_eq, fronts_nil, fronts_cons, List.getElem?_cons_zero, List.getElem?_cons_succ, List.eraseIdx_cons_zero, List.eraseIdx_cons_succ, List.cons_append, List.nil_append, putL_cons, putL_nil, List.set_cons_zero, List.set_cons_succ, Nat.reduceAdd] at h3
    obtain ⟨ma, mc, zl, hz, hl, hc, h4⟩ := nN_open (h3.front 2)
    simp only [front_eq, fronts_nil, fronts_cons, List.getElem?_cons_zero, List.getElem?_cons_succ, List.eraseIdx_cons_zero, List.eraseIdx_cons_succ, List.cons_append, List.nil_append, putL_cons, putL_nil, List.set_cons_zero, List.set_cons_succ, Nat.reduceAdd] at h4
    have c4 := h4.c0
    have w4 := h4.li 3 rfl
    by_cases g2 : n.room ≤ (zl.length : Int)
    · rw [if_pos (by rw [hl]; exact g2)] at hres
      subst hres
      ((try simp only [S, TY, reduceCtorEq, nq0, nq1, nq2, nq3, nq4, iq0, iq1, iq2, iq3, iq4, iq5, iq6, iq7, iq8, c4, w4, g2]); (try (simp (disch := omega) only [W2, Int.cast_ofNat_Int]; (try simp only [S, TY, reduceCtorEq, nq0, nq1, nq2, nq3, nq4, iq0, iq1, iq2, iq3, iq4, iq5, iq6, iq7, iq8, c4, w4, g2]))); repeat ((first | (refine cl_drawi 4 D78_4 (List.range 11) (by decide) (by kernel_rfl) ?_; unfold D78_4) | (refine cl_drawi 6 D78_6 (List.range 11) (by decide) (by kernel_rfl) ?_; unfold D78_6)); simp only [S, TY, reduceCtorEq, nq0, nq1, nq2, nq3, nq4, iq0, iq1, iq2, iq3, iq4, iq5, iq6, iq7, iq8, c4, w4, g2]; (try (simp (disch := omega) only [W2, Int.cast_ofNat_Int]; (try simp only [S, TY, reduceCtorEq, nq0, nq1, nq2, nq3, nq4, iq0, iq1, iq2, iq3, iq4, iq5, iq6, iq7, iq8, c4, w4, g2])))))
      exact fin_take (B := [_]) (nN_shut n hz h4) ⟨rfl, rfl⟩
    · rw [if_neg (by rw [hl]; exact g2)] at hres
      subst hres
      ((try simp only [S, TY, reduceCtorEq, nq0, nq1, nq2, nq3, nq4, iq0, iq1, iq2, iq3, iq4, iq5, iq6, iq7, iq8, c4, w4, g2]); (try (simp (disch := omega) only [W2, Int.cast_ofNat_Int]; (try simp only [S, TY, reduceCtorEq, nq0, nq1, nq2, nq3, nq4, iq0, iq1, iq2, iq3, iq4, iq5, iq6, iq7, iq8, c4, w4, g2]))); repeat ((first | (refine cl_drawi 4 D78_4 (List.range 11) (by decide) (by kernel_rfl) ?_; unfold D78_4) | (refine cl_drawi 6 D78_6 (List.range 11) (by decide) (by kernel_rfl) ?_; unfold D78_6)); simp only [S, TY, reduceCtorEq, nq0, nq1, nq2, nq3, nq4, iq0, iq1, iq2, iq3, iq4, iq5, iq6, iq7, iq8, c4, w4, g2]; (try (simp (disch := omega) only [W2, Int.cast_ofNat_Int]; (try simp only [S, TY, reduceCtorEq, nq0, nq1, nq2, nq3, nq4, iq0, iq1, iq2, iq3, iq4, iq5, iq6, iq7, iq8, c4, w4, g2])))))
      intro k8 hk8 hg8
      have h7 := h4.newsl (e := 152) (sz := 3) (n := 1) (xs := il xk xc (.slice ua un uc)) hk8 hg8 rfl
      have c7 := h7.ci 1 rfl
      have w7 := h7.li 4 rfl
      ((try simp only [S, TY, reduceCtorEq, nq0, nq1, nq2, nq3, nq4, iq0, iq1, iq2, iq3, iq4, iq5, iq6, iq7, iq8, c4, w4, c7, w7]); (try (simp (disch := omega) only [W2, Int.cast_ofNat_Int]; (try simp only [S, TY, reduceCtorEq, nq0, nq1, nq2, nq3, nq4, iq0, iq1, iq2, iq3, iq4, iq5, iq6, iq7, iq8, c4, w4, c7, w7]))); repeat ((first | (refine cl_drawi 4 D78_4 (List.range 11) (by decide) (by kernel_rfl) ?_; unfold D78_4) | (refine cl_drawi 6 D78_6 (List.range 11) (by decide) (by kernel_rfl) ?_; unfold D78_6)); simp only [S, TY, reduceCtorEq, nq0, nq1, nq2, nq3, nq4, iq0, iq1, iq2, iq3, iq4, iq5, iq6, iq7, iq8, c4, w4, c7, w7]; (try (simp (disch := omega) only [W2, Int.cast_ofNat_Int]; (try simp only [S, TY, reduceCtorEq, nq0, nq1, nq2, nq3, nq4, iq0, iq1, iq2, iq3, iq4, iq5, iq6, iq7, iq8, c4, w4, c7, w7])))))
      refine append_sl (show apI Try.prog 148 = some (152, 3, 40) from by kernel_rfl) (show slIs Try.prog 148 = true from by kernel_rfl) (h7.front 2) (h7.rdsi 0 rfl Rd_own) (il_one rfl) (by rw [flat_len ic_len]; simp; omega) fun w H8 h8 => ?_
      simp only [front_eq, fronts_nil, fronts_cons, List.getElem?_cons_zero, List.getElem?_cons_succ, List.eraseIdx_cons_zero, List.eraseIdx_cons_succ, List.cons_append, List.nil_append, putL_cons, putL_nil, List.set_cons_zero, List.set_cons_succ, Nat.reduceAdd] at h8
      obtain ⟨wa', wn, wc', rfl, _, _⟩ := h8.sl 0 rfl Rd_own
      ((try simp only [S, TY, reduceCtorEq, nq0, nq1, nq2, nq3, nq4, iq0, iq1, iq2, iq3, iq4, iq5, iq6, iq7, iq8]); (try (simp (disch := omega) only [W2, Int.cast_ofNat_Int]; (try simp only [S, TY, reduceCtorEq, nq0, nq1, nq2, nq3, nq4, iq0, iq1, iq2, iq3, iq4, iq5, iq6, iq7, iq8]))); repeat ((first | (refine cl_drawi 4 D78_4 (List.range 11) (by decide) (by kernel_rfl) ?_; unfold D78_4) | (refine cl_drawi 6 D78_6 (List.range 11) (by decide) (by kernel_rfl) ?_; unfold D78_6)); simp only [S, TY, reduceCtorEq, nq0, nq1, nq2, nq3, nq4, iq0, iq1, iq2, iq3, iq4, iq5, iq6, iq7, iq8]; (try (simp (disch := omega) only [W2, Int.cast_ofNat_Int]; (try simp only [S, TY, reduceCtorEq, nq0, nq1, nq2, nq3, nq4, iq0, iq1, iq2, iq3, iq4, iq5, iq6, iq7, iq8])))))
      refine sg.st (h8.front 2) rfl rfl fun H9 h9 => ?_
      simp only [front_eq, fronts_nil, fronts_cons, List.getElem?_cons_zero, List.getElem?_cons_succ, List.eraseIdx_cons_zero, List.eraseIdx_cons_succ, List.cons_append, List.nil_append, putL_cons, putL_nil, List.set_cons_zero, List.set_cons_succ, Nat.reduceAdd] at h9
      ((try simp only [S, TY, reduceCtorEq, nq0, nq1, nq2, nq3, nq4, iq0, iq1, iq2, iq3, iq4, iq5, iq6, iq7, iq8]); (try (simp (disch := omega) only [W2, Int.cast_ofNat_Int]; (try simp only [S, TY, reduceCtorEq, nq0, nq1, nq2, nq3, nq4, iq0, iq1, iq2, iq3, iq4, iq5, iq6, iq7, iq8]))); repeat ((first | (refine cl_drawi 4 D78_4 (List.range 11) (by decide) (by kernel_rfl) ?_; unfold D78_4) | (refine cl_drawi 6 D78_6 (List.range 11) (by decide) (by kernel_rfl) ?_; unfold D78_6)); simp only [S, TY, reduceCtorEq, nq0, nq1, nq2, nq3, nq4, iq0, iq1, iq2, iq3, iq4, iq5, iq6, iq7, iq8]; (try (simp (disch := omega) only [W2, Int.cast_ofNat_Int]; (try simp only [S, TY, reduceCtorEq, nq0, nq1, nq2, nq3, nq4, iq0, iq1, iq2, iq3, iq4, iq5, iq6, iq7, iq8])))))
      have h10 := ((h9.fronts [5, 3]).blob_push).fronts [1, 1, 0]
      simp only [front_eq, fronts_nil, fronts_cons, List.getElem?_cons_zero, List.getElem?_cons_succ, List.eraseIdx_cons_zero, List.eraseIdx_cons_succ, List.cons_append, List.nil_append, putL_cons, putL_nil, List.set_cons_zero, List.set_cons_succ, Nat.reduceAdd] at h10
      have ez : zl.flatMap ic ++ il xk xc (.slice ua un uc) = (zl ++ [((⟨xk, xc, xb⟩ : It), Value.slice ua un uc)]).flatMap ic := by simp
      have ez2 : zl.map (·.2) ++ [.slice ua un uc] = (zl ++ [((⟨xk, xc, xb⟩ : It), Value.slice ua un uc)]).map (·.2) := by simp
      have ez3 : zl.map (·.1.b) ++ [xb] = (zl ++ [((⟨xk, xc, xb⟩ : It), Value.slice ua un uc)]).map (·.1.b) := by simp
      rw [ez, ez2, ez3] at h10
      exact fin_take (B := [_]) (nN_shut ⟨n.l ++ [⟨xk, xc, xb⟩], n.room, n.lost⟩ (by rw [List.map_append, hz]; rfl) h10) ⟨rfl, rfl⟩
  · rw [if_neg g1] at hr hres
    obtain ⟨rfl, rfl⟩ := hr
    subst hres
    ((try simp only [S, TY, reduceCtorEq, nq0, nq1, nq2, nq3, nq4, iq0, iq1, iq2, iq3, iq4, iq5, iq6, iq7, iq8]); (try (simp (disch := omega) only [W2, Int.cast_ofNat_Int]; (try simp only [S, TY, reduceCtorEq, nq0, nq1, nq2, nq3, nq4, iq0, iq1, iq2, iq3, iq4, iq5, iq6, iq7, iq8]))); repeat ((first | (refine cl_drawi 4 D78_4 (List.range 11) (by decide) (by kernel_rfl) ?_; unfold D78_4) | (refine cl_drawi 6 D78_6 (List.range 11) (by decide) (by kernel_rfl) ?_; unfold D78_6)); simp only [S, TY, reduceCtorEq, nq0, nq1, nq2, nq3, nq4, iq0, iq1, iq2, iq3, iq4, iq5, iq6, iq7, iq8]; (try (simp (disch := omega) only [W2, Int.cast_ofNat_Int]; (try simp only [S, TY, reduceCtorEq, nq0, nq1, nq2, nq3, nq4, iq0, iq1, iq2, iq3, iq4, iq5, iq6, iq7, iq8])))))
    intro q hq hg
    have h2 := h1.new hq hg (.cells (il 0 0 (.slice none 0 0)).toArray 152 (0, 0))
    ((try simp only [S, TY, reduceCtorEq, nq0, nq1, nq2, nq3, nq4, iq0, iq1, iq2, iq3, iq4, iq5, iq6, iq7, iq8]); (try (simp (disch := omega) only [W2, Int.cast_ofNat_Int]; (try simp only [S, TY, reduceCtorEq, nq0, nq1, nq2, nq3, nq4, iq0, iq1, iq2, iq3, iq4, iq5, iq6, iq7, iq8]))); repeat ((first | (refine cl_drawi 4 D78_4 (List.range 11) (by decide) (by kernel_rfl) ?_; unfold D78_4) | (refine cl_drawi 6 D78_6 (List.range 11) (by decide) (by kernel_rfl) ?_; unfold D78_6)); simp only [S, TY, reduceCtorEq, nq0, nq1, nq2, nq3, nq4, iq0, iq1, iq2, iq3, iq4, iq5, iq6, iq7, iq8]; (try (simp (disch := omega) only [W2, Int.cast_ofNat_Int]; (try simp only [S, TY, reduceCtorEq, nq0, nq1, nq2, nq3, nq4, iq0, iq1, iq2, iq3, iq4, iq5, iq6, iq7, iq8])))))
    refine sg.st h2 rfl rfl fun H3 h3 => ?_
    simp only [front_eq, fronts_nil, fronts_cons, List.getElem?_cons_zero, List.getElem?_cons_succ, List.eraseIdx_cons_zero, List.eraseIdx_cons_succ, List.cons_append, List.nil_append, putL_cons, putL_nil, List.set_cons_zero, List.set_cons_succ, Nat.reduceAdd] at h3
    ((try simp only [S, TY, reduceCtorEq, nq0, nq1, nq2, nq3, nq4, iq0, iq1, iq2, iq3, iq4, iq5, iq6, iq7, iq8]); (try (simp (disch := omega) only [W2, Int.cast_ofNat_Int]; (try simp only [S, TY, reduceCtorEq, nq0, nq1, nq2, nq3, nq4, iq0, iq1, iq2, iq3, iq4, iq5, iq6, iq7, iq8]))); repeat ((first | (refine cl_drawi 4 D78_4 (List.range 11) (by decide) (by kernel_rfl) ?_; unfold D78_4) | (refine cl_drawi 6 D78_6 (List.range 11) (by decide) (by kernel_rfl) ?_; unfold D78_6)); simp only [S, TY, reduceCtorEq, nq0, nq1, nq2, nq3, nq4, iq0, iq1, iq2, iq3, iq4, iq5, iq6, iq7, iq8]; (try (simp (disch := omega) only [W2, Int.cast_ofNat_Int]; (try simp only [S, TY, reduceCtorEq, nq0, nq1, nq2, nq3, nq4, iq0, iq1, iq2, iq3, iq4, iq5, iq6, iq7, iq8])))))
    exact fin_take (B := [_]) (show sg G [nN p n, _] _ from h3.front 1) ⟨rfl, rfl⟩
theorem Double_nil {G : Hp} (i : Int) : Con Try.prog G 78 [.pointer none, .int .i64 i] [] (fun r B => r = .int .i64 1 ∧ B = []) := by
  refine Con.intro Try.func78 rfl (Nat.le_of_ble_eq_true (by kernel_rfl)) (by kernel_rfl) Try.results78 ?_
  intro H h
  ((try simp only [S, TY, reduceCtorEq, nq0, nq1, nq2, nq3, nq4, iq0, iq1, iq2, iq3, iq4, iq5, iq6, iq7, iq8]); (try (simp (disch := omega) only [W2, Int.cast_ofNat_Int]; (try simp only [S, TY, reduceCtorEq, nq0, nq1, nq2, nq3, nq4, iq0, iq1, iq2, iq3, iq4, iq5, iq6, iq7, iq8]))); repeat ((first | (refine cl_drawi 4 D78_4 (List.range 11) (by decide) (by kernel_rfl) ?_; unfold D78_4) | (refine cl_drawi 6 D78_6 (List.range 11) (by decide) (by kernel_rfl) ?_; unfold D78_6)); simp only [S, TY, reduceCtorEq, nq0, nq1, nq2, nq3, nq4, iq0, iq1, iq2, iq3, iq4, iq5, iq6, iq7, iq8]; (try (simp (disch := omega) only [W2, Int.cast_ofNat_Int]; (try simp only [S, TY, reduceCtorEq, nq0, nq1, nq2, nq3, nq4, iq0, iq1, iq2, iq3, iq4, iq5, iq6, iq7, iq8])))))
  refine (At_nil i).at_ h [] _ rfl fun r B H1 hr h1 => ?_
  obtain ⟨rfl, rfl⟩ := hr
  ((try simp only [S, TY, reduceCtorEq, nq0, nq1, nq2, nq3, nq4, iq0, iq1, iq2, iq3, iq4, iq5, iq6, iq7, iq8]); (try (simp (disch := omega) only [W2, Int.cast_ofNat_Int]; (try simp only [S, TY, reduceCtorEq, nq0, nq1, nq2, nq3, nq4, iq0, iq1, iq2, iq3, iq4, iq5, iq6, iq7, iq8]))); repeat ((first | (refine cl_drawi 4 D78_4 (List.range 11) (by decide) (by kernel_rfl) ?_; unfold D78_4) | (refine cl_drawi 6 D78_6 (List.range 11) (by decide) (by kernel_rfl) ?_; unfold D78_6)); simp only [S, TY, reduceCtorEq, nq0, nq1, nq2, nq3, nq4, iq0, iq1, iq2, iq3, iq4, iq5, iq6, iq7, iq8]; (try (simp (disch := omega) only [W2, Int.cast_ofNat_Int]; (try simp only [S, TY, reduceCtorEq, nq0, nq1, nq2, nq3, nq4, iq0, iq1, iq2, iq3, iq4, iq5, iq6, iq7, iq8])))))
  intro q hq hg
  have h2 := h1.new hq hg (.cells (il 0 0 (.slice none 0 0)).toArray 152 (0, 0))
  ((try simp only [S, TY, reduceCtorEq, nq0, nq1, nq2, nq3, nq4, iq0, iq1, iq2, iq3, iq4, iq5, iq6, iq7, iq8]); (try (simp (disch := omega) only [W2, Int.cast_ofNat_Int]; (try simp only [S, TY, reduceCtorEq, nq0, nq1, nq2, nq3, nq4, iq0, iq1, iq2, iq3, iq4, iq5, iq6, iq7, iq8]))); repeat ((first | (refine cl_drawi 4 D78_4 (List.range 11) (by decide) (by kernel_rfl) ?_; unfold D78_4) | (refine cl_drawi 6 D78_6 (List.range 11) (by decide) (by kernel_rfl) ?_; unfold D78_6)); simp only [S, TY, reduceCtorEq, nq0, nq1, nq2, nq3, nq4, iq0, iq1, iq2, iq3, iq4, iq5, iq6, iq7, iq8]; (try (simp (disch := omega) only [W2, Int.cast_ofNat_Int]; (try simp only [S, TY, reduceCtorEq, nq0, nq1, nq2, nq3, nq4, iq0, iq1, iq2, iq3, iq4, iq5, iq6, iq7, iq8])))))
  refine sg.st h2 rfl rfl fun H3 h3 => ?_
  simp only [front_eq, fronts_nil, fronts_cons, List.getElem?_cons_zero, List.getElem?_cons_succ, List.eraseIdx_cons_zero, List.eraseIdx_cons_succ, List.cons_append, List.nil_append, putL_cons, putL_nil, List.set_cons_zero, List.set_cons_succ, Nat.reduceAdd] at h3
  ((try simp only [S, TY, reduceCtorEq, nq0, nq1, nq2, nq3, nq4, iq0, iq1, iq2, iq3, iq4, iq5, iq6, iq7, iq8]); (try (simp (disch := omega) only [W2, Int.cast_ofNat_Int]; (try simp only [S, TY, reduceCtorEq, nq0, nq1, nq2, nq3, nq4, iq0, iq1, iq2, iq3, iq4, iq5, iq6, iq7, iq8]))); repeat ((first | (refine cl_drawi 4 D78_4 (List.range 11) (by decide) (by kernel_rfl) ?_; unfold D78_4) | (refine cl_drawi 6 D78_6 (List.range 11) (by decide) (by kernel_rfl) ?_; unfold D78_6)); simp only [S, TY, reduceCtorEq, nq0, nq1, nq2, nq3, nq4, iq0, iq1, iq2, iq3, iq4, iq5, iq6, iq7, iq8]; (try (simp (disch := omega) only [W2, Int.cast_ofNat_Int]; (try simp only [S, TY, reduceCtorEq, nq0, nq1, nq2, nq3, nq4, iq0, iq1, iq2, iq3, iq4, iq5, iq6, iq7, iq8])))))
  exact fin_take (B := []) h3 ⟨rfl, rfl⟩
end Go.Proofs.Ytanhmbdcdbcfmaa.Nt
