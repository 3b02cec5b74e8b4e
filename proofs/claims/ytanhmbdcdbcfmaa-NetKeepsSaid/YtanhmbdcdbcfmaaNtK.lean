/- net's Net: Delete, Take, Find, over the machine. -/
import Derived.Test.YtanhmbdcdbcfmaaNt
set_option linter.unusedVariables false
set_option linter.unusedSimpArgs false
set_option maxRecDepth 10000
set_option maxHeartbeats 4000000
namespace Go.Proofs.Ytanhmbdcdbcfmaa.NtK
open Nat renaming reduceEqDiff → nq0, reduceAdd → nq1, reduceLeDiff → nq2, reduceBEq → nq3, reduceMul → nq4
open Int renaming reduceBEq → iq0, reduceEq → iq1, reduceLT → iq2, reduceLE → iq3, reduceAdd → iq4, reduceSub → iq5, reduceMul → iq6, reduceToNat → iq7, cast_ofNat_Int → iq8
open Go Go.Sl Go.Proofs Go.Proofs.Ytanhmbdcdbcfmaa.NtP Go.Proofs.Ytanhmbdcdbcfmaa.Nt
theorem TY : aggN Try.prog 3 = some none ∧
  aggN Try.prog 30 = some none ∧
  aggN Try.prog 140 = some none ∧
  aggN Try.prog 148 = some none ∧
  aggN Try.prog 152 = some (some 3) ∧
  aggN Try.prog 267 = some (some 3) ∧
  aggN Try.prog 275 = some none ∧
  apI Try.prog 148 = some (152, 3, 40) ∧
  bIs Try.prog 152 = true ∧
  bIs Try.prog 267 = true ∧
  csz Try.prog 3 = some 1 ∧
  csz Try.prog 30 = some 1 ∧
  csz Try.prog 140 = some 1 ∧
  csz Try.prog 148 = some 1 ∧
  csz Try.prog 152 = some 3 ∧
  csz Try.prog 267 = some 3 ∧
  csz Try.prog 275 = some 1 ∧
  fIs Try.prog 152 0 = true ∧
  fIs Try.prog 152 1 = true ∧
  fIs Try.prog 267 0 = true ∧
  fOff Try.prog 152 0 = 0 ∧
  fOff Try.prog 152 1 = 1 ∧
  fOff Try.prog 267 0 = 0 ∧
  fTy Try.prog 152 0 = 3 ∧
  fTy Try.prog 152 1 = 3 ∧
  fTy Try.prog 267 0 = 148 ∧
  fnIs Try.prog 275 = true ∧
  goes Try.prog 76 = true ∧
  goes Try.prog 153 = true ∧
  goes Try.prog 154 = true ∧
  goes Try.prog 155 = true ∧
  inIs Try.prog 3 = some .i64 ∧
  inIs Try.prog 30 = some .i64 ∧
  plcs Try.prog 152 = [(0, 1), (1, 1), (2, 1)] ∧
  plcs Try.prog 267 = [(0, 1), (1, 1), (2, 1)] ∧
  ptIs Try.prog 140 = true ∧
  slEl Try.prog 148 = 152 ∧
  slIs Try.prog 148 = true ∧
  slSz Try.prog 148 = 3 ∧
  zcs Try.prog 152 = [.int .i64 0, .int .i64 0, .slice none 0 0] ∧
  zcs Try.prog 267 = [.slice none 0 0, .int .i64 0, .int .i64 0] ∧
  zro Try.prog 3 = some (.int .i64 0) ∧
  zro Try.prog 30 = some (.int .i64 0) ∧
  zro Try.prog 140 = some (.pointer none) ∧
  zro Try.prog 148 = some (.slice none 0 0) ∧
  zro Try.prog 152 = some (.agg #[.int .i64 0, .int .i64 0, .slice none 0 0]) ∧
  zro Try.prog 267 = some (.agg #[.slice none 0 0, .int .i64 0, .int .i64 0]) ∧
  zro Try.prog 275 = some (.nilFunc) :=
  ⟨by kernel_rfl, by kernel_rfl, by kernel_rfl, by kernel_rfl, by kernel_rfl, by kernel_rfl, by kernel_rfl, by kernel_rfl, by kernel_rfl, by kernel_rfl, by kernel_rfl, by kernel_rfl, by kernel_rfl, by kernel_rfl, by kernel_rfl, by kernel_rfl, by kernel_rfl, by kernel_rfl, by kernel_rfl, by kernel_rfl, by kernel_rfl, by kernel_rfl, by kernel_rfl, by kernel_rfl, by kernel_rfl, by kernel_rfl, by kernel_rfl, by kernel_rfl, by kernel_rfl, by kernel_rfl, by kernel_rfl, by kernel_rfl, by kernel_rfl, by kernel_rfl, by kernel_rfl, by kernel_rfl, by kernel_rfl, by kernel_rfl, by kernel_rfl, by kernel_rfl, by kernel_rfl, by kernel_rfl, by kernel_rfl, by kernel_rfl, by kernel_rfl, by kernel_rfl, by kernel_rfl, by kernel_rfl⟩
def D153_5 : List Note := Go.Sl.nn [0, 0, 0, 0, 0, 0, 3, 0]
theorem flat_take {α : Type} {enc : α → List Value} {sz : Nat} (he : ∀ x, (enc x).length = sz) : ∀ (l : List α) (i : Nat), (l.flatMap enc).take (i * sz) = (l.take i).flatMap enc
  | [], i => by simp
  | x :: l, 0 => by simp
  | x :: l, i + 1 => by
    rw [List.flatMap_cons, List.take_succ_cons, List.flatMap_cons, Nat.succ_mul, List.take_append, he, List.take_of_length_le (by rw [he]; omega), ← flat_take he l i, Nat.add_sub_cancel]
theorem flat_drop {α : Type} {enc : α → List Value} {sz : Nat} (he : ∀ x, (enc x).length = sz) : ∀ (l : List α) (i : Nat), (l.flatMap enc).drop (i * sz) = (l.drop i).flatMap enc
  | [], i => by simp
  | x :: l, 0 => by simp
  | x :: l, i + 1 => by
    rw [List.flatMap_cons, List.drop_succ_cons, Nat.succ_mul, List.drop_append, he, List.drop_of_length_le (by rw [he]; omega), ← flat_drop he l i, Nat.add_sub_cancel, List.nil_append]
theorem Delete_ok {G : Hp} {a : Option Addr} {c i : Nat} {zl : List (It × Value)} (hi : i < zl.length) (h1 : ∀ z ∈ zl, z.2.oneCell' = true) (hl : zl.length ≤ 100000) :
    Con Try.prog G 153 [.slice a zl.length c, .int .i64 (i : Nat), .int .i64 ((i : Nat) + 1)] [own 152 3 (.slice a zl.length c) (zl.flatMap ic)] (fun r B => B = [own 152 3 r ((zl.eraseIdx i).flatMap ic)]) := by
  refine Con.intro Try.func153 rfl (Nat.le_of_ble_eq_true (by kernel_rfl)) (by kernel_rfl) Try.results153 ?_
  intro H h
  obtain ⟨_, _, _, hq, e1, e2⟩ := h.sl 0 rfl Rd_own
  cases hq
  have g0 : ¬ ((i : Int) = (i : Int) + 1) := by omega
  ((try simp only [S, TY, reduceCtorEq, nq0, nq1, nq2, nq3, nq4, iq0, iq1, iq2, iq3, iq4, iq5, iq6, iq7, iq8, g0, rSl_slice_lhm]); (try (simp (disch := omega) only [W2, Int.cast_ofNat_Int]; (try simp only [S, TY, reduceCtorEq, nq0, nq1, nq2, nq3, nq4, iq0, iq1, iq2, iq3, iq4, iq5, iq6, iq7, iq8, g0, rSl_slice_lhm]))); repeat ((first | (refine cl_drawi 5 D153_5 (List.range 8) (by decide) (by kernel_rfl) ?_; unfold D153_5)); simp only [S, TY, reduceCtorEq, nq0, nq1, nq2, nq3, nq4, iq0, iq1, iq2, iq3, iq4, iq5, iq6, iq7, iq8, g0, rSl_slice_lhm]; (try (simp (disch := omega) only [W2, Int.cast_ofNat_Int]; (try simp only [S, TY, reduceCtorEq, nq0, nq1, nq2, nq3, nq4, iq0, iq1, iq2, iq3, iq4, iq5, iq6, iq7, iq8, g0, rSl_slice_lhm])))))
  refine ⟨⟨by omega, by omega⟩, ⟨by omega, by omega⟩, ⟨by omega, by omega⟩, ?_⟩
  ((try simp only [S, TY, reduceCtorEq, nq0, nq1, nq2, nq3, nq4, iq0, iq1, iq2, iq3, iq4, iq5, iq6, iq7, iq8]); (try (simp (disch := omega) only [W2, Int.cast_ofNat_Int]; (try simp only [S, TY, reduceCtorEq, nq0, nq1, nq2, nq3, nq4, iq0, iq1, iq2, iq3, iq4, iq5, iq6, iq7, iq8]))); repeat ((first | (refine cl_drawi 5 D153_5 (List.range 8) (by decide) (by kernel_rfl) ?_; unfold D153_5)); simp only [S, TY, reduceCtorEq, nq0, nq1, nq2, nq3, nq4, iq0, iq1, iq2, iq3, iq4, iq5, iq6, iq7, iq8]; (try (simp (disch := omega) only [W2, Int.cast_ofNat_Int]; (try simp only [S, TY, reduceCtorEq, nq0, nq1, nq2, nq3, nq4, iq0, iq1, iq2, iq3, iq4, iq5, iq6, iq7, iq8])))))
  refine ⟨⟨by omega, by omega⟩, ⟨by omega, by omega⟩, ?_⟩
  have et : ((i : Int) + 1).toNat = i + 1 := by omega
  rw [et]
  have hones : ∀ v ∈ (zl.flatMap ic).drop ((i + 1) * 3), v.oneCell' = true := by
    intro v hv
    obtain ⟨z, hz1, hz2⟩ := List.mem_flatMap.1 (List.mem_of_mem_drop hv)
    exact il_one (h1 z hz1) v hz2
  have hx := (own_drop h (i + 1) (by omega)).rdsi 0 rfl Rd_own
  have ht := own_take h i (by omega)
  refine append_in (show apI Try.prog 148 = some (152, 3, 40) from by kernel_rfl) (show slIs Try.prog 148 = true from by kernel_rfl) ht hx hones (by omega) fun H2 h2 => ?_
  rw [show i + (zl.length - (i + 1)) = zl.length - 1 by omega] at h2 ⊢
  have es : (zl.flatMap ic).take (i * 3) ++ (zl.flatMap ic).drop ((i + 1) * 3) = (zl.eraseIdx i).flatMap ic := by
    rw [List.eraseIdx_eq_take_drop_succ, List.flatMap_append, flat_take ic_len, flat_drop ic_len]
  rw [es] at h2
  ((try simp only [S, TY, reduceCtorEq, nq0, nq1, nq2, nq3, nq4, iq0, iq1, iq2, iq3, iq4, iq5, iq6, iq7, iq8, opV_clear]); (try (simp (disch := omega) only [W2, Int.cast_ofNat_Int]; (try simp only [S, TY, reduceCtorEq, nq0, nq1, nq2, nq3, nq4, iq0, iq1, iq2, iq3, iq4, iq5, iq6, iq7, iq8, opV_clear]))); repeat ((first | (refine cl_drawi 5 D153_5 (List.range 8) (by decide) (by kernel_rfl) ?_; unfold D153_5)); simp only [S, TY, reduceCtorEq, nq0, nq1, nq2, nq3, nq4, iq0, iq1, iq2, iq3, iq4, iq5, iq6, iq7, iq8, opV_clear]; (try (simp (disch := omega) only [W2, Int.cast_ofNat_Int]; (try simp only [S, TY, reduceCtorEq, nq0, nq1, nq2, nq3, nq4, iq0, iq1, iq2, iq3, iq4, iq5, iq6, iq7, iq8, opV_clear])))))
  refine ⟨⟨by omega, by omega⟩, ⟨by omega, by omega⟩, ?_⟩
  obtain ⟨ys, hy, h3⟩ := own_more h2 (show zl.length - 1 ≤ zl.length by omega) e2
  refine clear_own (m := zl.length - 1) (show apI Try.prog 148 = some (152, 3, 40) from by kernel_rfl) (by omega) h3 (fun H4 h4 => ?_)
  ((try simp only [S, TY, reduceCtorEq, nq0, nq1, nq2, nq3, nq4, iq0, iq1, iq2, iq3, iq4, iq5, iq6, iq7, iq8]); (try (simp (disch := omega) only [W2, Int.cast_ofNat_Int]; (try simp only [S, TY, reduceCtorEq, nq0, nq1, nq2, nq3, nq4, iq0, iq1, iq2, iq3, iq4, iq5, iq6, iq7, iq8]))); repeat ((first | (refine cl_drawi 5 D153_5 (List.range 8) (by decide) (by kernel_rfl) ?_; unfold D153_5)); simp only [S, TY, reduceCtorEq, nq0, nq1, nq2, nq3, nq4, iq0, iq1, iq2, iq3, iq4, iq5, iq6, iq7, iq8]; (try (simp (disch := omega) only [W2, Int.cast_ofNat_Int]; (try simp only [S, TY, reduceCtorEq, nq0, nq1, nq2, nq3, nq4, iq0, iq1, iq2, iq3, iq4, iq5, iq6, iq7, iq8])))))
  have e3 : ((zl.eraseIdx i).flatMap ic ++ ys).take ((zl.length - 1) * 3) = (zl.eraseIdx i).flatMap ic := by
    have : ((zl.eraseIdx i).flatMap ic).length = (zl.length - 1) * 3 := by rw [flat_len ic_len, List.length_eraseIdx_of_lt hi]
    rw [← this, List.take_left]
  rw [e3] at h4
  exact fin_take (B := [_]) h4 rfl
theorem blobs_erase : ∀ {vs : List Value} {bs : List (List UInt8)} {H : Hp} (j : Nat), blobs vs bs H → blobs (vs.eraseIdx j) (bs.eraseIdx j) H
  | [], [], _, _, h => by simpa using h
  | _ :: _, _ :: _, _, 0, h => h.2
  | _ :: _, _ :: _, _, j + 1, h => ⟨h.1, blobs_erase j h.2⟩
  | [], _ :: _, _, _, h => h.elim
  | _ :: _, [], _, _, h => h.elim
theorem map_erase {α β : Type} (f : α → β) (l : List α) (j : Nat) : (l.eraseIdx j).map f = (l.map f).eraseIdx j := by
  rw [List.eraseIdx_eq_take_drop_succ, List.eraseIdx_eq_take_drop_succ, List.map_append, List.map_take, List.map_drop]
def TakeR (p : Nat) (n : Nt) (i : Int) (r : Value) (B : List Asn) : Prop := if n.has i then ∃ u, r = .tuple #[.agg (il (n.l.getD i.toNat ⟨0, 0, []⟩).k (n.l.getD i.toNat ⟨0, 0, []⟩).c u).toArray, .int .i64 0] ∧ B = [own 5 1 u (bv (n.l.getD i.toNat ⟨0, 0, []⟩).b), nN p (n.drop i)]
  else r = .tuple #[.agg (il 0 0 (.slice none 0 0)).toArray, .int .i64 4] ∧ B = [nN p n]
theorem Take_nil {G : Hp} (i : Int) : Con Try.prog G 77 [.pointer none, .int .i64 i] [] (fun r B => r = .tuple #[.agg (il 0 0 (.slice none 0 0)).toArray, .int .i64 1] ∧ B = []) := by
  refine Con.intro Try.func77 rfl (Nat.le_of_ble_eq_true (by kernel_rfl)) (by kernel_rfl) Try.results77 ?_
  intro H h
  ((try simp only [S, TY, reduceCtorEq, nq0, nq1, nq2, nq3, nq4, iq0, iq1, iq2, iq3, iq4, iq5, iq6, iq7, iq8]); (try (simp (disch := omega) only [W2, Int.cast_ofNat_Int]; (try simp only [S, TY, reduceCtorEq, nq0, nq1, nq2, nq3, nq4, iq0, iq1, iq2, iq3, iq4, iq5, iq6, iq7, iq8]))))
  intro q hq hg
  have h1 := h.new hq hg (.cells (il 0 0 (.slice none 0 0)).toArray 152 (0, 0))
  ((try simp only [S, TY, reduceCtorEq, nq0, nq1, nq2, nq3, nq4, iq0, iq1, iq2, iq3, iq4, iq5, iq6, iq7, iq8]); (try (simp (disch := omega) only [W2, Int.cast_ofNat_Int]; (try simp only [S, TY, reduceCtorEq, nq0, nq1, nq2, nq3, nq4, iq0, iq1, iq2, iq3, iq4, iq5, iq6, iq7, iq8]))))
  refine (At_nil i).at_ h1 [] _ rfl fun r B H2 hr h2 => ?_
  obtain ⟨rfl, rfl⟩ := hr
  ((try simp only [S, TY, reduceCtorEq, nq0, nq1, nq2, nq3, nq4, iq0, iq1, iq2, iq3, iq4, iq5, iq6, iq7, iq8]); (try (simp (disch := omega) only [W2, Int.cast_ofNat_Int]; (try simp only [S, TY, reduceCtorEq, nq0, nq1, nq2, nq3, nq4, iq0, iq1, iq2, iq3, iq4, iq5, iq6, iq7, iq8]))))
  intro q3 hq3 hg3
  have h3 := h2.new hq3 hg3 (.cells (il 0 0 (.slice none 0 0)).toArray 152 (0, 0))
  ((try simp only [S, TY, reduceCtorEq, nq0, nq1, nq2, nq3, nq4, iq0, iq1, iq2, iq3, iq4, iq5, iq6, iq7, iq8]); (try (simp (disch := omega) only [W2, Int.cast_ofNat_Int]; (try simp only [S, TY, reduceCtorEq, nq0, nq1, nq2, nq3, nq4, iq0, iq1, iq2, iq3, iq4, iq5, iq6, iq7, iq8]))))
  refine sg.st h3 rfl rfl fun H4 h4 => ?_
  simp only [front_eq, fronts_nil, fronts_cons, List.getElem?_cons_zero, List.getElem?_cons_succ, List.eraseIdx_cons_zero, List.eraseIdx_cons_succ, List.cons_append, List.nil_append, putL_cons, putL_nil, List.set_cons_zero, List.set_cons_succ, Nat.reduceAdd] at h4
  have w4 := h4.li 0 rfl
  ((try simp only [S, TY, reduceCtorEq, nq0, nq1, nq2, nq3, nq4, iq0, iq1, iq2, iq3, iq4, iq5, iq6, iq7, iq8, w4]); (try (simp (disch := omega) only [W2, Int.cast_ofNat_Int]; (try simp only [S, TY, reduceCtorEq, nq0, nq1, nq2, nq3, nq4, iq0, iq1, iq2, iq3, iq4, iq5, iq6, iq7, iq8, w4]))))
  refine sg.st (h4.front 1) rfl rfl fun H5 h5 => ?_
  simp only [front_eq, fronts_nil, fronts_cons, List.getElem?_cons_zero, List.getElem?_cons_succ, List.eraseIdx_cons_zero, List.eraseIdx_cons_succ, List.cons_append, List.nil_append, putL_cons, putL_nil, List.set_cons_zero, List.set_cons_succ, Nat.reduceAdd] at h5
  have w5 := h5.li 0 rfl
  ((try simp only [S, TY, reduceCtorEq, nq0, nq1, nq2, nq3, nq4, iq0, iq1, iq2, iq3, iq4, iq5, iq6, iq7, iq8, w5]); (try (simp (disch := omega) only [W2, Int.cast_ofNat_Int]; (try simp only [S, TY, reduceCtorEq, nq0, nq1, nq2, nq3, nq4, iq0, iq1, iq2, iq3, iq4, iq5, iq6, iq7, iq8, w5]))))
  exact fin_take (B := []) h5 ⟨rfl, rfl⟩
theorem Take_ok {G : Hp} {p : Nat} {n : Nt} {N : Int} (hw : n.wf N) (i : Int) : Con Try.prog G 77 [.pointer (some ⟨p, 0, none⟩), .int .i64 i] [nN p n] (TakeR p n i) := by
  have hwr := hw.r
  have hwl := hw.l
  refine Con.intro Try.func77 rfl (Nat.le_of_ble_eq_true (by kernel_rfl)) (by kernel_rfl) Try.results77 ?_
  intro H h
  ((try simp only [S, TY, reduceCtorEq, nq0, nq1, nq2, nq3, nq4, iq0, iq1, iq2, iq3, iq4, iq5, iq6, iq7, iq8]); (try (simp (disch := omega) only [W2, Int.cast_ofNat_Int]; (try simp only [S, TY, reduceCtorEq, nq0, nq1, nq2, nq3, nq4, iq0, iq1, iq2, iq3, iq4, iq5, iq6, iq7, iq8]))))
  intro q hq hg
  have h1 := h.new hq hg (.cells (il 0 0 (.slice none 0 0)).toArray 152 (0, 0))
  ((try simp only [S, TY, reduceCtorEq, nq0, nq1, nq2, nq3, nq4, iq0, iq1, iq2, iq3, iq4, iq5, iq6, iq7, iq8]); (try (simp (disch := omega) only [W2, Int.cast_ofNat_Int]; (try simp only [S, TY, reduceCtorEq, nq0, nq1, nq2, nq3, nq4, iq0, iq1, iq2, iq3, iq4, iq5, iq6, iq7, iq8]))))
  refine (At_ok hw i).at_ h1 [1] _ rfl fun r B H2 hr h2 => ?_
  unfold AtR at hr
  by_cases g1 : n.has i
  · rw [if_pos g1] at hr
    obtain ⟨u, rfl, rfl⟩ := hr
    obtain ⟨ua, un, uc, rfl, _, _⟩ := h2.sl 0 rfl Rd_own
    obtain ⟨x, hx⟩ : ∃ x, n.l.getD i.toNat ⟨0, 0, []⟩ = x := ⟨_, rfl⟩
    have hT : TakeR p n i = fun r B => ∃ u, r = .tuple #[.agg (il x.k x.c u).toArray, .int .i64 0] ∧ B = [own 5 1 u (bv x.b), nN p (n.drop i)] := by
      funext r B
      unfold TakeR
      rw [if_pos g1, hx]
    rw [hT]
    clear hT
    rw [hx] at h2 ⊢
    obtain ⟨xk, xc, xb⟩ := x
    simp only [front_eq, fronts_nil, fronts_cons, List.getElem?_cons_zero, List.getElem?_cons_succ, List.eraseIdx_cons_zero, List.eraseIdx_cons_succ, List.cons_append, List.nil_append, putL_cons, putL_nil, List.set_cons_zero, List.set_cons_succ, Nat.reduceAdd] at h2
    ((try simp only [S, TY, reduceCtorEq, nq0, nq1, nq2, nq3, nq4, iq0, iq1, iq2, iq3, iq4, iq5, iq6, iq7, iq8]); (try (simp (disch := omega) only [W2, Int.cast_ofNat_Int]; (try simp only [S, TY, reduceCtorEq, nq0, nq1, nq2, nq3, nq4, iq0, iq1, iq2, iq3, iq4, iq5, iq6, iq7, iq8]))))
    intro q3 hq3 hg3
    have h3 := h2.new hq3 hg3 (.cells (il 0 0 (.slice none 0 0)).toArray 152 (0, 0))
    ((try simp only [S, TY, reduceCtorEq, nq0, nq1, nq2, nq3, nq4, iq0, iq1, iq2, iq3, iq4, iq5, iq6, iq7, iq8]); (try (simp (disch := omega) only [W2, Int.cast_ofNat_Int]; (try simp only [S, TY, reduceCtorEq, nq0, nq1, nq2, nq3, nq4, iq0, iq1, iq2, iq3, iq4, iq5, iq6, iq7, iq8]))))
    refine sg.st h3 rfl rfl fun H4 h4 => ?_
    simp only [front_eq, fronts_nil, fronts_cons, List.getElem?_cons_zero, List.getElem?_cons_succ, List.eraseIdx_cons_zero, List.eraseIdx_cons_succ, List.cons_append, List.nil_append, putL_cons, putL_nil, List.set_cons_zero, List.set_cons_succ, Nat.reduceAdd] at h4
    obtain ⟨ma, mc, zl, hz, hl, hc, h5⟩ := nN_open (h4.front 2)
    simp only [front_eq, fronts_nil, fronts_cons, List.getElem?_cons_zero, List.getElem?_cons_succ, List.eraseIdx_cons_zero, List.eraseIdx_cons_succ, List.cons_append, List.nil_append, putL_cons, putL_nil, List.set_cons_zero, List.set_cons_succ, Nat.reduceAdd] at h5
    have c5 := h5.c0
    have hi0 : 0 ≤ i := g1.1
    have hi1 : i < n.l.length := g1.2
    obtain ⟨j, rfl⟩ : ∃ j : Nat, i = (j : Int) := ⟨i.toNat, by omega⟩
    have hj : j < zl.length := by omega
    have hbo := (h5.front 2).blobs.one
    ((try simp only [S, TY, reduceCtorEq, nq0, nq1, nq2, nq3, nq4, iq0, iq1, iq2, iq3, iq4, iq5, iq6, iq7, iq8, c5]); (try (simp (disch := omega) only [W2, Int.cast_ofNat_Int]; (try simp only [S, TY, reduceCtorEq, nq0, nq1, nq2, nq3, nq4, iq0, iq1, iq2, iq3, iq4, iq5, iq6, iq7, iq8, c5]))))
    refine (Delete_ok hj (fun z hz => hbo z.2 (List.mem_map.2 ⟨z, hz, rfl⟩)) (by omega)).at_ h5 [1] _ rfl fun r B H6 hr h6 => ?_
    subst hr
    obtain ⟨va, vn, vc, rfl, _, _⟩ := h6.sl 0 rfl Rd_own
    simp only [front_eq, fronts_nil, fronts_cons, List.getElem?_cons_zero, List.getElem?_cons_succ, List.eraseIdx_cons_zero, List.eraseIdx_cons_succ, List.cons_append, List.nil_append, putL_cons, putL_nil, List.set_cons_zero, List.set_cons_succ, Nat.reduceAdd] at h6
    ((try simp only [S, TY, reduceCtorEq, nq0, nq1, nq2, nq3, nq4, iq0, iq1, iq2, iq3, iq4, iq5, iq6, iq7, iq8]); (try (simp (disch := omega) only [W2, Int.cast_ofNat_Int]; (try simp only [S, TY, reduceCtorEq, nq0, nq1, nq2, nq3, nq4, iq0, iq1, iq2, iq3, iq4, iq5, iq6, iq7, iq8]))))
    refine sg.st (h6.front 1) rfl rfl fun H7 h7 => ?_
    simp only [front_eq, fronts_nil, fronts_cons, List.getElem?_cons_zero, List.getElem?_cons_succ, List.eraseIdx_cons_zero, List.eraseIdx_cons_succ, List.cons_append, List.nil_append, putL_cons, putL_nil, List.set_cons_zero, List.set_cons_succ, Nat.reduceAdd] at h7
    have w7 := h7.li 3 rfl
    ((try simp only [S, TY, reduceCtorEq, nq0, nq1, nq2, nq3, nq4, iq0, iq1, iq2, iq3, iq4, iq5, iq6, iq7, iq8, w7]); (try (simp (disch := omega) only [W2, Int.cast_ofNat_Int]; (try simp only [S, TY, reduceCtorEq, nq0, nq1, nq2, nq3, nq4, iq0, iq1, iq2, iq3, iq4, iq5, iq6, iq7, iq8, w7]))))
    refine sg.st (h7.front 5) rfl rfl fun H8 h8 => ?_
    simp only [front_eq, fronts_nil, fronts_cons, List.getElem?_cons_zero, List.getElem?_cons_succ, List.eraseIdx_cons_zero, List.eraseIdx_cons_succ, List.cons_append, List.nil_append, putL_cons, putL_nil, List.set_cons_zero, List.set_cons_succ, Nat.reduceAdd] at h8
    have w8 := h8.li 0 rfl
    ((try simp only [S, TY, reduceCtorEq, nq0, nq1, nq2, nq3, nq4, iq0, iq1, iq2, iq3, iq4, iq5, iq6, iq7, iq8, w8]); (try (simp (disch := omega) only [W2, Int.cast_ofNat_Int]; (try simp only [S, TY, reduceCtorEq, nq0, nq1, nq2, nq3, nq4, iq0, iq1, iq2, iq3, iq4, iq5, iq6, iq7, iq8, w8]))))
    have hdr : n.drop (j : Int) = ⟨n.l.eraseIdx j, n.room, n.lost⟩ := by unfold Nt.drop; rw [if_pos g1, Int.toNat_natCast]
    rw [hdr]
    have h9 := ((h8.front 3).blob_map (fun K k => blobs_erase j k)).fronts [2, 2, 0]
    rw [← map_erase, ← map_erase] at h9
    have h10 := nN_shut ⟨n.l.eraseIdx j, n.room, n.lost⟩ (by rw [map_erase, hz]) h9
    exact fin_take (B := [_, _]) (h10.fronts [3, 0]) ⟨_, rfl, rfl⟩
  · rw [if_neg g1] at hr
    obtain ⟨rfl, rfl⟩ := hr
    have hT : TakeR p n i = fun r B => r = .tuple #[.agg (il 0 0 (.slice none 0 0)).toArray, .int .i64 4] ∧ B = [nN p n] := by
      funext r B
      unfold TakeR
      rw [if_neg g1]
    rw [hT]
    clear hT
    simp only [front_eq, fronts_nil, fronts_cons, List.getElem?_cons_zero, List.getElem?_cons_succ, List.eraseIdx_cons_zero, List.eraseIdx_cons_succ, List.cons_append, List.nil_append, putL_cons, putL_nil, List.set_cons_zero, List.set_cons_succ, Nat.reduceAdd] at h2
    ((try simp only [S, TY, reduceCtorEq, nq0, nq1, nq2, nq3, nq4, iq0, iq1, iq2, iq3, iq4, iq5, iq6, iq7, iq8]); (try (simp (disch := omega) only [W2, Int.cast_ofNat_Int]; (try simp only [S, TY, reduceCtorEq, nq0, nq1, nq2, nq3, nq4, iq0, iq1, iq2, iq3, iq4, iq5, iq6, iq7, iq8]))))
    intro q3 hq3 hg3
    have h3 := h2.new hq3 hg3 (.cells (il 0 0 (.slice none 0 0)).toArray 152 (0, 0))
    ((try simp only [S, TY, reduceCtorEq, nq0, nq1, nq2, nq3, nq4, iq0, iq1, iq2, iq3, iq4, iq5, iq6, iq7, iq8]); (try (simp (disch := omega) only [W2, Int.cast_ofNat_Int]; (try simp only [S, TY, reduceCtorEq, nq0, nq1, nq2, nq3, nq4, iq0, iq1, iq2, iq3, iq4, iq5, iq6, iq7, iq8]))))
    refine sg.st h3 rfl rfl fun H4 h4 => ?_
    simp only [front_eq, fronts_nil, fronts_cons, List.getElem?_cons_zero, List.getElem?_cons_succ, List.eraseIdx_cons_zero, List.eraseIdx_cons_succ, List.cons_append, List.nil_append, putL_cons, putL_nil, List.set_cons_zero, List.set_cons_succ, Nat.reduceAdd] at h4
    have w4 := h4.li 0 rfl
    ((try simp only [S, TY, reduceCtorEq, nq0, nq1, nq2, nq3, nq4, iq0, iq1, iq2, iq3, iq4, iq5, iq6, iq7, iq8, w4]); (try (simp (disch := omega) only [W2, Int.cast_ofNat_Int]; (try simp only [S, TY, reduceCtorEq, nq0, nq1, nq2, nq3, nq4, iq0, iq1, iq2, iq3, iq4, iq5, iq6, iq7, iq8, w4]))))
    refine sg.st (h4.front 2) rfl rfl fun H5 h5 => ?_
    simp only [front_eq, fronts_nil, fronts_cons, List.getElem?_cons_zero, List.getElem?_cons_succ, List.eraseIdx_cons_zero, List.eraseIdx_cons_succ, List.cons_append, List.nil_append, putL_cons, putL_nil, List.set_cons_zero, List.set_cons_succ, Nat.reduceAdd] at h5
    have w5 := h5.li 0 rfl
    ((try simp only [S, TY, reduceCtorEq, nq0, nq1, nq2, nq3, nq4, iq0, iq1, iq2, iq3, iq4, iq5, iq6, iq7, iq8, w5]); (try (simp (disch := omega) only [W2, Int.cast_ofNat_Int]; (try simp only [S, TY, reduceCtorEq, nq0, nq1, nq2, nq3, nq4, iq0, iq1, iq2, iq3, iq4, iq5, iq6, iq7, iq8, w5]))))
    exact fin_take (B := [_]) (show sg G [nN p n, _, _] _ from h5.front 2) ⟨rfl, rfl⟩
theorem hit_ok {G : Hp} {k c : Int} {bk bc : Nat} {v : Value} (x : It) : Con Try.prog G 155 [.agg (il x.k x.c v).toArray, .pointer (some ⟨bk, 0, none⟩), .pointer (some ⟨bc, 0, none⟩)] [ob bk (.cells #[.int .i64 k] 3 (0, 0)), ob bc (.cells #[.int .i64 c] 3 (0, 0))]
    (fun r B => r = .bool (hit k c x) ∧ B = [ob bk (.cells #[.int .i64 k] 3 (0, 0)), ob bc (.cells #[.int .i64 c] 3 (0, 0))]) := by
  obtain ⟨xk, xc, xb⟩ := x
  unfold hit
  simp only
  refine Con.intro Try.func155 rfl (Nat.le_of_ble_eq_true (by kernel_rfl)) (by kernel_rfl) Try.results155 ?_
  intro H h
  ((try simp only [S, TY, reduceCtorEq, nq0, nq1, nq2, nq3, nq4, iq0, iq1, iq2, iq3, iq4, iq5, iq6, iq7, iq8]); (try (simp (disch := omega) only [W2, Int.cast_ofNat_Int]; (try simp only [S, TY, reduceCtorEq, nq0, nq1, nq2, nq3, nq4, iq0, iq1, iq2, iq3, iq4, iq5, iq6, iq7, iq8]))))
  intro q hq hg
  have h1 := h.new hq hg (.cells (il xk xc v).toArray 152 (0, 0))
  have c0 := h1.c0
  have c1 := h1.ci 1 rfl
  have c2 := h1.ci 2 rfl
  obtain ⟨res, hres⟩ : ∃ r, decide (xk = k ∧ xc = c) = r := ⟨_, rfl⟩
  rw [hres]
  have key : ∀ r : Bool, r = decide (xk = k ∧ xc = c) → fin (fun r B => r = .bool res ∧ B = [ob bk (.cells #[.int .i64 k] 3 (0, 0)), ob bc (.cells #[.int .i64 c] 3 (0, 0))]) (.returned (.bool r)) (H.set q (.cells (il xk xc v).toArray 152 (0, 0))) := by
    rintro r rfl
    exact fin_take (B := [_, _]) (h1.fronts [1, 1]) ⟨by rw [hres], rfl⟩
  clear hres
  by_cases g1 : xk = k
  · subst g1
    by_cases g2 : xc = c
    · subst g2
      ((try simp only [S, TY, reduceCtorEq, nq0, nq1, nq2, nq3, nq4, iq0, iq1, iq2, iq3, iq4, iq5, iq6, iq7, iq8, c0, c1, c2]); (try (simp (disch := omega) only [W2, Int.cast_ofNat_Int]; (try simp only [S, TY, reduceCtorEq, nq0, nq1, nq2, nq3, nq4, iq0, iq1, iq2, iq3, iq4, iq5, iq6, iq7, iq8, c0, c1, c2]))))
      exact key _ (by simp)
    · ((try simp only [S, TY, reduceCtorEq, nq0, nq1, nq2, nq3, nq4, iq0, iq1, iq2, iq3, iq4, iq5, iq6, iq7, iq8, c0, c1, c2, g2]); (try (simp (disch := omega) only [W2, Int.cast_ofNat_Int]; (try simp only [S, TY, reduceCtorEq, nq0, nq1, nq2, nq3, nq4, iq0, iq1, iq2, iq3, iq4, iq5, iq6, iq7, iq8, c0, c1, c2, g2]))))
      exact key _ (by simp [g2])
  · ((try simp only [S, TY, reduceCtorEq, nq0, nq1, nq2, nq3, nq4, iq0, iq1, iq2, iq3, iq4, iq5, iq6, iq7, iq8, c0, c1, c2, g1]); (try (simp (disch := omega) only [W2, Int.cast_ofNat_Int]; (try simp only [S, TY, reduceCtorEq, nq0, nq1, nq2, nq3, nq4, iq0, iq1, iq2, iq3, iq4, iq5, iq6, iq7, iq8, c0, c1, c2, g1]))))
    exact key _ (by simp [g1])
theorem IndexFunc_ok {G : Hp} {k c : Int} {bk bc : Nat} {a : Option Addr} {cc : Nat} {zl : List (It × Value)} (hl : zl.length ≤ 100000) :
    Con Try.prog G 154 [.slice a zl.length cc, .func (.func 155) #[] #[.pointer (some ⟨bk, 0, none⟩), .pointer (some ⟨bc, 0, none⟩)]]
      [ob bk (.cells #[.int .i64 k] 3 (0, 0)), ob bc (.cells #[.int .i64 c] 3 (0, 0)), own 152 3 (.slice a zl.length cc) (zl.flatMap ic)]
      (fun r B => r = .int .i64 (find k c (zl.map (·.1)) 0) ∧ B = [ob bk (.cells #[.int .i64 k] 3 (0, 0)), ob bc (.cells #[.int .i64 c] 3 (0, 0)), own 152 3 (.slice a zl.length cc) (zl.flatMap ic)]) := by
  refine Con.intro Try.func154 rfl (Nat.le_of_ble_eq_true (by kernel_rfl)) (by kernel_rfl) Try.results154 ?_
  intro H h
  ((try simp only [S, TY, reduceCtorEq, nq0, nq1, nq2, nq3, nq4, iq0, iq1, iq2, iq3, iq4, iq5, iq6, iq7, iq8]); (try (simp (disch := omega) only [W2, Int.cast_ofNat_Int]; (try simp only [S, TY, reduceCtorEq, nq0, nq1, nq2, nq3, nq4, iq0, iq1, iq2, iq3, iq4, iq5, iq6, iq7, iq8]))))
  refine cl_loop (fun i e H => i ≤ zl.length ∧ e 0 = .slice a zl.length cc ∧ e 1 = .func (.func 155) #[] #[.pointer (some ⟨bk, 0, none⟩), .pointer (some ⟨bc, 0, none⟩)] ∧ e 7 = .int .i64 (zl.length : Nat) ∧ e 8 = .int .i64 (i : Nat) ∧ find k c (zl.map (·.1)) 0 = find k c ((zl.drop i).map (·.1)) (i : Nat) ∧
      sg G [ob bk (.cells #[.int .i64 k] 3 (0, 0)), ob bc (.cells #[.int .i64 c] 3 (0, 0)), own 152 3 (.slice a zl.length cc) (zl.flatMap ic)] H) (fun i : Nat => zl.length - i) 0
    ⟨by omega, rfl, rfl, rfl, rfl, rfl, h⟩ ?_
  clear h
  rintro i e H ⟨q, q0, q1, q7, q8, hf, h⟩
  by_cases g1 : (i : Int) < zl.length
  · have g2 : (0 : Int) ≤ i ∧ (i : Int) < zl.length := ⟨by omega, g1⟩
    have hi : i < zl.length := by omega
    obtain ⟨bb, off, hl', rfl, _, d1⟩ := (h.rdsi 2 rfl Rd_own).el ic_len (i := i) hi (by omega)
    ((try simp only [S, TY, reduceCtorEq, nq0, nq1, nq2, nq3, nq4, iq0, iq1, iq2, iq3, iq4, iq5, iq6, iq7, iq8, q0, q1, q7, q8, g1, g2, d1]); (try (simp (disch := omega) only [W2, Int.cast_ofNat_Int]; (try simp only [S, TY, reduceCtorEq, nq0, nq1, nq2, nq3, nq4, iq0, iq1, iq2, iq3, iq4, iq5, iq6, iq7, iq8, q0, q1, q7, q8, g1, g2, d1]))))
    refine (hit_ok zl[i].1).at_ h [0, 0] _ rfl fun r B H2 hr h2 => ?_
    obtain ⟨rfl, rfl⟩ := hr
    simp only [front_eq, fronts_nil, fronts_cons, List.getElem?_cons_zero, List.getElem?_cons_succ, List.eraseIdx_cons_zero, List.eraseIdx_cons_succ, List.cons_append, List.nil_append, putL_cons, putL_nil, List.set_cons_zero, List.set_cons_succ, Nat.reduceAdd] at h2
    have hd : zl.drop i = zl[i] :: zl.drop (i + 1) := List.drop_eq_getElem_cons hi
    rw [hd, List.map_cons, find] at hf
    cases hh : hit k c zl[i].1 with
    | true =>
      rw [hh] at hf
      simp only [if_true] at hf
      ((try simp only [S, TY, reduceCtorEq, nq0, nq1, nq2, nq3, nq4, iq0, iq1, iq2, iq3, iq4, iq5, iq6, iq7, iq8, q0, q1, q7, q8]); (try (simp (disch := omega) only [W2, Int.cast_ofNat_Int]; (try simp only [S, TY, reduceCtorEq, nq0, nq1, nq2, nq3, nq4, iq0, iq1, iq2, iq3, iq4, iq5, iq6, iq7, iq8, q0, q1, q7, q8]))))
      exact fin_take (B := [_, _, _]) h2 ⟨by rw [hf], rfl⟩
    | false =>
      rw [hh] at hf
      simp only [Bool.false_eq_true, if_false] at hf
      ((try simp only [S, TY, reduceCtorEq, nq0, nq1, nq2, nq3, nq4, iq0, iq1, iq2, iq3, iq4, iq5, iq6, iq7, iq8, q0, q1, q7, q8]); (try (simp (disch := omega) only [W2, Int.cast_ofNat_Int]; (try simp only [S, TY, reduceCtorEq, nq0, nq1, nq2, nq3, nq4, iq0, iq1, iq2, iq3, iq4, iq5, iq6, iq7, iq8, q0, q1, q7, q8]))))
      exact .go (i + 1) (by omega) ⟨by omega, q0, q1, q7, rfl, hf, h2⟩
  · have hd : zl.drop i = [] := List.drop_eq_nil_of_le (by omega)
    rw [hd] at hf
    rw [hf]
    ((try simp only [S, TY, reduceCtorEq, nq0, nq1, nq2, nq3, nq4, iq0, iq1, iq2, iq3, iq4, iq5, iq6, iq7, iq8, q0, q1, q7, q8, g1]); (try (simp (disch := omega) only [W2, Int.cast_ofNat_Int]; (try simp only [S, TY, reduceCtorEq, nq0, nq1, nq2, nq3, nq4, iq0, iq1, iq2, iq3, iq4, iq5, iq6, iq7, iq8, q0, q1, q7, q8, g1]))))
    exact fin_take (B := [_, _, _]) h ⟨rfl, rfl⟩
theorem Find_ok {G : Hp} {p : Nat} {n : Nt} {N : Int} (hw : n.wf N) (k c : Int) : Con Try.prog G 79 [.pointer (some ⟨p, 0, none⟩), .int .i64 k, .int .i64 c] [nN p n] (fun r B => r = .int .i64 (find k c n.l 0) ∧ B = [nN p n]) := by
  have hwr := hw.r
  have hwl := hw.l
  refine Con.intro Try.func79 rfl (Nat.le_of_ble_eq_true (by kernel_rfl)) (by kernel_rfl) Try.results79 ?_
  intro H h
  obtain ⟨a, cc, zl, hz, hl, hc, h0⟩ := nN_open h
  ((try simp only [S, TY, reduceCtorEq, nq0, nq1, nq2, nq3, nq4, iq0, iq1, iq2, iq3, iq4, iq5, iq6, iq7, iq8]); (try (simp (disch := omega) only [W2, Int.cast_ofNat_Int]; (try simp only [S, TY, reduceCtorEq, nq0, nq1, nq2, nq3, nq4, iq0, iq1, iq2, iq3, iq4, iq5, iq6, iq7, iq8]))))
  intro b4 hb4 hg4
  have h1 := h0.new hb4 hg4 (.cells #[.int .i64 k] 3 (0, 0))
  ((try simp only [S, TY, reduceCtorEq, nq0, nq1, nq2, nq3, nq4, iq0, iq1, iq2, iq3, iq4, iq5, iq6, iq7, iq8]); (try (simp (disch := omega) only [W2, Int.cast_ofNat_Int]; (try simp only [S, TY, reduceCtorEq, nq0, nq1, nq2, nq3, nq4, iq0, iq1, iq2, iq3, iq4, iq5, iq6, iq7, iq8]))))
  intro b5 hb5 hg5
  have h2 := h1.new hb5 hg5 (.cells #[.int .i64 c] 3 (0, 0))
  have c2 := h2.ci 2 rfl
  ((try simp only [S, TY, reduceCtorEq, nq0, nq1, nq2, nq3, nq4, iq0, iq1, iq2, iq3, iq4, iq5, iq6, iq7, iq8, c2]); (try (simp (disch := omega) only [W2, Int.cast_ofNat_Int]; (try simp only [S, TY, reduceCtorEq, nq0, nq1, nq2, nq3, nq4, iq0, iq1, iq2, iq3, iq4, iq5, iq6, iq7, iq8, c2]))))
  refine (IndexFunc_ok (k := k) (c := c) (bk := b4) (bc := b5) (a := a) (cc := cc) (zl := zl) (by omega)).at_ h2 [1, 0, 1] _ rfl fun r B H3 hr h3 => ?_
  obtain ⟨rfl, rfl⟩ := hr
  rw [hz]
  simp only [front_eq, fronts_nil, fronts_cons, List.getElem?_cons_zero, List.getElem?_cons_succ, List.eraseIdx_cons_zero, List.eraseIdx_cons_succ, List.cons_append, List.nil_append, putL_cons, putL_nil, List.set_cons_zero, List.set_cons_succ, Nat.reduceAdd] at h3
  ((try simp only [S, TY, reduceCtorEq, nq0, nq1, nq2, nq3, nq4, iq0, iq1, iq2, iq3, iq4, iq5, iq6, iq7, iq8]); (try (simp (disch := omega) only [W2, Int.cast_ofNat_Int]; (try simp only [S, TY, reduceCtorEq, nq0, nq1, nq2, nq3, nq4, iq0, iq1, iq2, iq3, iq4, iq5, iq6, iq7, iq8]))))
  exact fin_take (B := [_]) (nN_shut n hz (h3.fronts [3, 2, 2])) ⟨rfl, rfl⟩
theorem Find_nil {G : Hp} (k c : Int) : Con Try.prog G 79 [.pointer none, .int .i64 k, .int .i64 c] [] (fun r B => r = .int .i64 (-1) ∧ B = []) := by
  refine Con.intro Try.func79 rfl (Nat.le_of_ble_eq_true (by kernel_rfl)) (by kernel_rfl) Try.results79 ?_
  intro H h
  ((try simp only [S, TY, reduceCtorEq, nq0, nq1, nq2, nq3, nq4, iq0, iq1, iq2, iq3, iq4, iq5, iq6, iq7, iq8]); (try (simp (disch := omega) only [W2, Int.cast_ofNat_Int]; (try simp only [S, TY, reduceCtorEq, nq0, nq1, nq2, nq3, nq4, iq0, iq1, iq2, iq3, iq4, iq5, iq6, iq7, iq8]))))
  intro b4 hb4 hg4
  have h1 := h.new hb4 hg4 (.cells #[.int .i64 k] 3 (0, 0))
  ((try simp only [S, TY, reduceCtorEq, nq0, nq1, nq2, nq3, nq4, iq0, iq1, iq2, iq3, iq4, iq5, iq6, iq7, iq8]); (try (simp (disch := omega) only [W2, Int.cast_ofNat_Int]; (try simp only [S, TY, reduceCtorEq, nq0, nq1, nq2, nq3, nq4, iq0, iq1, iq2, iq3, iq4, iq5, iq6, iq7, iq8]))))
  intro b5 hb5 hg5
  have h2 := h1.new hb5 hg5 (.cells #[.int .i64 c] 3 (0, 0))
  ((try simp only [S, TY, reduceCtorEq, nq0, nq1, nq2, nq3, nq4, iq0, iq1, iq2, iq3, iq4, iq5, iq6, iq7, iq8]); (try (simp (disch := omega) only [W2, Int.cast_ofNat_Int]; (try simp only [S, TY, reduceCtorEq, nq0, nq1, nq2, nq3, nq4, iq0, iq1, iq2, iq3, iq4, iq5, iq6, iq7, iq8]))))
  exact fin_take (B := []) h2 ⟨rfl, rfl⟩
end Go.Proofs.Ytanhmbdcdbcfmaa.NtK
