/- Flows that are tracked: the laws' live question; acts. -/
import Derived.Test.YtanhmbdcdbcfmaaTkE
set_option linter.unusedVariables false
set_option linter.unusedSimpArgs false
set_option maxRecDepth 10000
set_option maxHeartbeats 2000000
namespace Go.Proofs.Ytanhmbdcdbcfmaa.TkL
open Nat renaming reduceEqDiff → nq0, reduceAdd → nq1, reduceLeDiff → nq2, reduceBEq → nq3, reduceMul → nq4
open Int renaming reduceBEq → iq0, reduceEq → iq1, reduceLT → iq2, reduceLE → iq3, reduceAdd → iq4, reduceSub → iq5, reduceMul → iq6, reduceToNat → iq7, cast_ofNat_Int → iq8
open Go Go.Sl Go.Proofs Go.Proofs.Ytanhmbdcdbcfmaa.SoI Go.Proofs.Ytanhmbdcdbcfmaa.Tk Go.Proofs.Ytanhmbdcdbcfmaa.TkO Go.Proofs.Ytanhmbdcdbcfmaa.TkP Go.Proofs.Ytanhmbdcdbcfmaa.TkQ Go.Proofs.Ytanhmbdcdbcfmaa.TkD Go.Proofs.Ytanhmbdcdbcfmaa.TkE
theorem TY : aggN Try.prog 3 = some none ∧
  aggN Try.prog 30 = some none ∧
  aggN Try.prog 164 = some none ∧
  aggN Try.prog 166 = some none ∧
  aggN Try.prog 170 = some none ∧
  aggN Try.prog 175 = some (some 5) ∧
  aggN Try.prog 177 = some (some 8) ∧
  aggN Try.prog 187 = some (some 6) ∧
  apI Try.prog 164 = some (177, 8, 72) ∧
  apI Try.prog 170 = some (187, 6, 40) ∧
  bIs Try.prog 175 = true ∧
  bIs Try.prog 177 = true ∧
  bIs Try.prog 187 = true ∧
  csz Try.prog 3 = some 1 ∧
  csz Try.prog 30 = some 1 ∧
  csz Try.prog 164 = some 1 ∧
  csz Try.prog 166 = some 1 ∧
  csz Try.prog 170 = some 1 ∧
  csz Try.prog 175 = some 5 ∧
  csz Try.prog 177 = some 8 ∧
  csz Try.prog 187 = some 6 ∧
  eqF Try.prog 175 = some [.i, .i, .i, .i, .i] ∧
  eqF Try.prog 187 = some [.i, .i, .i, .i, .i, .i] ∧
  fIs Try.prog 177 3 = true ∧
  fOff Try.prog 177 3 = 7 ∧
  fTy Try.prog 177 3 = 170 ∧
  goes Try.prog 85 = true ∧
  goes Try.prog 86 = true ∧
  goes Try.prog 88 = true ∧
  goes Try.prog 91 = true ∧
  goes Try.prog 93 = true ∧
  goes Try.prog 95 = true ∧
  inIs Try.prog 3 = some .i64 ∧
  inIs Try.prog 30 = some .i64 ∧
  plcs Try.prog 175 = [(0, 1), (1, 1), (2, 1), (3, 1), (4, 1)] ∧
  plcs Try.prog 177 = [(0, 1), (1, 5), (6, 1), (7, 1)] ∧
  plcs Try.prog 187 = [(0, 5), (5, 1)] ∧
  ptIs Try.prog 166 = true ∧
  slEl Try.prog 164 = 177 ∧
  slEl Try.prog 170 = 187 ∧
  slIs Try.prog 164 = true ∧
  slIs Try.prog 170 = true ∧
  slSz Try.prog 164 = 8 ∧
  slSz Try.prog 170 = 6 ∧
  zcs Try.prog 175 = [.int .i64 0, .int .u32 0, .int .u32 0, .int .i64 0, .int .i64 0] ∧
  zcs Try.prog 177 = [.int .u8 0, .int .i64 0, .int .u32 0, .int .u32 0, .int .i64 0, .int .i64 0, .int .i64 0, .slice none 0 0] ∧
  zcs Try.prog 187 = [.int .i64 0, .int .u32 0, .int .u32 0, .int .i64 0, .int .i64 0, .int .i64 0] ∧
  zro Try.prog 3 = some (.int .i64 0) ∧
  zro Try.prog 30 = some (.int .i64 0) ∧
  zro Try.prog 164 = some (.slice none 0 0) ∧
  zro Try.prog 166 = some (.pointer none) ∧
  zro Try.prog 170 = some (.slice none 0 0) ∧
  zro Try.prog 175 = some (.agg #[.int .i64 0, .int .u32 0, .int .u32 0, .int .i64 0, .int .i64 0]) ∧
  zro Try.prog 177 = some (.agg #[.int .u8 0, .int .i64 0, .int .u32 0, .int .u32 0, .int .i64 0, .int .i64 0, .int .i64 0, .slice none 0 0]) ∧
  zro Try.prog 187 = some (.agg #[.int .i64 0, .int .u32 0, .int .u32 0, .int .i64 0, .int .i64 0, .int .i64 0]) :=
  ⟨by kernel_rfl, by kernel_rfl, by kernel_rfl, by kernel_rfl, by kernel_rfl, by kernel_rfl, by kernel_rfl, by kernel_rfl, by kernel_rfl, by kernel_rfl, by kernel_rfl, by kernel_rfl, by kernel_rfl, by kernel_rfl, by kernel_rfl, by kernel_rfl, by kernel_rfl, by kernel_rfl, by kernel_rfl, by kernel_rfl, by kernel_rfl, by kernel_rfl, by kernel_rfl, by kernel_rfl, by kernel_rfl, by kernel_rfl, by kernel_rfl, by kernel_rfl, by kernel_rfl, by kernel_rfl, by kernel_rfl, by kernel_rfl, by kernel_rfl, by kernel_rfl, by kernel_rfl, by kernel_rfl, by kernel_rfl, by kernel_rfl, by kernel_rfl, by kernel_rfl, by kernel_rfl, by kernel_rfl, by kernel_rfl, by kernel_rfl, by kernel_rfl, by kernel_rfl, by kernel_rfl, by kernel_rfl, by kernel_rfl, by kernel_rfl, by kernel_rfl, by kernel_rfl, by kernel_rfl, by kernel_rfl, by kernel_rfl⟩
def D84_8 : List Note := Go.Sl.nn [0, 0, 0, 0, 0, 0, 0, 0, 0, 0, 0, 0, 0, 0, 0, 0, 0, 0, 1, 1, 0, 0, 0, 0, 0, 1, 3, 0, 0, 0] ++ ([(1, [26])] ++ (Go.Sl.nn [3, 0, 0, 0, 0, 0, 0, 0, 0] ++ ([(1, [26, 31])] ++ (Go.Sl.nn [3, 3, 0, 0]))))
theorem upd_len {x : Rc} : ∀ {l m : List Rc}, upd l x = some m → m.length = l.length
  | [], _, h => by cases h
  | y :: l, m, h => by
    unfold upd at h
    split at h
    · cases h; rfl
    · cases e : upd l x with
      | none => rw [e] at h; cases h
      | some m' => rw [e] at h; cases h; rw [List.length_cons, List.length_cons, upd_len e]
theorem put_16 {l : List Rc} (x : Rc) (h : l.length ≤ 16) : (put l x).1.length ≤ 16 := by
  unfold put
  split
  · rename_i m hm
    rw [upd_len hm]; exact h
  · split
    · exact h
    · rename_i g
      simp only [List.length_append, List.length_cons, List.length_nil]; omega
theorem live_16 {l : List Rc} (now : Int) (h : l.length ≤ 16) : (live l now).length ≤ 16 := Nat.le_trans (live_len l now) h
theorem note_16 {l : List Rc} (life : Int) (f : Fw) (now : Int) (h : l.length ≤ 16) : (note life l f now).1.length ≤ 16 := by
  unfold note
  split
  · exact put_16 _ (live_16 now h)
  · exact h
theorem fold_16 (now : Int) : ∀ (m : List Rc) (a : List Rc × Nat), a.1.length ≤ 16 → (m.foldl (istep now) a).1.length ≤ 16
  | [], _, h => h
  | x :: m, a, h => by
    refine fold_16 now m _ ?_
    unfold istep
    split
    · exact put_16 _ h
    · exact h
theorem imp_16 {l : List Rc} (now : Int) (m : List Rc) (h : l.length ≤ 16) : (imp l now m).1.length ≤ 16 := by
  unfold imp
  split
  · exact fold_16 now m _ (live_16 now h)
  · exact h
abbrev f0 : Fw := ⟨6, 1, 2, 3, 4⟩
theorem n1 : note 10 [] f0 5 = ([⟨f0, 15⟩], 0) := by decide
theorem n2 : note 10 [⟨f0, 15⟩] f0.back 9 = ([⟨f0, 19⟩], 0) := by decide
theorem n3 : live [⟨f0, 19⟩] 18 = [⟨f0, 19⟩] := by decide
theorem n4 : imp [] 18 [⟨f0, 19⟩] = ([⟨f0, 19⟩], 1) := by decide
theorem n5 : known [⟨f0, 19⟩] f0 18 = true := by decide
theorem n6 : known [⟨f0, 19⟩] f0 19 = false := by decide
theorem n7 : known [⟨f0, 19⟩] f0.back 18 = true := by decide
theorem alive {G : Hp} : Con Try.prog G 84 [] [] (fun r B => r = .bool true ∧ B = []) := by
  refine Con.intro Try.func84 rfl (Nat.le_of_ble_eq_true (by kernel_rfl)) (by kernel_rfl) Try.results84 ?_
  intro H h
  ((try simp only [S, TY, reduceCtorEq, nq0, nq1, nq2, nq3, nq4, iq0, iq1, iq2, iq3, iq4, iq5, iq6, iq7, iq8]); (try (simp (disch := omega) only [W2, Int.cast_ofNat_Int]; (try simp only [S, TY, reduceCtorEq, nq0, nq1, nq2, nq3, nq4, iq0, iq1, iq2, iq3, iq4, iq5, iq6, iq7, iq8]))); repeat ((first | (refine cl_drawi 8 D84_8 (List.range 45) (by decide) (by kernel_rfl) ?_; unfold D84_8)); simp only [S, TY, reduceCtorEq, nq0, nq1, nq2, nq3, nq4, iq0, iq1, iq2, iq3, iq4, iq5, iq6, iq7, iq8]; (try (simp (disch := omega) only [W2, Int.cast_ofNat_Int]; (try simp only [S, TY, reduceCtorEq, nq0, nq1, nq2, nq3, nq4, iq0, iq1, iq2, iq3, iq4, iq5, iq6, iq7, iq8])))))
  refine (New_ok 10 (by omega) (by omega)).at_ h [] _ rfl fun r B H1 hr h1 => ?_
  obtain ⟨p, rfl, rfl⟩ := hr
  ((try simp only [S, TY, reduceCtorEq, nq0, nq1, nq2, nq3, nq4, iq0, iq1, iq2, iq3, iq4, iq5, iq6, iq7, iq8]); (try (simp (disch := omega) only [W2, Int.cast_ofNat_Int]; (try simp only [S, TY, reduceCtorEq, nq0, nq1, nq2, nq3, nq4, iq0, iq1, iq2, iq3, iq4, iq5, iq6, iq7, iq8]))); repeat ((first | (refine cl_drawi 8 D84_8 (List.range 45) (by decide) (by kernel_rfl) ?_; unfold D84_8)); simp only [S, TY, reduceCtorEq, nq0, nq1, nq2, nq3, nq4, iq0, iq1, iq2, iq3, iq4, iq5, iq6, iq7, iq8]; (try (simp (disch := omega) only [W2, Int.cast_ofNat_Int]; (try simp only [S, TY, reduceCtorEq, nq0, nq1, nq2, nq3, nq4, iq0, iq1, iq2, iq3, iq4, iq5, iq6, iq7, iq8])))))
  intro q hq hg
  have h2 := h1.new hq hg (.cells (Fw.l ⟨0, 0, 0, 0, 0⟩).toArray 175 (0, 0))
  ((try simp only [S, TY, reduceCtorEq, nq0, nq1, nq2, nq3, nq4, iq0, iq1, iq2, iq3, iq4, iq5, iq6, iq7, iq8]); (try (simp (disch := omega) only [W2, Int.cast_ofNat_Int]; (try simp only [S, TY, reduceCtorEq, nq0, nq1, nq2, nq3, nq4, iq0, iq1, iq2, iq3, iq4, iq5, iq6, iq7, iq8]))); repeat ((first | (refine cl_drawi 8 D84_8 (List.range 45) (by decide) (by kernel_rfl) ?_; unfold D84_8)); simp only [S, TY, reduceCtorEq, nq0, nq1, nq2, nq3, nq4, iq0, iq1, iq2, iq3, iq4, iq5, iq6, iq7, iq8]; (try (simp (disch := omega) only [W2, Int.cast_ofNat_Int]; (try simp only [S, TY, reduceCtorEq, nq0, nq1, nq2, nq3, nq4, iq0, iq1, iq2, iq3, iq4, iq5, iq6, iq7, iq8])))))
  refine sg.st h2 rfl rfl fun H3 h3 => ?_
  simp only [front_eq, fronts_nil, fronts_cons, List.getElem?_cons_zero, List.getElem?_cons_succ, List.eraseIdx_cons_zero, List.eraseIdx_cons_succ, List.cons_append, List.nil_append, putL_cons, putL_nil, List.set_cons_zero, List.set_cons_succ, Nat.reduceAdd] at h3
  have w3 := h3.li 0 rfl
  ((try simp only [S, TY, reduceCtorEq, nq0, nq1, nq2, nq3, nq4, iq0, iq1, iq2, iq3, iq4, iq5, iq6, iq7, iq8, w3]); (try (simp (disch := omega) only [W2, Int.cast_ofNat_Int]; (try simp only [S, TY, reduceCtorEq, nq0, nq1, nq2, nq3, nq4, iq0, iq1, iq2, iq3, iq4, iq5, iq6, iq7, iq8, w3]))); repeat ((first | (refine cl_drawi 8 D84_8 (List.range 45) (by decide) (by kernel_rfl) ?_; unfold D84_8)); simp only [S, TY, reduceCtorEq, nq0, nq1, nq2, nq3, nq4, iq0, iq1, iq2, iq3, iq4, iq5, iq6, iq7, iq8, w3]; (try (simp (disch := omega) only [W2, Int.cast_ofNat_Int]; (try simp only [S, TY, reduceCtorEq, nq0, nq1, nq2, nq3, nq4, iq0, iq1, iq2, iq3, iq4, iq5, iq6, iq7, iq8, w3])))))
  refine (Note_ok f0 5 (by omega) (by omega) (by simp)).at_ h3 [1] _ rfl fun r B H4 hr h4 => ?_
  obtain ⟨rfl, rfl⟩ := hr
  rw [n1] at h4 ⊢
  simp only [front_eq, fronts_nil, fronts_cons, List.getElem?_cons_zero, List.getElem?_cons_succ, List.eraseIdx_cons_zero, List.eraseIdx_cons_succ, List.cons_append, List.nil_append, putL_cons, putL_nil, List.set_cons_zero, List.set_cons_succ, Nat.reduceAdd] at h4
  have w4 := h4.li 1 rfl
  ((try simp only [S, TY, reduceCtorEq, nq0, nq1, nq2, nq3, nq4, iq0, iq1, iq2, iq3, iq4, iq5, iq6, iq7, iq8, w4]); (try (simp (disch := omega) only [W2, Int.cast_ofNat_Int]; (try simp only [S, TY, reduceCtorEq, nq0, nq1, nq2, nq3, nq4, iq0, iq1, iq2, iq3, iq4, iq5, iq6, iq7, iq8, w4]))); repeat ((first | (refine cl_drawi 8 D84_8 (List.range 45) (by decide) (by kernel_rfl) ?_; unfold D84_8)); simp only [S, TY, reduceCtorEq, nq0, nq1, nq2, nq3, nq4, iq0, iq1, iq2, iq3, iq4, iq5, iq6, iq7, iq8, w4]; (try (simp (disch := omega) only [W2, Int.cast_ofNat_Int]; (try simp only [S, TY, reduceCtorEq, nq0, nq1, nq2, nq3, nq4, iq0, iq1, iq2, iq3, iq4, iq5, iq6, iq7, iq8, w4])))))
  refine (dBack_ok f0).at_ h4 [] _ rfl fun r B H5 hr h5 => ?_
  obtain ⟨rfl, rfl⟩ := hr
  ((try simp only [S, TY, reduceCtorEq, nq0, nq1, nq2, nq3, nq4, iq0, iq1, iq2, iq3, iq4, iq5, iq6, iq7, iq8]); (try (simp (disch := omega) only [W2, Int.cast_ofNat_Int]; (try simp only [S, TY, reduceCtorEq, nq0, nq1, nq2, nq3, nq4, iq0, iq1, iq2, iq3, iq4, iq5, iq6, iq7, iq8]))); repeat ((first | (refine cl_drawi 8 D84_8 (List.range 45) (by decide) (by kernel_rfl) ?_; unfold D84_8)); simp only [S, TY, reduceCtorEq, nq0, nq1, nq2, nq3, nq4, iq0, iq1, iq2, iq3, iq4, iq5, iq6, iq7, iq8]; (try (simp (disch := omega) only [W2, Int.cast_ofNat_Int]; (try simp only [S, TY, reduceCtorEq, nq0, nq1, nq2, nq3, nq4, iq0, iq1, iq2, iq3, iq4, iq5, iq6, iq7, iq8])))))
  refine (Note_ok f0.back 9 (by omega) (by omega) (by simp)).at_ h5 [0] _ rfl fun r B H6 hr h6 => ?_
  obtain ⟨rfl, rfl⟩ := hr
  rw [n2] at h6 ⊢
  ((try simp only [S, TY, reduceCtorEq, nq0, nq1, nq2, nq3, nq4, iq0, iq1, iq2, iq3, iq4, iq5, iq6, iq7, iq8]); (try (simp (disch := omega) only [W2, Int.cast_ofNat_Int]; (try simp only [S, TY, reduceCtorEq, nq0, nq1, nq2, nq3, nq4, iq0, iq1, iq2, iq3, iq4, iq5, iq6, iq7, iq8]))); repeat ((first | (refine cl_drawi 8 D84_8 (List.range 45) (by decide) (by kernel_rfl) ?_; unfold D84_8)); simp only [S, TY, reduceCtorEq, nq0, nq1, nq2, nq3, nq4, iq0, iq1, iq2, iq3, iq4, iq5, iq6, iq7, iq8]; (try (simp (disch := omega) only [W2, Int.cast_ofNat_Int]; (try simp only [S, TY, reduceCtorEq, nq0, nq1, nq2, nq3, nq4, iq0, iq1, iq2, iq3, iq4, iq5, iq6, iq7, iq8])))))
  refine (Records_ok (now := 18) (by simp)).at_ h6 [0] _ rfl fun r B H7 hr h7 => ?_
  subst hr
  rw [n3] at h7
  obtain ⟨ra, rn, rc, rfl, e1, _⟩ := h7.sl 0 rfl Rd_own
  rw [flat_len Rc.len] at e1
  obtain rfl : 1 = rn := by simp at e1; omega
  simp only [front_eq, fronts_nil, fronts_cons, List.getElem?_cons_zero, List.getElem?_cons_succ, List.eraseIdx_cons_zero, List.eraseIdx_cons_succ, List.cons_append, List.nil_append, putL_cons, putL_nil, List.set_cons_zero, List.set_cons_succ, Nat.reduceAdd] at h7
  ((try simp only [S, TY, reduceCtorEq, nq0, nq1, nq2, nq3, nq4, iq0, iq1, iq2, iq3, iq4, iq5, iq6, iq7, iq8]); (try (simp (disch := omega) only [W2, Int.cast_ofNat_Int]; (try simp only [S, TY, reduceCtorEq, nq0, nq1, nq2, nq3, nq4, iq0, iq1, iq2, iq3, iq4, iq5, iq6, iq7, iq8]))); repeat ((first | (refine cl_drawi 8 D84_8 (List.range 45) (by decide) (by kernel_rfl) ?_; unfold D84_8)); simp only [S, TY, reduceCtorEq, nq0, nq1, nq2, nq3, nq4, iq0, iq1, iq2, iq3, iq4, iq5, iq6, iq7, iq8]; (try (simp (disch := omega) only [W2, Int.cast_ofNat_Int]; (try simp only [S, TY, reduceCtorEq, nq0, nq1, nq2, nq3, nq4, iq0, iq1, iq2, iq3, iq4, iq5, iq6, iq7, iq8])))))
  refine (New_ok 1 (by omega) (by omega)).at_ h7 [] _ rfl fun r B H8 hr h8 => ?_
  obtain ⟨p2, rfl, rfl⟩ := hr
  simp only [front_eq, fronts_nil, fronts_cons, List.getElem?_cons_zero, List.getElem?_cons_succ, List.eraseIdx_cons_zero, List.eraseIdx_cons_succ, List.cons_append, List.nil_append, putL_cons, putL_nil, List.set_cons_zero, List.set_cons_succ, Nat.reduceAdd] at h8
  ((try simp only [S, TY, reduceCtorEq, nq0, nq1, nq2, nq3, nq4, iq0, iq1, iq2, iq3, iq4, iq5, iq6, iq7, iq8]); (try (simp (disch := omega) only [W2, Int.cast_ofNat_Int]; (try simp only [S, TY, reduceCtorEq, nq0, nq1, nq2, nq3, nq4, iq0, iq1, iq2, iq3, iq4, iq5, iq6, iq7, iq8]))); repeat ((first | (refine cl_drawi 8 D84_8 (List.range 45) (by decide) (by kernel_rfl) ?_; unfold D84_8)); simp only [S, TY, reduceCtorEq, nq0, nq1, nq2, nq3, nq4, iq0, iq1, iq2, iq3, iq4, iq5, iq6, iq7, iq8]; (try (simp (disch := omega) only [W2, Int.cast_ofNat_Int]; (try simp only [S, TY, reduceCtorEq, nq0, nq1, nq2, nq3, nq4, iq0, iq1, iq2, iq3, iq4, iq5, iq6, iq7, iq8])))))
  refine Con.lend_at [tT p2 1 []] [own 187 6 _ ([(⟨f0, 19⟩ : Rc)].flatMap Rc.l)] h8 [0, 0] rfl (fun F hF hs => Import_ok 18 (seps_own hs 0 rfl).left (by simp) (by simp)) (fun r B H9 hr h9 => ?_)
  obtain ⟨rfl, rfl⟩ := hr
  rw [n4] at h9 ⊢
  simp only [front_eq, fronts_nil, fronts_cons, List.getElem?_cons_zero, List.getElem?_cons_succ, List.eraseIdx_cons_zero, List.eraseIdx_cons_succ, List.cons_append, List.nil_append, putL_cons, putL_nil, List.set_cons_zero, List.set_cons_succ, Nat.reduceAdd] at h9
  obtain ⟨b, off, hl', rfl, hcc, hld⟩ := (h9.rdsi 1 rfl Rd_own).el Rc.len (i := 0) (by simp) (by omega)
  simp only [List.getElem_cons_zero, Nat.zero_mul, Nat.add_zero] at hld
  have w9 := h9.li 3 rfl
  ((try simp only [S, TY, reduceCtorEq, nq0, nq1, nq2, nq3, nq4, iq0, iq1, iq2, iq3, iq4, iq5, iq6, iq7, iq8, hld, w9]); (try (simp (disch := omega) only [W2, Int.cast_ofNat_Int]; (try simp only [S, TY, reduceCtorEq, nq0, nq1, nq2, nq3, nq4, iq0, iq1, iq2, iq3, iq4, iq5, iq6, iq7, iq8, hld, w9]))); repeat ((first | (refine cl_drawi 8 D84_8 (List.range 45) (by decide) (by kernel_rfl) ?_; unfold D84_8)); simp only [S, TY, reduceCtorEq, nq0, nq1, nq2, nq3, nq4, iq0, iq1, iq2, iq3, iq4, iq5, iq6, iq7, iq8, hld, w9]; (try (simp (disch := omega) only [W2, Int.cast_ofNat_Int]; (try simp only [S, TY, reduceCtorEq, nq0, nq1, nq2, nq3, nq4, iq0, iq1, iq2, iq3, iq4, iq5, iq6, iq7, iq8, hld, w9])))))
  refine (Known_ok f0 18 (by simp)).at_ h9 [2] _ rfl fun r B H10 hr h10 => ?_
  obtain ⟨rfl, rfl⟩ := hr
  rw [n5]
  simp only [front_eq, fronts_nil, fronts_cons, List.getElem?_cons_zero, List.getElem?_cons_succ, List.eraseIdx_cons_zero, List.eraseIdx_cons_succ, List.cons_append, List.nil_append, putL_cons, putL_nil, List.set_cons_zero, List.set_cons_succ, Nat.reduceAdd] at h10
  obtain ⟨b', off', hl', hz, hcc, hld2⟩ := (h10.rdsi 2 rfl Rd_own).el Rc.len (i := 0) (by simp) (by omega)
  cases hz
  simp only [List.getElem_cons_zero, Nat.zero_mul, Nat.add_zero] at hld2
  have w10 := h10.li 3 rfl
  ((try simp only [S, TY, reduceCtorEq, nq0, nq1, nq2, nq3, nq4, iq0, iq1, iq2, iq3, iq4, iq5, iq6, iq7, iq8, hld, w9, hld2, w10]); (try (simp (disch := omega) only [W2, Int.cast_ofNat_Int]; (try simp only [S, TY, reduceCtorEq, nq0, nq1, nq2, nq3, nq4, iq0, iq1, iq2, iq3, iq4, iq5, iq6, iq7, iq8, hld, w9, hld2, w10]))); repeat ((first | (refine cl_drawi 8 D84_8 (List.range 45) (by decide) (by kernel_rfl) ?_; unfold D84_8)); simp only [S, TY, reduceCtorEq, nq0, nq1, nq2, nq3, nq4, iq0, iq1, iq2, iq3, iq4, iq5, iq6, iq7, iq8, hld, w9, hld2, w10]; (try (simp (disch := omega) only [W2, Int.cast_ofNat_Int]; (try simp only [S, TY, reduceCtorEq, nq0, nq1, nq2, nq3, nq4, iq0, iq1, iq2, iq3, iq4, iq5, iq6, iq7, iq8, hld, w9, hld2, w10])))))
  refine (Known_ok f0 19 (by simp)).at_ h10 [0] _ rfl fun r B H11 hr h11 => ?_
  obtain ⟨rfl, rfl⟩ := hr
  rw [n6]
  simp only [front_eq, fronts_nil, fronts_cons, List.getElem?_cons_zero, List.getElem?_cons_succ, List.eraseIdx_cons_zero, List.eraseIdx_cons_succ, List.cons_append, List.nil_append, putL_cons, putL_nil, List.set_cons_zero, List.set_cons_succ, Nat.reduceAdd] at h11
  obtain ⟨b', off', hl', hz, hcc, hld3⟩ := (h11.rdsi 2 rfl Rd_own).el Rc.len (i := 0) (by simp) (by omega)
  cases hz
  simp only [List.getElem_cons_zero, Nat.zero_mul, Nat.add_zero] at hld3
  have w11 := h11.li 3 rfl
  ((try simp only [S, TY, reduceCtorEq, nq0, nq1, nq2, nq3, nq4, iq0, iq1, iq2, iq3, iq4, iq5, iq6, iq7, iq8, hld, w9, hld2, w10, hld3, w11]); (try (simp (disch := omega) only [W2, Int.cast_ofNat_Int]; (try simp only [S, TY, reduceCtorEq, nq0, nq1, nq2, nq3, nq4, iq0, iq1, iq2, iq3, iq4, iq5, iq6, iq7, iq8, hld, w9, hld2, w10, hld3, w11]))); repeat ((first | (refine cl_drawi 8 D84_8 (List.range 45) (by decide) (by kernel_rfl) ?_; unfold D84_8)); simp only [S, TY, reduceCtorEq, nq0, nq1, nq2, nq3, nq4, iq0, iq1, iq2, iq3, iq4, iq5, iq6, iq7, iq8, hld, w9, hld2, w10, hld3, w11]; (try (simp (disch := omega) only [W2, Int.cast_ofNat_Int]; (try simp only [S, TY, reduceCtorEq, nq0, nq1, nq2, nq3, nq4, iq0, iq1, iq2, iq3, iq4, iq5, iq6, iq7, iq8, hld, w9, hld2, w10, hld3, w11])))))
  refine (dBack_ok f0).at_ h11 [] _ rfl fun r B H12 hr h12 => ?_
  obtain ⟨rfl, rfl⟩ := hr
  have w12 := h12.li 3 rfl
  ((try simp only [S, TY, reduceCtorEq, nq0, nq1, nq2, nq3, nq4, iq0, iq1, iq2, iq3, iq4, iq5, iq6, iq7, iq8, hld, w9, hld2, w10, hld3, w11, w12]); (try (simp (disch := omega) only [W2, Int.cast_ofNat_Int]; (try simp only [S, TY, reduceCtorEq, nq0, nq1, nq2, nq3, nq4, iq0, iq1, iq2, iq3, iq4, iq5, iq6, iq7, iq8, hld, w9, hld2, w10, hld3, w11, w12]))); repeat ((first | (refine cl_drawi 8 D84_8 (List.range 45) (by decide) (by kernel_rfl) ?_; unfold D84_8)); simp only [S, TY, reduceCtorEq, nq0, nq1, nq2, nq3, nq4, iq0, iq1, iq2, iq3, iq4, iq5, iq6, iq7, iq8, hld, w9, hld2, w10, hld3, w11, w12]; (try (simp (disch := omega) only [W2, Int.cast_ofNat_Int]; (try simp only [S, TY, reduceCtorEq, nq0, nq1, nq2, nq3, nq4, iq0, iq1, iq2, iq3, iq4, iq5, iq6, iq7, iq8, hld, w9, hld2, w10, hld3, w11, w12])))))
  refine (Known_ok f0.back 18 (by simp)).at_ h12 [1] _ rfl fun r B H13 hr h13 => ?_
  obtain ⟨rfl, rfl⟩ := hr
  rw [n7]
  ((try simp only [S, TY, reduceCtorEq, nq0, nq1, nq2, nq3, nq4, iq0, iq1, iq2, iq3, iq4, iq5, iq6, iq7, iq8, hld, w9, hld2, w10, hld3, w11, w12]); (try (simp (disch := omega) only [W2, Int.cast_ofNat_Int]; (try simp only [S, TY, reduceCtorEq, nq0, nq1, nq2, nq3, nq4, iq0, iq1, iq2, iq3, iq4, iq5, iq6, iq7, iq8, hld, w9, hld2, w10, hld3, w11, w12]))); repeat ((first | (refine cl_drawi 8 D84_8 (List.range 45) (by decide) (by kernel_rfl) ?_; unfold D84_8)); simp only [S, TY, reduceCtorEq, nq0, nq1, nq2, nq3, nq4, iq0, iq1, iq2, iq3, iq4, iq5, iq6, iq7, iq8, hld, w9, hld2, w10, hld3, w11, w12]; (try (simp (disch := omega) only [W2, Int.cast_ofNat_Int]; (try simp only [S, TY, reduceCtorEq, nq0, nq1, nq2, nq3, nq4, iq0, iq1, iq2, iq3, iq4, iq5, iq6, iq7, iq8, hld, w9, hld2, w10, hld3, w11, w12])))))
  exact fin_take (B := []) h13 ⟨rfl, rfl⟩
abbrev FLT : Ty := .st (.pr (.int .i64) (.pr (.int .u32) (.pr (.int .u32) (.pr (.int .i64) (.pr (.int .i64) .un)))))
abbrev RCT : Ty := .st (.pr FLT (.pr (.int .i64) .un))
abbrev AT : Ty := .st (.pr (.int .u8) (.pr FLT (.pr (.int .i64) (.pr (.sl RCT) .un))))
abbrev Acts (G : Hp) (v : Value) (l : List AT.den) : Prop := rdl G 8 (AT.R G) v l
def toFw (x : FLT.den) : Fw := ⟨x.1, x.2.1, x.2.2.1, x.2.2.2.1, x.2.2.2.2.1⟩
def toRc (x : RCT.den) : Rc := ⟨toFw x.1, x.2.1⟩
theorem toFw_l {G : Hp} (cs : List Value) (x : FLT.den) (h : FLT.R G cs x) : cs = Fw.l (toFw x) := by
  obtain ⟨_, _, rfl, -, ⟨rfl, -⟩, _, _, rfl, -, ⟨rfl, -⟩, _, _, rfl, -, ⟨rfl, -⟩, _, _, rfl, -, ⟨rfl, -⟩, _, _, rfl, -, ⟨rfl, -⟩, rfl⟩ := h
  rfl
theorem toRc_l {G : Hp} (cs : List Value) (x : RCT.den) (h : RCT.R G cs x) : cs = Rc.l (toRc x) := by
  obtain ⟨_, _, rfl, -, h1, _, _, rfl, -, ⟨rfl, -⟩, rfl⟩ := h
  rw [toFw_l _ _ h1]; rfl
/-- An act, taken apart. -/
theorem act_l {G : Hp} {cs : List Value} {x : AT.den} (h : AT.R G cs x) : ∃ (k : Int) (f : Fw) (now : Int) (w : Value) (m : List Rc), cs = [.int .u8 k, .int .i64 f.p, .int .u32 f.s, .int .u32 f.d, .int .i64 f.a, .int .i64 f.b, .int .i64 now, w] ∧ rcs G w m ∧ m.length = x.2.2.2.1.length := by
  obtain ⟨_, _, rfl, -, ⟨rfl, -⟩, _, _, rfl, -, h1, _, _, rfl, -, ⟨rfl, -⟩, _, _, rfl, -, ⟨w, rfl, hb⟩, rfl⟩ := h
  refine ⟨x.1, toFw x.2.1, x.2.2.1, w, x.2.2.2.1.map toRc, ?_, rdl_map toRc_l hb, by simp⟩
  rw [toFw_l _ _ h1]; rfl
theorem fits {G : Hp} {v : Value} {l : List AT.den} (hv : Acts G v l) : Con Try.prog G 83 [v] [] (fun r B => ∃ b : Bool, r = .bool b ∧ B = [] ∧ (b = true → l.length ≤ 60 ∧ ∀ x ∈ l, x.2.2.2.1.length ≤ 60)) := by
  refine Con.intro Try.func83 rfl (Nat.le_of_ble_eq_true (by kernel_rfl)) (by kernel_rfl) Try.results83 ?_
  intro H hH
  obtain ⟨a, n, c, rfl, e1, e2⟩ := hv.shape (by decide)
  ((try simp only [S, TY, reduceCtorEq, nq0, nq1, nq2, nq3, nq4, iq0, iq1, iq2, iq3, iq4, iq5, iq6, iq7, iq8]); (try (simp (disch := omega) only [W2, Int.cast_ofNat_Int]; (try simp only [S, TY, reduceCtorEq, nq0, nq1, nq2, nq3, nq4, iq0, iq1, iq2, iq3, iq4, iq5, iq6, iq7, iq8]))))
  refine cl_loop (fun i e H => i ≤ n ∧ i ≤ 61 ∧ e 0 = .slice a n c ∧ e 3 = .int .i64 i ∧ (∀ (j : Nat) (x : AT.den), j < i → l[j]? = some x → x.2.2.2.1.length ≤ 60) ∧ sg G [] H) (fun i => n - i) 0
    ⟨by omega, by omega, rfl, rfl, fun j x hj => by omega, hH⟩ ?_
  rintro i e H ⟨q1, q2, q3, q4, q7, hH⟩
  by_cases g1 : (i : Int) < n ∧ (i : Int) ≤ 60
  · obtain ⟨b, off, cs, hl, rfl, hQ, _, hc, _⟩ := (hH.rol hv).at (by decide) (i := i) (by omega)
    obtain ⟨k, f, now, w, m, rfl, hb, hml⟩ := act_l hQ
    obtain ⟨wa, wn, wc, rfl, f1, f2⟩ := hb.slice
    rw [flat_len Rc.len] at f1
    have d1 := hc 7 (by decide)
    simp only [List.getElem?_cons_zero, List.getElem?_cons_succ] at d1
    have g0 : (0 : Int) ≤ i ∧ (i : Int) < n := ⟨by omega, g1.1⟩
    ((try simp only [S, TY, reduceCtorEq, nq0, nq1, nq2, nq3, nq4, iq0, iq1, iq2, iq3, iq4, iq5, iq6, iq7, iq8, q3, q4, g1, g0, d1]); (try (simp (disch := omega) only [W2, Int.cast_ofNat_Int]; (try simp only [S, TY, reduceCtorEq, nq0, nq1, nq2, nq3, nq4, iq0, iq1, iq2, iq3, iq4, iq5, iq6, iq7, iq8, q3, q4, g1, g0, d1]))))
    refine Gate.intro (fun g => ?_) (fun g => ?_)
    · ((try simp only [S, TY, reduceCtorEq, nq0, nq1, nq2, nq3, nq4, iq0, iq1, iq2, iq3, iq4, iq5, iq6, iq7, iq8, q3, q4]); (try (simp (disch := omega) only [W2, Int.cast_ofNat_Int]; (try simp only [S, TY, reduceCtorEq, nq0, nq1, nq2, nq3, nq4, iq0, iq1, iq2, iq3, iq4, iq5, iq6, iq7, iq8, q3, q4]))))
      exact fin_ret hH ⟨false, rfl, rfl, fun h => by cases h⟩
    · ((try simp only [S, TY, reduceCtorEq, nq0, nq1, nq2, nq3, nq4, iq0, iq1, iq2, iq3, iq4, iq5, iq6, iq7, iq8, q3, q4, g1, g0, d1]); (try (simp (disch := omega) only [W2, Int.cast_ofNat_Int]; (try simp only [S, TY, reduceCtorEq, nq0, nq1, nq2, nq3, nq4, iq0, iq1, iq2, iq3, iq4, iq5, iq6, iq7, iq8, q3, q4, g1, g0, d1]))))
      refine .go (i + 1) (by omega) ⟨by omega, by omega, q3, rfl, fun j x hj hx => ?_, hH⟩
      by_cases hji : j = i
      · subst hji
        rw [List.getElem?_eq_getElem hl] at hx
        cases hx
        omega
      · exact q7 j x (by omega) hx
  · by_cases g2 : (i : Int) < n
    · have g3 : ¬ (i : Int) ≤ 60 := fun h => g1 ⟨g2, h⟩
      have g4 : ¬ (n : Int) ≤ 60 := by omega
      ((try simp only [S, TY, reduceCtorEq, nq0, nq1, nq2, nq3, nq4, iq0, iq1, iq2, iq3, iq4, iq5, iq6, iq7, iq8, q3, q4, g2, g3, g4]); (try (simp (disch := omega) only [W2, Int.cast_ofNat_Int]; (try simp only [S, TY, reduceCtorEq, nq0, nq1, nq2, nq3, nq4, iq0, iq1, iq2, iq3, iq4, iq5, iq6, iq7, iq8, q3, q4, g2, g3, g4]))))
      exact fin_ret hH ⟨false, rfl, rfl, fun h => by cases h⟩
    · ((try simp only [S, TY, reduceCtorEq, nq0, nq1, nq2, nq3, nq4, iq0, iq1, iq2, iq3, iq4, iq5, iq6, iq7, iq8, q3, q4, g2]); (try (simp (disch := omega) only [W2, Int.cast_ofNat_Int]; (try simp only [S, TY, reduceCtorEq, nq0, nq1, nq2, nq3, nq4, iq0, iq1, iq2, iq3, iq4, iq5, iq6, iq7, iq8, q3, q4, g2]))))
      by_cases g3 : (n : Int) ≤ 60
      · ((try simp only [S, TY, reduceCtorEq, nq0, nq1, nq2, nq3, nq4, iq0, iq1, iq2, iq3, iq4, iq5, iq6, iq7, iq8, q3, q4, g2, g3]); (try (simp (disch := omega) only [W2, Int.cast_ofNat_Int]; (try simp only [S, TY, reduceCtorEq, nq0, nq1, nq2, nq3, nq4, iq0, iq1, iq2, iq3, iq4, iq5, iq6, iq7, iq8, q3, q4, g2, g3]))))
        exact fin_ret hH ⟨_, rfl, rfl, fun _ => ⟨by omega, fun x hx => by obtain ⟨j, hj⟩ := List.getElem?_of_mem hx; exact q7 j x (by have := (List.getElem?_eq_some_iff.1 hj).1; omega) hj⟩⟩
      · ((try simp only [S, TY, reduceCtorEq, nq0, nq1, nq2, nq3, nq4, iq0, iq1, iq2, iq3, iq4, iq5, iq6, iq7, iq8, q3, q4, g2, g3]); (try (simp (disch := omega) only [W2, Int.cast_ofNat_Int]; (try simp only [S, TY, reduceCtorEq, nq0, nq1, nq2, nq3, nq4, iq0, iq1, iq2, iq3, iq4, iq5, iq6, iq7, iq8, q3, q4, g2, g3]))))
        exact fin_ret hH ⟨false, rfl, rfl, fun h => by cases h⟩
end Go.Proofs.Ytanhmbdcdbcfmaa.TkL
