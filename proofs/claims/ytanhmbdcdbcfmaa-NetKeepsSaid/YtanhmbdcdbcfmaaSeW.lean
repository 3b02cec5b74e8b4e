/- session's window, and what goes out, over the machine. -/
import Derived.Test.YtanhmbdcdbcfmaaSeN
import Derived.Test.YtanhmbdcdbcfmaaSeT
set_option linter.unusedVariables false
set_option linter.unusedSimpArgs false
set_option maxRecDepth 10000
set_option maxHeartbeats 4000000
namespace Go.Proofs.Ytanhmbdcdbcfmaa.SeW
open Nat renaming reduceEqDiff → nq0, reduceAdd → nq1, reduceLeDiff → nq2, reduceBEq → nq3, reduceMul → nq4
open Int renaming reduceBEq → iq0, reduceEq → iq1, reduceLT → iq2, reduceLE → iq3, reduceAdd → iq4, reduceSub → iq5, reduceMul → iq6, reduceToNat → iq7, cast_ofNat_Int → iq8
open Go Go.Sl Go.Proofs Go.Proofs.Ytanhmbdcdbcfmaa.Buf Go.Proofs.Ytanhmbdcdbcfmaa.BufRd Go.Proofs.Ytanhmbdcdbcfmaa.BufRe Go.Proofs.Ytanhmbdcdbcfmaa.BufP Go.Proofs.Ytanhmbdcdbcfmaa.SeP Go.Proofs.Ytanhmbdcdbcfmaa.Se Go.Proofs.Ytanhmbdcdbcfmaa.SeS
theorem TY : aggN Try.prog 3 = some none ∧
  aggN Try.prog 5 = some none ∧
  aggN Try.prog 24 = some none ∧
  aggN Try.prog 62 = some (some 5) ∧
  aggN Try.prog 78 = some none ∧
  aggN Try.prog 95 = some none ∧
  aggN Try.prog 115 = some none ∧
  aggN Try.prog 240 = some (some 5) ∧
  apI Try.prog 24 = some (5, 1, 1) ∧
  apI Try.prog 95 = some (62, 5, 56) ∧
  apI Try.prog 115 = some (24, 1, 24) ∧
  bIs Try.prog 62 = true ∧
  bIs Try.prog 240 = true ∧
  bySl Try.prog 24 = true ∧
  csz Try.prog 3 = some 1 ∧
  csz Try.prog 5 = some 1 ∧
  csz Try.prog 24 = some 1 ∧
  csz Try.prog 62 = some 5 ∧
  csz Try.prog 78 = some 1 ∧
  csz Try.prog 95 = some 1 ∧
  csz Try.prog 115 = some 1 ∧
  csz Try.prog 240 = some 5 ∧
  fIs Try.prog 240 0 = true ∧
  fIs Try.prog 240 1 = true ∧
  fIs Try.prog 240 2 = true ∧
  fIs Try.prog 240 3 = true ∧
  fIs Try.prog 240 4 = true ∧
  fOff Try.prog 240 0 = 0 ∧
  fOff Try.prog 240 1 = 1 ∧
  fOff Try.prog 240 2 = 2 ∧
  fOff Try.prog 240 3 = 3 ∧
  fOff Try.prog 240 4 = 4 ∧
  fTy Try.prog 240 0 = 3 ∧
  fTy Try.prog 240 1 = 3 ∧
  fTy Try.prog 240 2 = 115 ∧
  fTy Try.prog 240 3 = 3 ∧
  fTy Try.prog 240 4 = 3 ∧
  goes Try.prog 102 = true ∧
  goes Try.prog 136 = true ∧
  goes Try.prog 181 = true ∧
  inIs Try.prog 3 = some .i64 ∧
  inIs Try.prog 5 = some .u8 ∧
  plcs Try.prog 62 = [(0, 1), (1, 1), (2, 1), (3, 1), (4, 1)] ∧
  plcs Try.prog 240 = [(0, 1), (1, 1), (2, 1), (3, 1), (4, 1)] ∧
  ptIs Try.prog 78 = true ∧
  slEl Try.prog 24 = 5 ∧
  slEl Try.prog 95 = 62 ∧
  slEl Try.prog 115 = 24 ∧
  slIs Try.prog 24 = true ∧
  slIs Try.prog 95 = true ∧
  slIs Try.prog 115 = true ∧
  slSz Try.prog 24 = 1 ∧
  slSz Try.prog 95 = 5 ∧
  slSz Try.prog 115 = 1 ∧
  zcs Try.prog 62 = [.int .i64 0, .int .i64 0, .int .i64 0, .int .i64 0, .slice none 0 0] ∧
  zcs Try.prog 240 = [.int .i64 0, .int .i64 0, .slice none 0 0, .int .i64 0, .int .i64 0] ∧
  zro Try.prog 3 = some (.int .i64 0) ∧
  zro Try.prog 5 = some (.int .u8 0) ∧
  zro Try.prog 24 = some (.slice none 0 0) ∧
  zro Try.prog 62 = some (.agg #[.int .i64 0, .int .i64 0, .int .i64 0, .int .i64 0, .slice none 0 0]) ∧
  zro Try.prog 78 = some (.pointer none) ∧
  zro Try.prog 95 = some (.slice none 0 0) ∧
  zro Try.prog 115 = some (.slice none 0 0) ∧
  zro Try.prog 240 = some (.agg #[.int .i64 0, .int .i64 0, .slice none 0 0, .int .i64 0, .int .i64 0]) :=
  ⟨by kernel_rfl, by kernel_rfl, by kernel_rfl, by kernel_rfl, by kernel_rfl, by kernel_rfl, by kernel_rfl, by kernel_rfl, by kernel_rfl, by kernel_rfl, by kernel_rfl, by kernel_rfl, by kernel_rfl, by kernel_rfl, by kernel_rfl, by kernel_rfl, by kernel_rfl, by kernel_rfl, by kernel_rfl, by kernel_rfl, by kernel_rfl, by kernel_rfl, by kernel_rfl, by kernel_rfl, by kernel_rfl, by kernel_rfl, by kernel_rfl, by kernel_rfl, by kernel_rfl, by kernel_rfl, by kernel_rfl, by kernel_rfl, by kernel_rfl, by kernel_rfl, by kernel_rfl, by kernel_rfl, by kernel_rfl, by kernel_rfl, by kernel_rfl, by kernel_rfl, by kernel_rfl, by kernel_rfl, by kernel_rfl, by kernel_rfl, by kernel_rfl, by kernel_rfl, by kernel_rfl, by kernel_rfl, by kernel_rfl, by kernel_rfl, by kernel_rfl, by kernel_rfl, by kernel_rfl, by kernel_rfl, by kernel_rfl, by kernel_rfl, by kernel_rfl, by kernel_rfl, by kernel_rfl, by kernel_rfl, by kernel_rfl, by kernel_rfl, by kernel_rfl, by kernel_rfl⟩
def D45_7 : List Note := Go.Sl.nn [1, 1, 0, 0, 1, 1, 0, 0, 1, 1, 0, 0, 1, 0, 0] ++ ([(3, [0, 1, 4, 5, 8, 9, 12])] ++ (Go.Sl.nn [0, 2, 3, 3]))
def D181_2 : List Note := Go.Sl.nn [1, 0, 0, 1, 1, 0, 0, 1, 0, 0, 0, 0, 0]
abbrev bxP (bx a : Nat) : Asn := ob bx (.cells #[.pointer (some ⟨a, 0, none⟩)] 78 (0, 0))
abbrev sesP (a : Nat) (s : Ses) (v : Value) : Asn := ob a (.cells (sl s.m s.p s.n s.g v).toArray 240 (0, 0))
theorem window_ok {G : Hp} {a : Nat} : Con Try.prog G 136 [.pointer (some ⟨a, 0, none⟩)] [] (fun r B => ∃ bx, r = .func (.func 181) #[] #[.pointer (some ⟨bx, 0, none⟩)] ∧ B = [bxP bx a]) := by
  refine Con.intro Try.func136 rfl (Nat.le_of_ble_eq_true (by kernel_rfl)) (by kernel_rfl) Try.results136 ?_
  intro H h
  ((try simp only [S, TY, reduceCtorEq, nq0, nq1, nq2, nq3, nq4, iq0, iq1, iq2, iq3, iq4, iq5, iq6, iq7, iq8]); (try (simp (disch := omega) only [W2, Int.cast_ofNat_Int]; (try simp only [S, TY, reduceCtorEq, nq0, nq1, nq2, nq3, nq4, iq0, iq1, iq2, iq3, iq4, iq5, iq6, iq7, iq8]))))
  intro b hb hg
  have h1 := h.new hb hg (.cells #[.pointer (some ⟨a, 0, none⟩)] 78 (0, 0))
  ((try simp only [S, TY, reduceCtorEq, nq0, nq1, nq2, nq3, nq4, iq0, iq1, iq2, iq3, iq4, iq5, iq6, iq7, iq8]); (try (simp (disch := omega) only [W2, Int.cast_ofNat_Int]; (try simp only [S, TY, reduceCtorEq, nq0, nq1, nq2, nq3, nq4, iq0, iq1, iq2, iq3, iq4, iq5, iq6, iq7, iq8]))))
  exact fin_take (B := [_]) h1 ⟨b, rfl, rfl⟩
abbrev YR (l : Nat) (rec : Loop) (W : List Asn) (O : Asn) (r : Value) (B : List Asn) : Prop := r = .bool true ∧ B = lp l rec .ready none :: (W ++ [O])
theorem window1_ok {G : Hp} {l : Nat} {rec : Loop} {a bx : Nat} {s : Ses} {va : Option Addr} {c : Nat} {vs : List Value} {O : Nat → Asn} (hw : s.wf) (e1 : vs.length = s.q.length) (e2 : s.q.length ≤ c)
    (h0 : s.q.length = 0 → Yd Try.prog G l [.int .i64 0, .slice none 0 0] [lp l rec .ready none, sesP a s (.slice va s.q.length c), own 24 1 (.slice va s.q.length c) vs, blobs vs s.q, O 0]
      (YR l rec [sesP a s (.slice va s.q.length c), own 24 1 (.slice va s.q.length c) vs, blobs vs s.q] (O 1)))
    (h1 : ∀ (i : Nat) (hi : i < vs.length), i < 8 → Yd Try.prog G l [.int .i64 (s.n + i), vs[i]] [lp l rec .ready none, sesP a s (.slice va s.q.length c), own 24 1 (.slice va s.q.length c) vs, blobs vs s.q, O i]
      (YR l rec [sesP a s (.slice va s.q.length c), own 24 1 (.slice va s.q.length c) vs, blobs vs s.q] (O (i + 1)))) :
    Con Try.prog G 181 [yldv l, .pointer (some ⟨bx, 0, none⟩)] [lp l rec .ready none, bxP bx a, sesP a s (.slice va s.q.length c), own 24 1 (.slice va s.q.length c) vs, blobs vs s.q, O 0]
      (fun r B => B = [lp l rec .ready none, bxP bx a, sesP a s (.slice va s.q.length c), own 24 1 (.slice va s.q.length c) vs, blobs vs s.q, O (if s.q.length = 0 then 1 else min s.q.length 8)]) := by
  have hq := hw.q
  have hn := hw.n
  refine Con.intro Try.func181 rfl (Nat.le_of_ble_eq_true (by kernel_rfl)) (by kernel_rfl) Try.results181 ?_
  intro H h
  have c1 := h.ci 1 rfl
  have c2 := h.ci 2 rfl
  by_cases g0 : s.q.length = 0
  · have g0' : (s.q.length : Int) = 0 := by omega
    rw [if_pos g0]
    ((try simp only [S, TY, reduceCtorEq, nq0, nq1, nq2, nq3, nq4, iq0, iq1, iq2, iq3, iq4, iq5, iq6, iq7, iq8, c1, c2, g0']); (try (simp (disch := omega) only [W2, Int.cast_ofNat_Int]; (try simp only [S, TY, reduceCtorEq, nq0, nq1, nq2, nq3, nq4, iq0, iq1, iq2, iq3, iq4, iq5, iq6, iq7, iq8, c1, c2, g0']))); repeat ((first | (refine cl_drawi 2 D181_2 (List.range 13) (by decide) (by kernel_rfl) ?_; unfold D181_2)); simp only [S, TY, reduceCtorEq, nq0, nq1, nq2, nq3, nq4, iq0, iq1, iq2, iq3, iq4, iq5, iq6, iq7, iq8, c1, c2, g0']; (try (simp (disch := omega) only [W2, Int.cast_ofNat_Int]; (try simp only [S, TY, reduceCtorEq, nq0, nq1, nq2, nq3, nq4, iq0, iq1, iq2, iq3, iq4, iq5, iq6, iq7, iq8, c1, c2, g0'])))))
    refine (h0 g0).at_ h [0, 1, 1, 1, 1] _ rfl fun v B H2 hr h2 => ?_
    obtain ⟨rfl, rfl⟩ := hr
    simp only [front_eq, fronts_nil, fronts_cons, List.getElem?_cons_zero, List.getElem?_cons_succ, List.eraseIdx_cons_zero, List.eraseIdx_cons_succ, List.cons_append, List.nil_append, putL_cons, putL_nil, List.set_cons_zero, List.set_cons_succ, Nat.reduceAdd] at h2
    ((try simp only [S, TY, reduceCtorEq, nq0, nq1, nq2, nq3, nq4, iq0, iq1, iq2, iq3, iq4, iq5, iq6, iq7, iq8]); (try (simp (disch := omega) only [W2, Int.cast_ofNat_Int]; (try simp only [S, TY, reduceCtorEq, nq0, nq1, nq2, nq3, nq4, iq0, iq1, iq2, iq3, iq4, iq5, iq6, iq7, iq8]))); repeat ((first | (refine cl_drawi 2 D181_2 (List.range 13) (by decide) (by kernel_rfl) ?_; unfold D181_2)); simp only [S, TY, reduceCtorEq, nq0, nq1, nq2, nq3, nq4, iq0, iq1, iq2, iq3, iq4, iq5, iq6, iq7, iq8]; (try (simp (disch := omega) only [W2, Int.cast_ofNat_Int]; (try simp only [S, TY, reduceCtorEq, nq0, nq1, nq2, nq3, nq4, iq0, iq1, iq2, iq3, iq4, iq5, iq6, iq7, iq8])))))
    exact fin_take (B := [_, _, _, _, _, _]) (h2.fronts [0, 4, 0, 0, 0, 0]) rfl
  · have g0' : ¬ (s.q.length : Int) = 0 := by omega
    rw [if_neg g0]
    ((try simp only [S, TY, reduceCtorEq, nq0, nq1, nq2, nq3, nq4, iq0, iq1, iq2, iq3, iq4, iq5, iq6, iq7, iq8, c1, c2, g0']); (try (simp (disch := omega) only [W2, Int.cast_ofNat_Int]; (try simp only [S, TY, reduceCtorEq, nq0, nq1, nq2, nq3, nq4, iq0, iq1, iq2, iq3, iq4, iq5, iq6, iq7, iq8, c1, c2, g0']))); repeat ((first | (refine cl_drawi 2 D181_2 (List.range 13) (by decide) (by kernel_rfl) ?_; unfold D181_2)); simp only [S, TY, reduceCtorEq, nq0, nq1, nq2, nq3, nq4, iq0, iq1, iq2, iq3, iq4, iq5, iq6, iq7, iq8, c1, c2, g0']; (try (simp (disch := omega) only [W2, Int.cast_ofNat_Int]; (try simp only [S, TY, reduceCtorEq, nq0, nq1, nq2, nq3, nq4, iq0, iq1, iq2, iq3, iq4, iq5, iq6, iq7, iq8, c1, c2, g0'])))))
    have em : (if (8 : Int) < (s.q.length : Int) then (8 : Int) else (s.q.length : Int)) = ((min s.q.length 8 : Nat) : Int) := by split <;> omega
    obtain ⟨M, hM⟩ : ∃ M, min s.q.length 8 = M := ⟨_, rfl⟩
    rw [hM] at em ⊢
    simp only [em]
    refine ⟨⟨by omega, by omega⟩, ?_⟩
    have tM : ((M : Int)).toNat = M := Int.toNat_natCast M
    refine cl_loop (fun i e H => i ≤ M ∧ e 0 = yldv l ∧ e 1 = .pointer (some ⟨bx, 0, none⟩) ∧ e 23 = .slice va M c ∧ e 24 = .int .i64 (M : Nat) ∧ e 25 = .int .i64 (i : Nat) ∧
        sg G [lp l rec .ready none, bxP bx a, sesP a s (.slice va s.q.length c), own 24 1 (.slice va s.q.length c) vs, blobs vs s.q, O i] H) (fun i : Nat => M - i) 0
      ⟨by omega, rfl, rfl, by show Value.slice va ((M : Int)).toNat c = _; rw [tM], rfl, rfl, h⟩ ?_
    clear h c1 c2
    rintro i e H ⟨q, q0, q1, q23, q24, q25, h⟩
    have c1 := h.ci 1 rfl
    have c2 := h.ci 2 rfl
    by_cases g1 : (i : Int) < M
    · have g2 : (0 : Int) ≤ i ∧ (i : Int) < M := ⟨by omega, g1⟩
      have hi : i < vs.length := by omega
      obtain ⟨k, off, rfl, e3⟩ := (h.rdsi 3 rfl Rd_own).at1 (i := i) (by omega)
      rw [List.getElem?_eq_getElem hi] at e3
      ((try simp only [S, TY, reduceCtorEq, nq0, nq1, nq2, nq3, nq4, iq0, iq1, iq2, iq3, iq4, iq5, iq6, iq7, iq8, q0, q1, q23, q24, q25, c1, c2, e3, g1, g2]); (try (simp (disch := omega) only [W2, Int.cast_ofNat_Int]; (try simp only [S, TY, reduceCtorEq, nq0, nq1, nq2, nq3, nq4, iq0, iq1, iq2, iq3, iq4, iq5, iq6, iq7, iq8, q0, q1, q23, q24, q25, c1, c2, e3, g1, g2]))); repeat ((first | (refine cl_drawi 2 D181_2 (List.range 13) (by decide) (by kernel_rfl) ?_; unfold D181_2)); simp only [S, TY, reduceCtorEq, nq0, nq1, nq2, nq3, nq4, iq0, iq1, iq2, iq3, iq4, iq5, iq6, iq7, iq8, q0, q1, q23, q24, q25, c1, c2, e3, g1, g2]; (try (simp (disch := omega) only [W2, Int.cast_ofNat_Int]; (try simp only [S, TY, reduceCtorEq, nq0, nq1, nq2, nq3, nq4, iq0, iq1, iq2, iq3, iq4, iq5, iq6, iq7, iq8, q0, q1, q23, q24, q25, c1, c2, e3, g1, g2])))))
      refine (h1 i hi (by omega)).at_ h [0, 1, 1, 1, 1] _ rfl fun v B H2 hr h2 => ?_
      obtain ⟨rfl, rfl⟩ := hr
      simp only [front_eq, fronts_nil, fronts_cons, List.getElem?_cons_zero, List.getElem?_cons_succ, List.eraseIdx_cons_zero, List.eraseIdx_cons_succ, List.cons_append, List.nil_append, putL_cons, putL_nil, List.set_cons_zero, List.set_cons_succ, Nat.reduceAdd] at h2
      ((try simp only [S, TY, reduceCtorEq, nq0, nq1, nq2, nq3, nq4, iq0, iq1, iq2, iq3, iq4, iq5, iq6, iq7, iq8, q0, q1, q23, q24, q25]); (try (simp (disch := omega) only [W2, Int.cast_ofNat_Int]; (try simp only [S, TY, reduceCtorEq, nq0, nq1, nq2, nq3, nq4, iq0, iq1, iq2, iq3, iq4, iq5, iq6, iq7, iq8, q0, q1, q23, q24, q25]))); repeat ((first | (refine cl_drawi 2 D181_2 (List.range 13) (by decide) (by kernel_rfl) ?_; unfold D181_2)); simp only [S, TY, reduceCtorEq, nq0, nq1, nq2, nq3, nq4, iq0, iq1, iq2, iq3, iq4, iq5, iq6, iq7, iq8, q0, q1, q23, q24, q25]; (try (simp (disch := omega) only [W2, Int.cast_ofNat_Int]; (try simp only [S, TY, reduceCtorEq, nq0, nq1, nq2, nq3, nq4, iq0, iq1, iq2, iq3, iq4, iq5, iq6, iq7, iq8, q0, q1, q23, q24, q25])))))
      exact .go (i + 1) (by omega) ⟨by omega, q0, q1, q23, q24, rfl, h2.fronts [0, 4, 0, 0, 0, 0]⟩
    · obtain rfl : i = M := by omega
      ((try simp only [S, TY, reduceCtorEq, nq0, nq1, nq2, nq3, nq4, iq0, iq1, iq2, iq3, iq4, iq5, iq6, iq7, iq8, q0, q1, q23, q24, q25, g1]); (try (simp (disch := omega) only [W2, Int.cast_ofNat_Int]; (try simp only [S, TY, reduceCtorEq, nq0, nq1, nq2, nq3, nq4, iq0, iq1, iq2, iq3, iq4, iq5, iq6, iq7, iq8, q0, q1, q23, q24, q25, g1]))); repeat ((first | (refine cl_drawi 2 D181_2 (List.range 13) (by decide) (by kernel_rfl) ?_; unfold D181_2)); simp only [S, TY, reduceCtorEq, nq0, nq1, nq2, nq3, nq4, iq0, iq1, iq2, iq3, iq4, iq5, iq6, iq7, iq8, q0, q1, q23, q24, q25, g1]; (try (simp (disch := omega) only [W2, Int.cast_ofNat_Int]; (try simp only [S, TY, reduceCtorEq, nq0, nq1, nq2, nq3, nq4, iq0, iq1, iq2, iq3, iq4, iq5, iq6, iq7, iq8, q0, q1, q23, q24, q25, g1])))))
      exact fin_take (B := [_, _, _, _, _, _]) h rfl
/-- Letters, with their bodies' slices. -/
abbrev lc (y : Lt × Value) : List Value := ltl y.1.m y.1.p y.1.a y.1.s y.2
theorem lc_len (y : Lt × Value) : (lc y).length = 5 := rfl
theorem lc_one {y : Lt × Value} (h : y.2.oneCell' = true) : ∀ v ∈ lc y, v.oneCell' = true := by
  intro v hv
  simp only [lc, ltl, List.mem_cons, List.not_mem_nil, or_false] at hv
  rcases hv with rfl | rfl | rfl | rfl | rfl
  · rfl
  · rfl
  · rfl
  · rfl
  · exact h
def pre (s : Ses) (i : Nat) : List Lt := if s.q.length = 0 then (if i = 0 then [] else [⟨s.m, s.p, s.g, 0, []⟩]) else outN s i
theorem pre_out (s : Ses) : pre s (if s.q.length = 0 then 1 else min s.q.length 8) = s.out := by
  unfold pre Ses.out
  split <;> simp
/-- What stands while letters go out. -/
def Op (b1 b3 a : Nat) (s : Ses) (i : Nat) : Asn := fun H => ∃ (o : Value) (zl : List (Lt × Value)), zl.map (·.1) = pre s i ∧ seps [bxP b1 a, ob b3 (.cells #[o] 95 (0, 0)), own 62 5 o (zl.flatMap lc), blobs (zl.map (·.2)) (zl.map (·.1.b))] H
theorem Op_open {G H : Hp} {b1 b3 a : Nat} {s : Ses} {i : Nat} {L : List Asn} (h : sg G (Op b1 b3 a s i :: L) H) : ∃ (oa : Option Addr) (n c : Nat) (zl : List (Lt × Value)), zl.map (·.1) = pre s i ∧
    sg G (bxP b1 a :: ob b3 (.cells #[.slice oa n c] 95 (0, 0)) :: own 62 5 (.slice oa n c) (zl.flatMap lc) :: blobs (zl.map (·.2)) (zl.map (·.1.b)) :: L) H := by
  obtain ⟨hd, H1, H2, rfl, hd2, ⟨o, zl, hz, h1⟩, h2⟩ := h
  have h3 : sg G (bxP b1 a :: ob b3 (.cells #[o] 95 (0, 0)) :: own 62 5 o (zl.flatMap lc) :: blobs (zl.map (·.2)) (zl.map (·.1.b)) :: L) (H1.un H2) := ⟨hd, seps_append (l := [_, _, _, _]).2 ⟨H1, H2, rfl, hd2, h1, h2⟩⟩
  obtain ⟨oa, n, c, rfl, _, _⟩ := h3.sl 2 rfl Rd_own
  exact ⟨oa, n, c, zl, hz, h3⟩
theorem Op_shut {G H : Hp} {b1 b3 a : Nat} (s : Ses) (i : Nat) {o : Value} {zl : List (Lt × Value)} {L : List Asn} (hz : zl.map (·.1) = pre s i)
    (h : sg G (bxP b1 a :: ob b3 (.cells #[o] 95 (0, 0)) :: own 62 5 o (zl.flatMap lc) :: blobs (zl.map (·.2)) (zl.map (·.1.b)) :: L) H) : sg G (Op b1 b3 a s i :: L) H :=
  h.shut [_, _, _, _] fun H hd ha => ⟨o, zl, hz, ha⟩
theorem seps_blob {L : List Asn} {H : Hp} (h : seps L H) (i : Nat) {vs : List Value} {bs : List (List UInt8)} (hi : L[i]? = some (blobs vs bs)) : blobs vs bs H := by
  obtain ⟨H1, h1, h2⟩ := seps_i h i hi
  exact h1.mono h2
theorem nil8 {R : Hp} : rds R 1 (.slice none 0 0) (bv []) := ⟨none, 0, 0, rfl, rfl, Nat.le_refl _, .inl rfl⟩
theorem cl_env {P : Program} {G : Hp} {c : Code} {Q : Post} {e : Env} {H : Hp} (k : ∀ e' : Env, (∀ t, e' t = e t) → cl P G c Q e' H) : cl P G c Q e H := k e fun _ => rfl
theorem Out_nil {G : Hp} : Con Try.prog G 45 [.pointer none] [] (fun r B => r = .slice none 0 0 ∧ B = []) := by
  refine Con.intro Try.func45 rfl (Nat.le_of_ble_eq_true (by kernel_rfl)) (by kernel_rfl) Try.results45 ?_
  intro H h
  ((try simp only [S, TY, reduceCtorEq, nq0, nq1, nq2, nq3, nq4, iq0, iq1, iq2, iq3, iq4, iq5, iq6, iq7, iq8]); (try (simp (disch := omega) only [W2, Int.cast_ofNat_Int]; (try simp only [S, TY, reduceCtorEq, nq0, nq1, nq2, nq3, nq4, iq0, iq1, iq2, iq3, iq4, iq5, iq6, iq7, iq8]))); repeat ((first | (refine cl_drawi 7 D45_7 (List.range 20) (by decide) (by kernel_rfl) ?_; unfold D45_7)); simp only [S, TY, reduceCtorEq, nq0, nq1, nq2, nq3, nq4, iq0, iq1, iq2, iq3, iq4, iq5, iq6, iq7, iq8]; (try (simp (disch := omega) only [W2, Int.cast_ofNat_Int]; (try simp only [S, TY, reduceCtorEq, nq0, nq1, nq2, nq3, nq4, iq0, iq1, iq2, iq3, iq4, iq5, iq6, iq7, iq8])))))
  intro b1 hb1 hg1
  have h1 := h.new hb1 hg1 (.cells #[.pointer none] 78 (0, 0))
  have c1 := h1.c0
  ((try simp only [S, TY, reduceCtorEq, nq0, nq1, nq2, nq3, nq4, iq0, iq1, iq2, iq3, iq4, iq5, iq6, iq7, iq8, c1]); (try (simp (disch := omega) only [W2, Int.cast_ofNat_Int]; (try simp only [S, TY, reduceCtorEq, nq0, nq1, nq2, nq3, nq4, iq0, iq1, iq2, iq3, iq4, iq5, iq6, iq7, iq8, c1]))); repeat ((first | (refine cl_drawi 7 D45_7 (List.range 20) (by decide) (by kernel_rfl) ?_; unfold D45_7)); simp only [S, TY, reduceCtorEq, nq0, nq1, nq2, nq3, nq4, iq0, iq1, iq2, iq3, iq4, iq5, iq6, iq7, iq8, c1]; (try (simp (disch := omega) only [W2, Int.cast_ofNat_Int]; (try simp only [S, TY, reduceCtorEq, nq0, nq1, nq2, nq3, nq4, iq0, iq1, iq2, iq3, iq4, iq5, iq6, iq7, iq8, c1])))))
  exact fin_take (B := []) h1 ⟨rfl, rfl⟩
theorem pre_len (s : Ses) (i : Nat) : (pre s i).length ≤ i := by
  unfold pre outN
  split
  · split
    · simp
    · simp; omega
  · simp
theorem Out_ok {G : Hp} {a : Nat} {s : Ses} (hw : s.wf) : Con Try.prog G 45 [.pointer (some ⟨a, 0, none⟩)] [sS a s] (fun r B => ∃ zl : List (Lt × Value), zl.map (·.1) = s.out ∧ B = [own 62 5 r (zl.flatMap lc), blobs (zl.map (·.2)) (zl.map (·.1.b)), sS a s]) := by
  refine Con.intro Try.func45 rfl (Nat.le_of_ble_eq_true (by kernel_rfl)) (by kernel_rfl) Try.results45 ?_
  intro H h
  ((try simp only [S, TY, reduceCtorEq, nq0, nq1, nq2, nq3, nq4, iq0, iq1, iq2, iq3, iq4, iq5, iq6, iq7, iq8]); (try (simp (disch := omega) only [W2, Int.cast_ofNat_Int]; (try simp only [S, TY, reduceCtorEq, nq0, nq1, nq2, nq3, nq4, iq0, iq1, iq2, iq3, iq4, iq5, iq6, iq7, iq8]))); repeat ((first | (refine cl_drawi 7 D45_7 (List.range 20) (by decide) (by kernel_rfl) ?_; unfold D45_7)); simp only [S, TY, reduceCtorEq, nq0, nq1, nq2, nq3, nq4, iq0, iq1, iq2, iq3, iq4, iq5, iq6, iq7, iq8]; (try (simp (disch := omega) only [W2, Int.cast_ofNat_Int]; (try simp only [S, TY, reduceCtorEq, nq0, nq1, nq2, nq3, nq4, iq0, iq1, iq2, iq3, iq4, iq5, iq6, iq7, iq8])))))
  intro b1 hb1 hg1
  have h1 := h.new hb1 hg1 (.cells #[.pointer (some ⟨a, 0, none⟩)] 78 (0, 0))
  have c1 := h1.c0
  ((try simp only [S, TY, reduceCtorEq, nq0, nq1, nq2, nq3, nq4, iq0, iq1, iq2, iq3, iq4, iq5, iq6, iq7, iq8, c1]); (try (simp (disch := omega) only [W2, Int.cast_ofNat_Int]; (try simp only [S, TY, reduceCtorEq, nq0, nq1, nq2, nq3, nq4, iq0, iq1, iq2, iq3, iq4, iq5, iq6, iq7, iq8, c1]))); repeat ((first | (refine cl_drawi 7 D45_7 (List.range 20) (by decide) (by kernel_rfl) ?_; unfold D45_7)); simp only [S, TY, reduceCtorEq, nq0, nq1, nq2, nq3, nq4, iq0, iq1, iq2, iq3, iq4, iq5, iq6, iq7, iq8, c1]; (try (simp (disch := omega) only [W2, Int.cast_ofNat_Int]; (try simp only [S, TY, reduceCtorEq, nq0, nq1, nq2, nq3, nq4, iq0, iq1, iq2, iq3, iq4, iq5, iq6, iq7, iq8, c1])))))
  intro b3 hb3 hg3
  have h2 := h1.new hb3 hg3 (.cells #[.slice none 0 0] 95 (0, 0))
  have c2 := h2.ci 1 rfl
  ((try simp only [S, TY, reduceCtorEq, nq0, nq1, nq2, nq3, nq4, iq0, iq1, iq2, iq3, iq4, iq5, iq6, iq7, iq8, c2]); (try (simp (disch := omega) only [W2, Int.cast_ofNat_Int]; (try simp only [S, TY, reduceCtorEq, nq0, nq1, nq2, nq3, nq4, iq0, iq1, iq2, iq3, iq4, iq5, iq6, iq7, iq8, c2]))); repeat ((first | (refine cl_drawi 7 D45_7 (List.range 20) (by decide) (by kernel_rfl) ?_; unfold D45_7)); simp only [S, TY, reduceCtorEq, nq0, nq1, nq2, nq3, nq4, iq0, iq1, iq2, iq3, iq4, iq5, iq6, iq7, iq8, c2]; (try (simp (disch := omega) only [W2, Int.cast_ofNat_Int]; (try simp only [S, TY, reduceCtorEq, nq0, nq1, nq2, nq3, nq4, iq0, iq1, iq2, iq3, iq4, iq5, iq6, iq7, iq8, c2])))))
  refine window_ok.at_ h2 [] _ rfl fun r B H3 hr h3 => ?_
  obtain ⟨bx, rfl, rfl⟩ := hr
  simp only [front_eq, fronts_nil, fronts_cons, List.getElem?_cons_zero, List.getElem?_cons_succ, List.eraseIdx_cons_zero, List.eraseIdx_cons_succ, List.cons_append, List.nil_append, putL_cons, putL_nil, List.set_cons_zero, List.set_cons_succ, Nat.reduceAdd] at h3
  ((try simp only [S, TY, reduceCtorEq, nq0, nq1, nq2, nq3, nq4, iq0, iq1, iq2, iq3, iq4, iq5, iq6, iq7, iq8]); (try (simp (disch := omega) only [W2, Int.cast_ofNat_Int]; (try simp only [S, TY, reduceCtorEq, nq0, nq1, nq2, nq3, nq4, iq0, iq1, iq2, iq3, iq4, iq5, iq6, iq7, iq8]))); repeat ((first | (refine cl_drawi 7 D45_7 (List.range 20) (by decide) (by kernel_rfl) ?_; unfold D45_7)); simp only [S, TY, reduceCtorEq, nq0, nq1, nq2, nq3, nq4, iq0, iq1, iq2, iq3, iq4, iq5, iq6, iq7, iq8]; (try (simp (disch := omega) only [W2, Int.cast_ofNat_Int]; (try simp only [S, TY, reduceCtorEq, nq0, nq1, nq2, nq3, nq4, iq0, iq1, iq2, iq3, iq4, iq5, iq6, iq7, iq8])))))
  refine cl_env fun e he => ?_
  have q1 : e 1 = .pointer (some ⟨b1, 0, none⟩) := he 1
  have q3 : e 3 = .pointer (some ⟨b3, 0, none⟩) := he 3
  have q9 : e 9 = .func (.func 181) #[] #[.pointer (some ⟨bx, 0, none⟩)] := he 9
  clear he
  obtain ⟨va, c, vs, e1, e2, h4⟩ := sS_open (h3.front 3)
  refine rf_at (k := 181) (first := []) (cap := [.pointer (some ⟨bx, 0, none⟩)]) h4 q9 (by kernel_rfl) fun l rec H5 hr h5 => ?_
  have h6 := Op_shut s 0 (zl := []) (by unfold pre outN; simp) (((h5.fronts [6, 5]).nil_ 62 5).blob_nil.fronts [2, 2, 1, 0])
  simp only [front_eq, fronts_nil, fronts_cons, List.getElem?_cons_zero, List.getElem?_cons_succ, List.eraseIdx_cons_zero, List.eraseIdx_cons_succ, List.cons_append, List.nil_append, putL_cons, putL_nil, List.set_cons_zero, List.set_cons_succ, Nat.reduceAdd] at h6
  refine (window1_ok (O := Op b1 b3 a s) hw e1 e2 (fun g0 => ?y0) (fun i hi h8 => ?y1)).at_ h6 [1, 4, 1, 1, 1, 0] _ rfl fun r B H8 hr h8 => ?_
  case y0 =>
    refine yd_intro hr rfl fun H9 h9 => ?_
    simp only [putAll]
    ((try simp only [S, TY, reduceCtorEq, nq0, nq1, nq2, nq3, nq4, iq0, iq1, iq2, iq3, iq4, iq5, iq6, iq7, iq8, q1, q3]); (try (simp (disch := omega) only [W2, Int.cast_ofNat_Int]; (try simp only [S, TY, reduceCtorEq, nq0, nq1, nq2, nq3, nq4, iq0, iq1, iq2, iq3, iq4, iq5, iq6, iq7, iq8, q1, q3]))); repeat ((first | (refine cl_drawi 7 D45_7 (List.range 20) (by decide) (by kernel_rfl) ?_; unfold D45_7)); simp only [S, TY, reduceCtorEq, nq0, nq1, nq2, nq3, nq4, iq0, iq1, iq2, iq3, iq4, iq5, iq6, iq7, iq8, q1, q3]; (try (simp (disch := omega) only [W2, Int.cast_ofNat_Int]; (try simp only [S, TY, reduceCtorEq, nq0, nq1, nq2, nq3, nq4, iq0, iq1, iq2, iq3, iq4, iq5, iq6, iq7, iq8, q1, q3])))))
    refine rb_at h9 fun H10 h10 => ?_
    obtain ⟨oa, on, oc, zl, hz, h11⟩ := Op_open (h10.front 4)
    simp only [front_eq, fronts_nil, fronts_cons, List.getElem?_cons_zero, List.getElem?_cons_succ, List.eraseIdx_cons_zero, List.eraseIdx_cons_succ, List.cons_append, List.nil_append, putL_cons, putL_nil, List.set_cons_zero, List.set_cons_succ, Nat.reduceAdd] at h11
    have c11 := h11.c0
    have d11 := h11.ci 1 rfl
    have f11 := h11.ci 5 rfl
    ((try simp only [S, TY, reduceCtorEq, nq0, nq1, nq2, nq3, nq4, iq0, iq1, iq2, iq3, iq4, iq5, iq6, iq7, iq8, q1, q3, c11, d11, f11]); (try (simp (disch := omega) only [W2, Int.cast_ofNat_Int]; (try simp only [S, TY, reduceCtorEq, nq0, nq1, nq2, nq3, nq4, iq0, iq1, iq2, iq3, iq4, iq5, iq6, iq7, iq8, q1, q3, c11, d11, f11]))); repeat ((first | (refine cl_drawi 7 D45_7 (List.range 20) (by decide) (by kernel_rfl) ?_; unfold D45_7)); simp only [S, TY, reduceCtorEq, nq0, nq1, nq2, nq3, nq4, iq0, iq1, iq2, iq3, iq4, iq5, iq6, iq7, iq8, q1, q3, c11, d11, f11]; (try (simp (disch := omega) only [W2, Int.cast_ofNat_Int]; (try simp only [S, TY, reduceCtorEq, nq0, nq1, nq2, nq3, nq4, iq0, iq1, iq2, iq3, iq4, iq5, iq6, iq7, iq8, q1, q3, c11, d11, f11])))))
    refine (Clone_ok nil8 (by simp)).at_ h11 [] _ rfl fun r B H12 hr h12 => ?_
    subst hr
    simp only [front_eq, fronts_nil, fronts_cons, List.getElem?_cons_zero, List.getElem?_cons_succ, List.eraseIdx_cons_zero, List.eraseIdx_cons_succ, List.cons_append, List.nil_append, putL_cons, putL_nil, List.set_cons_zero, List.set_cons_succ, Nat.reduceAdd] at h12
    have hz2 : zl.map (·.1) ++ [⟨s.m, s.p, s.g, 0, []⟩] = pre s 1 := by rw [hz]; unfold pre; rw [if_pos g0, if_pos g0]; rfl
    have hzl : zl.length ≤ 8 := by
      have := congrArg List.length hz
      rw [List.length_map] at this
      have := pre_len s 0
      omega
    obtain ⟨ua, un, uc, rfl, _, _⟩ := h12.sl 0 rfl Rd_own
    have c12 := h12.ci 1 rfl
    have d12 := h12.ci 2 rfl
    have f12 := h12.ci 6 rfl
    ((try simp only [S, TY, reduceCtorEq, nq0, nq1, nq2, nq3, nq4, iq0, iq1, iq2, iq3, iq4, iq5, iq6, iq7, iq8, q1, q3, c11, d11, f11, c12, d12, f12]); (try (simp (disch := omega) only [W2, Int.cast_ofNat_Int]; (try simp only [S, TY, reduceCtorEq, nq0, nq1, nq2, nq3, nq4, iq0, iq1, iq2, iq3, iq4, iq5, iq6, iq7, iq8, q1, q3, c11, d11, f11, c12, d12, f12]))); repeat ((first | (refine cl_drawi 7 D45_7 (List.range 20) (by decide) (by kernel_rfl) ?_; unfold D45_7)); simp only [S, TY, reduceCtorEq, nq0, nq1, nq2, nq3, nq4, iq0, iq1, iq2, iq3, iq4, iq5, iq6, iq7, iq8, q1, q3, c11, d11, f11, c12, d12, f12]; (try (simp (disch := omega) only [W2, Int.cast_ofNat_Int]; (try simp only [S, TY, reduceCtorEq, nq0, nq1, nq2, nq3, nq4, iq0, iq1, iq2, iq3, iq4, iq5, iq6, iq7, iq8, q1, q3, c11, d11, f11, c12, d12, f12])))))
    intro k hk hkg
    have h13 := h12.newsl (e := 62) (sz := 5) (n := 1) (xs := ltl s.m s.p s.g (0) (.slice ua un uc)) hk hkg rfl
    have c13 := h13.ci 2 rfl
    have d13 := h13.ci 3 rfl
    have f13 := h13.ci 7 rfl
    ((try simp only [S, TY, reduceCtorEq, nq0, nq1, nq2, nq3, nq4, iq0, iq1, iq2, iq3, iq4, iq5, iq6, iq7, iq8, q1, q3, c13, d13, f13]); (try (simp (disch := omega) only [W2, Int.cast_ofNat_Int]; (try simp only [S, TY, reduceCtorEq, nq0, nq1, nq2, nq3, nq4, iq0, iq1, iq2, iq3, iq4, iq5, iq6, iq7, iq8, q1, q3, c13, d13, f13]))); repeat ((first | (refine cl_drawi 7 D45_7 (List.range 20) (by decide) (by kernel_rfl) ?_; unfold D45_7)); simp only [S, TY, reduceCtorEq, nq0, nq1, nq2, nq3, nq4, iq0, iq1, iq2, iq3, iq4, iq5, iq6, iq7, iq8, q1, q3, c13, d13, f13]; (try (simp (disch := omega) only [W2, Int.cast_ofNat_Int]; (try simp only [S, TY, reduceCtorEq, nq0, nq1, nq2, nq3, nq4, iq0, iq1, iq2, iq3, iq4, iq5, iq6, iq7, iq8, q1, q3, c13, d13, f13])))))
    refine append_sl (show apI Try.prog 95 = some (62, 5, 56) from by kernel_rfl) (show slIs Try.prog 95 = true from by kernel_rfl) (h13.front 4) (h13.rdsi 0 rfl Rd_own) (fun v hv => lc_one (y := (⟨s.m, s.p, s.g, 0, []⟩, .slice ua un uc)) rfl v hv) (by rw [flat_len lc_len]; simp; omega) fun w H14 h14 => ?_
    simp only [front_eq, fronts_nil, fronts_cons, List.getElem?_cons_zero, List.getElem?_cons_succ, List.eraseIdx_cons_zero, List.eraseIdx_cons_succ, List.cons_append, List.nil_append, putL_cons, putL_nil, List.set_cons_zero, List.set_cons_succ, Nat.reduceAdd] at h14
    obtain ⟨wa, wn, wc, rfl, _, _⟩ := h14.sl 0 rfl Rd_own
    ((try simp only [S, TY, reduceCtorEq, nq0, nq1, nq2, nq3, nq4, iq0, iq1, iq2, iq3, iq4, iq5, iq6, iq7, iq8, q1, q3]); (try (simp (disch := omega) only [W2, Int.cast_ofNat_Int]; (try simp only [S, TY, reduceCtorEq, nq0, nq1, nq2, nq3, nq4, iq0, iq1, iq2, iq3, iq4, iq5, iq6, iq7, iq8, q1, q3]))); repeat ((first | (refine cl_drawi 7 D45_7 (List.range 20) (by decide) (by kernel_rfl) ?_; unfold D45_7)); simp only [S, TY, reduceCtorEq, nq0, nq1, nq2, nq3, nq4, iq0, iq1, iq2, iq3, iq4, iq5, iq6, iq7, iq8, q1, q3]; (try (simp (disch := omega) only [W2, Int.cast_ofNat_Int]; (try simp only [S, TY, reduceCtorEq, nq0, nq1, nq2, nq3, nq4, iq0, iq1, iq2, iq3, iq4, iq5, iq6, iq7, iq8, q1, q3])))))
    refine sg.st (h14.front 4) rfl rfl fun H15 h15 => ?_
    simp only [front_eq, fronts_nil, fronts_cons, List.getElem?_cons_zero, List.getElem?_cons_succ, List.eraseIdx_cons_zero, List.eraseIdx_cons_succ, List.cons_append, List.nil_append, putL_cons, putL_nil, List.set_cons_zero, List.set_cons_succ, Nat.reduceAdd] at h15
    ((try simp only [S, TY, reduceCtorEq, nq0, nq1, nq2, nq3, nq4, iq0, iq1, iq2, iq3, iq4, iq5, iq6, iq7, iq8, q1, q3]); (try (simp (disch := omega) only [W2, Int.cast_ofNat_Int]; (try simp only [S, TY, reduceCtorEq, nq0, nq1, nq2, nq3, nq4, iq0, iq1, iq2, iq3, iq4, iq5, iq6, iq7, iq8, q1, q3]))); repeat ((first | (refine cl_drawi 7 D45_7 (List.range 20) (by decide) (by kernel_rfl) ?_; unfold D45_7)); simp only [S, TY, reduceCtorEq, nq0, nq1, nq2, nq3, nq4, iq0, iq1, iq2, iq3, iq4, iq5, iq6, iq7, iq8, q1, q3]; (try (simp (disch := omega) only [W2, Int.cast_ofNat_Int]; (try simp only [S, TY, reduceCtorEq, nq0, nq1, nq2, nq3, nq4, iq0, iq1, iq2, iq3, iq4, iq5, iq6, iq7, iq8, q1, q3])))))
    have h16 := ((((h15.front 2).tail).fronts [2, 3]).blob_push).fronts [3, 1, 1, 0]
    simp only [front_eq, fronts_nil, fronts_cons, List.getElem?_cons_zero, List.getElem?_cons_succ, List.eraseIdx_cons_zero, List.eraseIdx_cons_succ, List.cons_append, List.nil_append, putL_cons, putL_nil, List.set_cons_zero, List.set_cons_succ, Nat.reduceAdd] at h16
    have ez : zl.flatMap lc ++ ltl s.m s.p s.g (0) (.slice ua un uc) = (zl ++ [((⟨s.m, s.p, s.g, 0, []⟩ : Lt), Value.slice ua un uc)]).flatMap lc := by simp
    have ez2 : zl.map (·.2) ++ [.slice ua un uc] = (zl ++ [((⟨s.m, s.p, s.g, 0, []⟩ : Lt), Value.slice ua un uc)]).map (·.2) := by simp
    have ez3 : zl.map (·.1.b) ++ [[]] = (zl ++ [((⟨s.m, s.p, s.g, 0, []⟩ : Lt), Value.slice ua un uc)]).map (·.1.b) := by simp
    rw [ez, ez2, ez3] at h16
    have h17 := (Op_shut s (0 + 1) (zl := zl ++ [((⟨s.m, s.p, s.g, 0, []⟩ : Lt), Value.slice ua un uc)]) (by rw [List.map_append]; exact hz2) h16).fronts [1, 1, 1, 1, 0]
    exact rq_end (L := []) [_, _, _, _] [] h17 ⟨rfl, rfl⟩
  case y1 =>
    refine yd_intro hr rfl fun H9 h9 => ?_
    simp only [putAll]
    ((try simp only [S, TY, reduceCtorEq, nq0, nq1, nq2, nq3, nq4, iq0, iq1, iq2, iq3, iq4, iq5, iq6, iq7, iq8, q1, q3]); (try (simp (disch := omega) only [W2, Int.cast_ofNat_Int]; (try simp only [S, TY, reduceCtorEq, nq0, nq1, nq2, nq3, nq4, iq0, iq1, iq2, iq3, iq4, iq5, iq6, iq7, iq8, q1, q3]))); repeat ((first | (refine cl_drawi 7 D45_7 (List.range 20) (by decide) (by kernel_rfl) ?_; unfold D45_7)); simp only [S, TY, reduceCtorEq, nq0, nq1, nq2, nq3, nq4, iq0, iq1, iq2, iq3, iq4, iq5, iq6, iq7, iq8, q1, q3]; (try (simp (disch := omega) only [W2, Int.cast_ofNat_Int]; (try simp only [S, TY, reduceCtorEq, nq0, nq1, nq2, nq3, nq4, iq0, iq1, iq2, iq3, iq4, iq5, iq6, iq7, iq8, q1, q3])))))
    refine rb_at h9 fun H10 h10 => ?_
    obtain ⟨oa, on, oc, zl, hz, h11⟩ := Op_open (h10.front 4)
    simp only [front_eq, fronts_nil, fronts_cons, List.getElem?_cons_zero, List.getElem?_cons_succ, List.eraseIdx_cons_zero, List.eraseIdx_cons_succ, List.cons_append, List.nil_append, putL_cons, putL_nil, List.set_cons_zero, List.set_cons_succ, Nat.reduceAdd] at h11
    have c11 := h11.c0
    have d11 := h11.ci 1 rfl
    have f11 := h11.ci 5 rfl
    ((try simp only [S, TY, reduceCtorEq, nq0, nq1, nq2, nq3, nq4, iq0, iq1, iq2, iq3, iq4, iq5, iq6, iq7, iq8, q1, q3, c11, d11, f11]); (try (simp (disch := omega) only [W2, Int.cast_ofNat_Int]; (try simp only [S, TY, reduceCtorEq, nq0, nq1, nq2, nq3, nq4, iq0, iq1, iq2, iq3, iq4, iq5, iq6, iq7, iq8, q1, q3, c11, d11, f11]))); repeat ((first | (refine cl_drawi 7 D45_7 (List.range 20) (by decide) (by kernel_rfl) ?_; unfold D45_7)); simp only [S, TY, reduceCtorEq, nq0, nq1, nq2, nq3, nq4, iq0, iq1, iq2, iq3, iq4, iq5, iq6, iq7, iq8, q1, q3, c11, d11, f11]; (try (simp (disch := omega) only [W2, Int.cast_ofNat_Int]; (try simp only [S, TY, reduceCtorEq, nq0, nq1, nq2, nq3, nq4, iq0, iq1, iq2, iq3, iq4, iq5, iq6, iq7, iq8, q1, q3, c11, d11, f11])))))
    have hi' : i < s.q.length := by omega
    refine Con.lend_at [] [blobs vs s.q] h11 [7] rfl (fun F hF hs => Clone_ok (l := s.q[i]) ((seps_blob hs 0 rfl).get i hi hi').left (by have := hw.b _ (List.getElem_mem hi'); omega)) fun r B H12 hr h12 => ?_
    subst hr
    replace h12 := h12.fronts [0, 1, 1, 1, 1, 1, 1, 1, 0]
    simp only [front_eq, fronts_nil, fronts_cons, List.getElem?_cons_zero, List.getElem?_cons_succ, List.eraseIdx_cons_zero, List.eraseIdx_cons_succ, List.cons_append, List.nil_append, putL_cons, putL_nil, List.set_cons_zero, List.set_cons_succ, Nat.reduceAdd] at h12
    have hz2 : zl.map (·.1) ++ [⟨s.m, s.p, s.g, s.n + i, s.q[i]⟩] = pre s (i + 1) := by
      rw [hz]; unfold pre; rw [if_neg (by omega), if_neg (by omega), outN_succ]
      congr 1
      unfold outF
      rw [List.getD_eq_getElem?_getD, List.getElem?_eq_getElem hi']; rfl
    have hzl : zl.length ≤ 8 := by
      have := congrArg List.length hz
      rw [List.length_map] at this
      have := pre_len s i
      omega
    obtain ⟨ua, un, uc, rfl, _, _⟩ := h12.sl 0 rfl Rd_own
    have c12 := h12.ci 1 rfl
    have d12 := h12.ci 2 rfl
    have f12 := h12.ci 6 rfl
    ((try simp only [S, TY, reduceCtorEq, nq0, nq1, nq2, nq3, nq4, iq0, iq1, iq2, iq3, iq4, iq5, iq6, iq7, iq8, q1, q3, c11, d11, f11, c12, d12, f12]); (try (simp (disch := omega) only [W2, Int.cast_ofNat_Int]; (try simp only [S, TY, reduceCtorEq, nq0, nq1, nq2, nq3, nq4, iq0, iq1, iq2, iq3, iq4, iq5, iq6, iq7, iq8, q1, q3, c11, d11, f11, c12, d12, f12]))); repeat ((first | (refine cl_drawi 7 D45_7 (List.range 20) (by decide) (by kernel_rfl) ?_; unfold D45_7)); simp only [S, TY, reduceCtorEq, nq0, nq1, nq2, nq3, nq4, iq0, iq1, iq2, iq3, iq4, iq5, iq6, iq7, iq8, q1, q3, c11, d11, f11, c12, d12, f12]; (try (simp (disch := omega) only [W2, Int.cast_ofNat_Int]; (try simp only [S, TY, reduceCtorEq, nq0, nq1, nq2, nq3, nq4, iq0, iq1, iq2, iq3, iq4, iq5, iq6, iq7, iq8, q1, q3, c11, d11, f11, c12, d12, f12])))))
    intro k hk hkg
    have h13 := h12.newsl (e := 62) (sz := 5) (n := 1) (xs := ltl s.m s.p s.g (s.n + i) (.slice ua un uc)) hk hkg rfl
    have c13 := h13.ci 2 rfl
    have d13 := h13.ci 3 rfl
    have f13 := h13.ci 7 rfl
    ((try simp only [S, TY, reduceCtorEq, nq0, nq1, nq2, nq3, nq4, iq0, iq1, iq2, iq3, iq4, iq5, iq6, iq7, iq8, q1, q3, c13, d13, f13]); (try (simp (disch := omega) only [W2, Int.cast_ofNat_Int]; (try simp only [S, TY, reduceCtorEq, nq0, nq1, nq2, nq3, nq4, iq0, iq1, iq2, iq3, iq4, iq5, iq6, iq7, iq8, q1, q3, c13, d13, f13]))); repeat ((first | (refine cl_drawi 7 D45_7 (List.range 20) (by decide) (by kernel_rfl) ?_; unfold D45_7)); simp only [S, TY, reduceCtorEq, nq0, nq1, nq2, nq3, nq4, iq0, iq1, iq2, iq3, iq4, iq5, iq6, iq7, iq8, q1, q3, c13, d13, f13]; (try (simp (disch := omega) only [W2, Int.cast_ofNat_Int]; (try simp only [S, TY, reduceCtorEq, nq0, nq1, nq2, nq3, nq4, iq0, iq1, iq2, iq3, iq4, iq5, iq6, iq7, iq8, q1, q3, c13, d13, f13])))))
    refine append_sl (show apI Try.prog 95 = some (62, 5, 56) from by kernel_rfl) (show slIs Try.prog 95 = true from by kernel_rfl) (h13.front 4) (h13.rdsi 0 rfl Rd_own) (fun v hv => lc_one (y := (⟨s.m, s.p, s.g, s.n + i, []⟩, .slice ua un uc)) rfl v hv) (by rw [flat_len lc_len]; simp; omega) fun w H14 h14 => ?_
    simp only [front_eq, fronts_nil, fronts_cons, List.getElem?_cons_zero, List.getElem?_cons_succ, List.eraseIdx_cons_zero, List.eraseIdx_cons_succ, List.cons_append, List.nil_append, putL_cons, putL_nil, List.set_cons_zero, List.set_cons_succ, Nat.reduceAdd] at h14
    obtain ⟨wa, wn, wc, rfl, _, _⟩ := h14.sl 0 rfl Rd_own
    ((try simp only [S, TY, reduceCtorEq, nq0, nq1, nq2, nq3, nq4, iq0, iq1, iq2, iq3, iq4, iq5, iq6, iq7, iq8, q1, q3]); (try (simp (disch := omega) only [W2, Int.cast_ofNat_Int]; (try simp only [S, TY, reduceCtorEq, nq0, nq1, nq2, nq3, nq4, iq0, iq1, iq2, iq3, iq4, iq5, iq6, iq7, iq8, q1, q3]))); repeat ((first | (refine cl_drawi 7 D45_7 (List.range 20) (by decide) (by kernel_rfl) ?_; unfold D45_7)); simp only [S, TY, reduceCtorEq, nq0, nq1, nq2, nq3, nq4, iq0, iq1, iq2, iq3, iq4, iq5, iq6, iq7, iq8, q1, q3]; (try (simp (disch := omega) only [W2, Int.cast_ofNat_Int]; (try simp only [S, TY, reduceCtorEq, nq0, nq1, nq2, nq3, nq4, iq0, iq1, iq2, iq3, iq4, iq5, iq6, iq7, iq8, q1, q3])))))
    refine sg.st (h14.front 4) rfl rfl fun H15 h15 => ?_
    simp only [front_eq, fronts_nil, fronts_cons, List.getElem?_cons_zero, List.getElem?_cons_succ, List.eraseIdx_cons_zero, List.eraseIdx_cons_succ, List.cons_append, List.nil_append, putL_cons, putL_nil, List.set_cons_zero, List.set_cons_succ, Nat.reduceAdd] at h15
    ((try simp only [S, TY, reduceCtorEq, nq0, nq1, nq2, nq3, nq4, iq0, iq1, iq2, iq3, iq4, iq5, iq6, iq7, iq8, q1, q3]); (try (simp (disch := omega) only [W2, Int.cast_ofNat_Int]; (try simp only [S, TY, reduceCtorEq, nq0, nq1, nq2, nq3, nq4, iq0, iq1, iq2, iq3, iq4, iq5, iq6, iq7, iq8, q1, q3]))); repeat ((first | (refine cl_drawi 7 D45_7 (List.range 20) (by decide) (by kernel_rfl) ?_; unfold D45_7)); simp only [S, TY, reduceCtorEq, nq0, nq1, nq2, nq3, nq4, iq0, iq1, iq2, iq3, iq4, iq5, iq6, iq7, iq8, q1, q3]; (try (simp (disch := omega) only [W2, Int.cast_ofNat_Int]; (try simp only [S, TY, reduceCtorEq, nq0, nq1, nq2, nq3, nq4, iq0, iq1, iq2, iq3, iq4, iq5, iq6, iq7, iq8, q1, q3])))))
    have h16 := ((((h15.front 2).tail).fronts [2, 3]).blob_push).fronts [3, 1, 1, 0]
    simp only [front_eq, fronts_nil, fronts_cons, List.getElem?_cons_zero, List.getElem?_cons_succ, List.eraseIdx_cons_zero, List.eraseIdx_cons_succ, List.cons_append, List.nil_append, putL_cons, putL_nil, List.set_cons_zero, List.set_cons_succ, Nat.reduceAdd] at h16
    have ez : zl.flatMap lc ++ ltl s.m s.p s.g (s.n + i) (.slice ua un uc) = (zl ++ [((⟨s.m, s.p, s.g, s.n + i, s.q[i]⟩ : Lt), Value.slice ua un uc)]).flatMap lc := by simp
    have ez2 : zl.map (·.2) ++ [.slice ua un uc] = (zl ++ [((⟨s.m, s.p, s.g, s.n + i, s.q[i]⟩ : Lt), Value.slice ua un uc)]).map (·.2) := by simp
    have ez3 : zl.map (·.1.b) ++ [s.q[i]] = (zl ++ [((⟨s.m, s.p, s.g, s.n + i, s.q[i]⟩ : Lt), Value.slice ua un uc)]).map (·.1.b) := by simp
    rw [ez, ez2, ez3] at h16
    have h17 := (Op_shut s (i + 1) (zl := zl ++ [((⟨s.m, s.p, s.g, s.n + i, s.q[i]⟩ : Lt), Value.slice ua un uc)]) (by rw [List.map_append]; exact hz2) h16).fronts [1, 1, 1, 1, 0]
    exact rq_end (L := []) [_, _, _, _] [] h17 ⟨rfl, rfl⟩
  subst hr
  simp only [front_eq, fronts_nil, fronts_cons, List.getElem?_cons_zero, List.getElem?_cons_succ, List.eraseIdx_cons_zero, List.eraseIdx_cons_succ, List.cons_append, List.nil_append, putL_cons, putL_nil, List.set_cons_zero, List.set_cons_succ, Nat.reduceAdd] at h8
  refine rf_end h8 rfl fun H9 h9 => ?_
  obtain ⟨oa, on, oc, zl, hz, h10⟩ := Op_open (h9.front 4)
  rw [pre_out] at hz
  simp only [front_eq, fronts_nil, fronts_cons, List.getElem?_cons_zero, List.getElem?_cons_succ, List.eraseIdx_cons_zero, List.eraseIdx_cons_succ, List.cons_append, List.nil_append, putL_cons, putL_nil, List.set_cons_zero, List.set_cons_succ, Nat.reduceAdd] at h10
  have c10 := h10.ci 1 rfl
  simp only [jumpQ]
  ((try simp only [S, TY, reduceCtorEq, nq0, nq1, nq2, nq3, nq4, iq0, iq1, iq2, iq3, iq4, iq5, iq6, iq7, iq8, q1, q3, c10]); (try (simp (disch := omega) only [W2, Int.cast_ofNat_Int]; (try simp only [S, TY, reduceCtorEq, nq0, nq1, nq2, nq3, nq4, iq0, iq1, iq2, iq3, iq4, iq5, iq6, iq7, iq8, q1, q3, c10]))); repeat ((first | (refine cl_drawi 7 D45_7 (List.range 20) (by decide) (by kernel_rfl) ?_; unfold D45_7)); simp only [S, TY, reduceCtorEq, nq0, nq1, nq2, nq3, nq4, iq0, iq1, iq2, iq3, iq4, iq5, iq6, iq7, iq8, q1, q3, c10]; (try (simp (disch := omega) only [W2, Int.cast_ofNat_Int]; (try simp only [S, TY, reduceCtorEq, nq0, nq1, nq2, nq3, nq4, iq0, iq1, iq2, iq3, iq4, iq5, iq6, iq7, iq8, q1, q3, c10])))))
  have h11 := sS_shut s (h10.fronts [5, 5, 5])
  simp only [front_eq, fronts_nil, fronts_cons, List.getElem?_cons_zero, List.getElem?_cons_succ, List.eraseIdx_cons_zero, List.eraseIdx_cons_succ, List.cons_append, List.nil_append, putL_cons, putL_nil, List.set_cons_zero, List.set_cons_succ, Nat.reduceAdd] at h11
  exact fin_take (B := [_, _, _]) (h11.fronts [3, 3, 0]) ⟨zl, hz, rfl⟩
end Go.Proofs.Ytanhmbdcdbcfmaa.SeW
