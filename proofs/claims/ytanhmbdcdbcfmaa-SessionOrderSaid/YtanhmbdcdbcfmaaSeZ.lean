/- Two sessions, in order: the moves, the law, over the machine. -/
import Derived.Test.YtanhmbdcdbcfmaaSeY
set_option linter.unusedVariables false
set_option linter.unusedSimpArgs false
set_option maxRecDepth 10000
set_option maxHeartbeats 4000000
namespace Go.Proofs.Ytanhmbdcdbcfmaa.SeZ
open Nat renaming reduceEqDiff → nq0, reduceAdd → nq1, reduceLeDiff → nq2, reduceBEq → nq3, reduceMul → nq4
open Int renaming reduceBEq → iq0, reduceEq → iq1, reduceLT → iq2, reduceLE → iq3, reduceAdd → iq4, reduceSub → iq5, reduceMul → iq6, reduceToNat → iq7, cast_ofNat_Int → iq8
open Go Go.Sl Go.Proofs Go.Proofs.Ytanhmbdcdbcfmaa.Buf Go.Proofs.Ytanhmbdcdbcfmaa.BufRd Go.Proofs.Ytanhmbdcdbcfmaa.BufRe Go.Proofs.Ytanhmbdcdbcfmaa.BufP Go.Proofs.Ytanhmbdcdbcfmaa.SeP Go.Proofs.Ytanhmbdcdbcfmaa.Se Go.Proofs.Ytanhmbdcdbcfmaa.SeS Go.Proofs.Ytanhmbdcdbcfmaa.SeT Go.Proofs.Ytanhmbdcdbcfmaa.SeW Go.Proofs.Ytanhmbdcdbcfmaa.SeA Go.Proofs.Ytanhmbdcdbcfmaa.SeY
theorem TY : aggN Try.prog 3 = some none ∧
  aggN Try.prog 4 = some none ∧
  aggN Try.prog 5 = some none ∧
  aggN Try.prog 24 = some none ∧
  aggN Try.prog 30 = some none ∧
  aggN Try.prog 62 = some (some 5) ∧
  aggN Try.prog 78 = some none ∧
  aggN Try.prog 95 = some none ∧
  aggN Try.prog 98 = some none ∧
  aggN Try.prog 99 = some none ∧
  aggN Try.prog 102 = some (some 6) ∧
  aggN Try.prog 104 = some (some 3) ∧
  apI Try.prog 24 = some (5, 1, 1) ∧
  apI Try.prog 95 = some (62, 5, 56) ∧
  apI Try.prog 98 = some (104, 3, 3) ∧
  bIs Try.prog 62 = true ∧
  bIs Try.prog 102 = true ∧
  bIs Try.prog 104 = true ∧
  boIs Try.prog 4 = true ∧
  bySl Try.prog 24 = true ∧
  csz Try.prog 3 = some 1 ∧
  csz Try.prog 4 = some 1 ∧
  csz Try.prog 5 = some 1 ∧
  csz Try.prog 24 = some 1 ∧
  csz Try.prog 30 = some 1 ∧
  csz Try.prog 62 = some 5 ∧
  csz Try.prog 78 = some 1 ∧
  csz Try.prog 95 = some 1 ∧
  csz Try.prog 98 = some 1 ∧
  csz Try.prog 99 = some 1 ∧
  csz Try.prog 102 = some 6 ∧
  csz Try.prog 104 = some 3 ∧
  eqF Try.prog 104 = some [.b, .i, .i] ∧
  fIs Try.prog 102 0 = true ∧
  fIs Try.prog 102 1 = true ∧
  fIs Try.prog 102 2 = true ∧
  fIs Try.prog 102 5 = true ∧
  fIs Try.prog 104 0 = true ∧
  fIs Try.prog 104 1 = true ∧
  fIs Try.prog 104 2 = true ∧
  fOff Try.prog 102 0 = 0 ∧
  fOff Try.prog 102 1 = 1 ∧
  fOff Try.prog 102 2 = 2 ∧
  fOff Try.prog 102 5 = 5 ∧
  fOff Try.prog 104 0 = 0 ∧
  fOff Try.prog 104 1 = 1 ∧
  fOff Try.prog 104 2 = 2 ∧
  fTy Try.prog 102 0 = 78 ∧
  fTy Try.prog 102 1 = 3 ∧
  fTy Try.prog 102 2 = 24 ∧
  fTy Try.prog 102 5 = 95 ∧
  fTy Try.prog 104 0 = 4 ∧
  fTy Try.prog 104 1 = 5 ∧
  fTy Try.prog 104 2 = 5 ∧
  goes Try.prog 29 = true ∧
  goes Try.prog 44 = true ∧
  goes Try.prog 45 = true ∧
  goes Try.prog 46 = true ∧
  goes Try.prog 47 = true ∧
  goes Try.prog 48 = true ∧
  goes Try.prog 137 = true ∧
  inIs Try.prog 3 = some .i64 ∧
  inIs Try.prog 5 = some .u8 ∧
  inIs Try.prog 30 = some .i64 ∧
  plcs Try.prog 62 = [(0, 1), (1, 1), (2, 1), (3, 1), (4, 1)] ∧
  plcs Try.prog 102 = [(0, 1), (1, 1), (2, 1), (3, 1), (4, 1), (5, 1)] ∧
  plcs Try.prog 104 = [(0, 1), (1, 1), (2, 1)] ∧
  ptIs Try.prog 78 = true ∧
  ptIs Try.prog 99 = true ∧
  slEl Try.prog 24 = 5 ∧
  slEl Try.prog 95 = 62 ∧
  slEl Try.prog 98 = 104 ∧
  slIs Try.prog 24 = true ∧
  slIs Try.prog 95 = true ∧
  slIs Try.prog 98 = true ∧
  slSz Try.prog 24 = 1 ∧
  slSz Try.prog 95 = 5 ∧
  slSz Try.prog 98 = 3 ∧
  zcs Try.prog 62 = [.int .i64 0, .int .i64 0, .int .i64 0, .int .i64 0, .slice none 0 0] ∧
  zcs Try.prog 102 = [.pointer none, .int .i64 0, .slice none 0 0, .slice none 0 0, .int .i64 0, .slice none 0 0] ∧
  zcs Try.prog 104 = [.bool false, .int .u8 0, .int .u8 0] ∧
  zro Try.prog 3 = some (.int .i64 0) ∧
  zro Try.prog 4 = some (.bool false) ∧
  zro Try.prog 5 = some (.int .u8 0) ∧
  zro Try.prog 24 = some (.slice none 0 0) ∧
  zro Try.prog 30 = some (.int .i64 0) ∧
  zro Try.prog 62 = some (.agg #[.int .i64 0, .int .i64 0, .int .i64 0, .int .i64 0, .slice none 0 0]) ∧
  zro Try.prog 78 = some (.pointer none) ∧
  zro Try.prog 95 = some (.slice none 0 0) ∧
  zro Try.prog 98 = some (.slice none 0 0) ∧
  zro Try.prog 99 = some (.pointer none) ∧
  zro Try.prog 102 = some (.agg #[.pointer none, .int .i64 0, .slice none 0 0, .slice none 0 0, .int .i64 0, .slice none 0 0]) ∧
  zro Try.prog 104 = some (.agg #[.bool false, .int .u8 0, .int .u8 0]) :=
  ⟨by kernel_rfl, by kernel_rfl, by kernel_rfl, by kernel_rfl, by kernel_rfl, by kernel_rfl, by kernel_rfl, by kernel_rfl, by kernel_rfl, by kernel_rfl, by kernel_rfl, by kernel_rfl, by kernel_rfl, by kernel_rfl, by kernel_rfl, by kernel_rfl, by kernel_rfl, by kernel_rfl, by kernel_rfl, by kernel_rfl, by kernel_rfl, by kernel_rfl, by kernel_rfl, by kernel_rfl, by kernel_rfl, by kernel_rfl, by kernel_rfl, by kernel_rfl, by kernel_rfl, by kernel_rfl, by kernel_rfl, by kernel_rfl, by kernel_rfl, by kernel_rfl, by kernel_rfl, by kernel_rfl, by kernel_rfl, by kernel_rfl, by kernel_rfl, by kernel_rfl, by kernel_rfl, by kernel_rfl, by kernel_rfl, by kernel_rfl, by kernel_rfl, by kernel_rfl, by kernel_rfl, by kernel_rfl, by kernel_rfl, by kernel_rfl, by kernel_rfl, by kernel_rfl, by kernel_rfl, by kernel_rfl, by kernel_rfl, by kernel_rfl, by kernel_rfl, by kernel_rfl, by kernel_rfl, by kernel_rfl, by kernel_rfl, by kernel_rfl, by kernel_rfl, by kernel_rfl, by kernel_rfl, by kernel_rfl, by kernel_rfl, by kernel_rfl, by kernel_rfl, by kernel_rfl, by kernel_rfl, by kernel_rfl, by kernel_rfl, by kernel_rfl, by kernel_rfl, by kernel_rfl, by kernel_rfl, by kernel_rfl, by kernel_rfl, by kernel_rfl, by kernel_rfl, by kernel_rfl, by kernel_rfl, by kernel_rfl, by kernel_rfl, by kernel_rfl, by kernel_rfl, by kernel_rfl, by kernel_rfl, by kernel_rfl, by kernel_rfl, by kernel_rfl, by kernel_rfl⟩
def D47_5 : List Note := Go.Sl.nn [0, 0, 0, 0, 1, 0, 0, 0, 1] ++ ([(3, [4])] ++ (Go.Sl.nn [3, 0, 0, 3]))
def D47_7 : List Note := Go.Sl.nn [0, 0, 0, 0, 1, 0, 1, 0, 0, 0, 0, 1, 0, 0, 0, 1, 3, 0]
theorem act_ok {G : Hp} {p q : Nat} {x y : En} {N : Nat} (sec : Bool) (w a : Nat) (c : UInt8) (hx : Fine N x) (hN : N ≤ 1000) (ha : a < 256) (hlx : x.l.length ≤ 100000) (hly : y.l.length ≤ 100000) :
    Con Try.prog G 47 [.pointer (some ⟨p, 0, none⟩), .pointer (some ⟨q, 0, none⟩), .agg #[.bool sec, .int .u8 (w : Nat), .int .u8 (a : Nat)], .int .i64 (c.toNat : Nat)] [eE p x, eE q y]
      (fun r B => r = .bool (act x y w a c).2.2 ∧ B = [eE p (act x y w a c).1, eE q (act x y w a c).2.1]) := by
  have n10 : ¬ (10 : Int) = 0 := by decide
  have gw : (w : Int).tmod 10 = ((w % 10 : Nat) : Int) := rfl
  have hcn : c.toNat < 256 := c.toNat_lt
  have gwc : IntKind.u8.wrap (c.toNat : Int) = (c.toNat : Int) := by rw [wrap_u8]; omega
  refine Con.intro Try.func47 rfl (Nat.le_of_ble_eq_true (by kernel_rfl)) (by kernel_rfl) Try.results47 ?_
  intro H h
  ((try simp only [S, TY, reduceCtorEq, nq0, nq1, nq2, nq3, nq4, iq0, iq1, iq2, iq3, iq4, iq5, iq6, iq7, iq8]); (try (simp (disch := omega) only [W2, Int.cast_ofNat_Int]; (try simp only [S, TY, reduceCtorEq, nq0, nq1, nq2, nq3, nq4, iq0, iq1, iq2, iq3, iq4, iq5, iq6, iq7, iq8]))); repeat ((first | (refine cl_drawi 5 D47_5 (List.range 14) (by decide) (by kernel_rfl) ?_; unfold D47_5) | (refine cl_drawi 7 D47_7 (List.range 18) (by decide) (by kernel_rfl) ?_; unfold D47_7)); simp only [S, TY, reduceCtorEq, nq0, nq1, nq2, nq3, nq4, iq0, iq1, iq2, iq3, iq4, iq5, iq6, iq7, iq8]; (try (simp (disch := omega) only [W2, Int.cast_ofNat_Int]; (try simp only [S, TY, reduceCtorEq, nq0, nq1, nq2, nq3, nq4, iq0, iq1, iq2, iq3, iq4, iq5, iq6, iq7, iq8])))))
  intro b6 hb6 hg6
  have h1 := h.new hb6 hg6 (.cells #[.bool sec, .int .u8 (w : Nat), .int .u8 (a : Nat)] 104 (0, 0))
  have c1 := h1.c0
  by_cases g1 : (w : Int).tmod 10 < 3
  · have g1n : w % 10 < 3 := by rw [gw] at g1; omega
    have hact : act x y w a c = (x.push c, y, true) := by unfold act; rw [if_pos g1n]
    rw [hact]
    obtain ⟨sp, ia, oa, la, ic, oc, lcc, zl, hz, f1, f2, f3, h2⟩ := eE_open (h1.front 1)
    simp only [front_eq, fronts_nil, fronts_cons, List.getElem?_cons_zero, List.getElem?_cons_succ, List.eraseIdx_cons_zero, List.eraseIdx_cons_succ, List.cons_append, List.nil_append, putL_cons, putL_nil, List.set_cons_zero, List.set_cons_succ, Nat.reduceAdd] at h2
    have c2 := h2.c0
    have d2 := h2.ci 6 rfl
    ((try simp only [S, TY, reduceCtorEq, nq0, nq1, nq2, nq3, nq4, iq0, iq1, iq2, iq3, iq4, iq5, iq6, iq7, iq8, c2, d2, n10, g1, gwc]); (try (simp (disch := omega) only [W2, Int.cast_ofNat_Int]; (try simp only [S, TY, reduceCtorEq, nq0, nq1, nq2, nq3, nq4, iq0, iq1, iq2, iq3, iq4, iq5, iq6, iq7, iq8, c2, d2, n10, g1, gwc]))); repeat ((first | (refine cl_drawi 5 D47_5 (List.range 14) (by decide) (by kernel_rfl) ?_; unfold D47_5) | (refine cl_drawi 7 D47_7 (List.range 18) (by decide) (by kernel_rfl) ?_; unfold D47_7)); simp only [S, TY, reduceCtorEq, nq0, nq1, nq2, nq3, nq4, iq0, iq1, iq2, iq3, iq4, iq5, iq6, iq7, iq8, c2, d2, n10, g1, gwc]; (try (simp (disch := omega) only [W2, Int.cast_ofNat_Int]; (try simp only [S, TY, reduceCtorEq, nq0, nq1, nq2, nq3, nq4, iq0, iq1, iq2, iq3, iq4, iq5, iq6, iq7, iq8, c2, d2, n10, g1, gwc])))))
    intro k3 hk3 hg3
    have h3 := h2.newsl (e := 5) (sz := 1) (n := 1) (xs := bv [c]) hk3 hg3 rfl
    ((try simp only [S, TY, reduceCtorEq, nq0, nq1, nq2, nq3, nq4, iq0, iq1, iq2, iq3, iq4, iq5, iq6, iq7, iq8]); (try (simp (disch := omega) only [W2, Int.cast_ofNat_Int]; (try simp only [S, TY, reduceCtorEq, nq0, nq1, nq2, nq3, nq4, iq0, iq1, iq2, iq3, iq4, iq5, iq6, iq7, iq8]))); repeat ((first | (refine cl_drawi 5 D47_5 (List.range 14) (by decide) (by kernel_rfl) ?_; unfold D47_5) | (refine cl_drawi 7 D47_7 (List.range 18) (by decide) (by kernel_rfl) ?_; unfold D47_7)); simp only [S, TY, reduceCtorEq, nq0, nq1, nq2, nq3, nq4, iq0, iq1, iq2, iq3, iq4, iq5, iq6, iq7, iq8]; (try (simp (disch := omega) only [W2, Int.cast_ofNat_Int]; (try simp only [S, TY, reduceCtorEq, nq0, nq1, nq2, nq3, nq4, iq0, iq1, iq2, iq3, iq4, iq5, iq6, iq7, iq8])))))
    refine Con.lend_at [sS sp x.s] [own 5 1 _ (bv [c])] h3 [2, 0] rfl (fun F hF hs => Push_ok (seps_own hs 0 rfl).left hx.w.q) fun r B H4 hr h4 => ?_
    obtain ⟨rfl, rfl⟩ := hr
    simp only [front_eq, fronts_nil, fronts_cons, List.getElem?_cons_zero, List.getElem?_cons_succ, List.eraseIdx_cons_zero, List.eraseIdx_cons_succ, List.cons_append, List.nil_append, putL_cons, putL_nil, List.set_cons_zero, List.set_cons_succ, Nat.reduceAdd] at h4
    by_cases g5 : (x.s.push [c]).2 = 0
    · have hp : x.push c = ⟨(x.s.push [c]).1, x.bt, x.i ++ [c], x.o, x.kn, x.l⟩ := by unfold En.push; rw [if_pos g5]
      rw [hp]
      have c4 := h4.ci 2 rfl
      ((try simp only [S, TY, reduceCtorEq, nq0, nq1, nq2, nq3, nq4, iq0, iq1, iq2, iq3, iq4, iq5, iq6, iq7, iq8, c4, g5, gwc]); (try (simp (disch := omega) only [W2, Int.cast_ofNat_Int]; (try simp only [S, TY, reduceCtorEq, nq0, nq1, nq2, nq3, nq4, iq0, iq1, iq2, iq3, iq4, iq5, iq6, iq7, iq8, c4, g5, gwc]))); repeat ((first | (refine cl_drawi 5 D47_5 (List.range 14) (by decide) (by kernel_rfl) ?_; unfold D47_5) | (refine cl_drawi 7 D47_7 (List.range 18) (by decide) (by kernel_rfl) ?_; unfold D47_7)); simp only [S, TY, reduceCtorEq, nq0, nq1, nq2, nq3, nq4, iq0, iq1, iq2, iq3, iq4, iq5, iq6, iq7, iq8, c4, g5, gwc]; (try (simp (disch := omega) only [W2, Int.cast_ofNat_Int]; (try simp only [S, TY, reduceCtorEq, nq0, nq1, nq2, nq3, nq4, iq0, iq1, iq2, iq3, iq4, iq5, iq6, iq7, iq8, c4, g5, gwc])))))
      intro k5 hk5 hg5
      have h5 := h4.newsl (e := 5) (sz := 1) (n := 1) (xs := bv [c]) hk5 hg5 rfl
      ((try simp only [S, TY, reduceCtorEq, nq0, nq1, nq2, nq3, nq4, iq0, iq1, iq2, iq3, iq4, iq5, iq6, iq7, iq8]); (try (simp (disch := omega) only [W2, Int.cast_ofNat_Int]; (try simp only [S, TY, reduceCtorEq, nq0, nq1, nq2, nq3, nq4, iq0, iq1, iq2, iq3, iq4, iq5, iq6, iq7, iq8]))); repeat ((first | (refine cl_drawi 5 D47_5 (List.range 14) (by decide) (by kernel_rfl) ?_; unfold D47_5) | (refine cl_drawi 7 D47_7 (List.range 18) (by decide) (by kernel_rfl) ?_; unfold D47_7)); simp only [S, TY, reduceCtorEq, nq0, nq1, nq2, nq3, nq4, iq0, iq1, iq2, iq3, iq4, iq5, iq6, iq7, iq8]; (try (simp (disch := omega) only [W2, Int.cast_ofNat_Int]; (try simp only [S, TY, reduceCtorEq, nq0, nq1, nq2, nq3, nq4, iq0, iq1, iq2, iq3, iq4, iq5, iq6, iq7, iq8])))))
      refine append_sl (show apI Try.prog 24 = some (5, 1, 1) from by kernel_rfl) (show slIs Try.prog 24 = true from by kernel_rfl) (h5.front 4) (h5.rdsi 0 rfl Rd_own) (bv_one _) (by have := hx.i; simp [bv_length]; omega) fun w H6 h6 => ?_
      rw [← bv_append] at h6
      simp only [front_eq, fronts_nil, fronts_cons, List.getElem?_cons_zero, List.getElem?_cons_succ, List.eraseIdx_cons_zero, List.eraseIdx_cons_succ, List.cons_append, List.nil_append, putL_cons, putL_nil, List.set_cons_zero, List.set_cons_succ, Nat.reduceAdd] at h6
      obtain ⟨wa, wn, wc, rfl, _, _⟩ := h6.sl 0 rfl Rd_own
      ((try simp only [S, TY, reduceCtorEq, nq0, nq1, nq2, nq3, nq4, iq0, iq1, iq2, iq3, iq4, iq5, iq6, iq7, iq8]); (try (simp (disch := omega) only [W2, Int.cast_ofNat_Int]; (try simp only [S, TY, reduceCtorEq, nq0, nq1, nq2, nq3, nq4, iq0, iq1, iq2, iq3, iq4, iq5, iq6, iq7, iq8]))); repeat ((first | (refine cl_drawi 5 D47_5 (List.range 14) (by decide) (by kernel_rfl) ?_; unfold D47_5) | (refine cl_drawi 7 D47_7 (List.range 18) (by decide) (by kernel_rfl) ?_; unfold D47_7)); simp only [S, TY, reduceCtorEq, nq0, nq1, nq2, nq3, nq4, iq0, iq1, iq2, iq3, iq4, iq5, iq6, iq7, iq8]; (try (simp (disch := omega) only [W2, Int.cast_ofNat_Int]; (try simp only [S, TY, reduceCtorEq, nq0, nq1, nq2, nq3, nq4, iq0, iq1, iq2, iq3, iq4, iq5, iq6, iq7, iq8])))))
      refine sg.st (h6.front 4) rfl rfl fun H7 h7 => ?_
      simp only [front_eq, fronts_nil, fronts_cons, List.getElem?_cons_zero, List.getElem?_cons_succ, List.eraseIdx_cons_zero, List.eraseIdx_cons_succ, List.cons_append, List.nil_append, putL_cons, putL_nil, List.set_cons_zero, List.set_cons_succ, Nat.reduceAdd] at h7
      ((try simp only [S, TY, reduceCtorEq, nq0, nq1, nq2, nq3, nq4, iq0, iq1, iq2, iq3, iq4, iq5, iq6, iq7, iq8]); (try (simp (disch := omega) only [W2, Int.cast_ofNat_Int]; (try simp only [S, TY, reduceCtorEq, nq0, nq1, nq2, nq3, nq4, iq0, iq1, iq2, iq3, iq4, iq5, iq6, iq7, iq8]))); repeat ((first | (refine cl_drawi 5 D47_5 (List.range 14) (by decide) (by kernel_rfl) ?_; unfold D47_5) | (refine cl_drawi 7 D47_7 (List.range 18) (by decide) (by kernel_rfl) ?_; unfold D47_7)); simp only [S, TY, reduceCtorEq, nq0, nq1, nq2, nq3, nq4, iq0, iq1, iq2, iq3, iq4, iq5, iq6, iq7, iq8]; (try (simp (disch := omega) only [W2, Int.cast_ofNat_Int]; (try simp only [S, TY, reduceCtorEq, nq0, nq1, nq2, nq3, nq4, iq0, iq1, iq2, iq3, iq4, iq5, iq6, iq7, iq8])))))
      have h8 := eE_shut ⟨(x.s.push [c]).1, x.bt, x.i ++ [c], x.o, x.kn, x.l⟩ hz (h7.fronts [0, 2, 0, 2, 2, 2])
      exact fin_take (B := [_, _]) (h8.fronts [0, 3]) ⟨rfl, rfl⟩
    · have hp : x.push c = ⟨(x.s.push [c]).1, x.bt, x.i, x.o, x.kn, x.l⟩ := by unfold En.push; rw [if_neg g5]
      rw [hp]
      ((try simp only [S, TY, reduceCtorEq, nq0, nq1, nq2, nq3, nq4, iq0, iq1, iq2, iq3, iq4, iq5, iq6, iq7, iq8, g5]); (try (simp (disch := omega) only [W2, Int.cast_ofNat_Int]; (try simp only [S, TY, reduceCtorEq, nq0, nq1, nq2, nq3, nq4, iq0, iq1, iq2, iq3, iq4, iq5, iq6, iq7, iq8, g5]))); repeat ((first | (refine cl_drawi 5 D47_5 (List.range 14) (by decide) (by kernel_rfl) ?_; unfold D47_5) | (refine cl_drawi 7 D47_7 (List.range 18) (by decide) (by kernel_rfl) ?_; unfold D47_7)); simp only [S, TY, reduceCtorEq, nq0, nq1, nq2, nq3, nq4, iq0, iq1, iq2, iq3, iq4, iq5, iq6, iq7, iq8, g5]; (try (simp (disch := omega) only [W2, Int.cast_ofNat_Int]; (try simp only [S, TY, reduceCtorEq, nq0, nq1, nq2, nq3, nq4, iq0, iq1, iq2, iq3, iq4, iq5, iq6, iq7, iq8, g5])))))
      have h8 := eE_shut ⟨(x.s.push [c]).1, x.bt, x.i, x.o, x.kn, x.l⟩ hz (h4.fronts [2, 0, 1, 1, 1, 1])
      exact fin_take (B := [_, _]) (h8.fronts [0, 2]) ⟨rfl, rfl⟩
  · have g1n : ¬ w % 10 < 3 := by rw [gw] at g1; omega
    by_cases g2 : (w : Int).tmod 10 < 5
    · have g2n : w % 10 < 5 := by rw [gw] at g2; omega
      have hact : act x y w a c = (x, y.gets x.s.out, true) := by unfold act; rw [if_neg g1n, if_pos g2n]
      rw [hact]
      obtain ⟨sp, ia, oa, la, ic, oc, lcc, zl, hz, f1, f2, f3, h2⟩ := eE_open (h1.front 1)
      obtain ⟨sq, ja, pa, ma, jc, pc, mcc, yl, hy, k1, k2, k3, h3⟩ := eE_open (h2.front 7)
      simp only [front_eq, fronts_nil, fronts_cons, List.getElem?_cons_zero, List.getElem?_cons_succ, List.eraseIdx_cons_zero, List.eraseIdx_cons_succ, List.cons_append, List.nil_append, putL_cons, putL_nil, List.set_cons_zero, List.set_cons_succ, Nat.reduceAdd] at h3
      have c3 := h3.c0
      have d3 := h3.ci 6 rfl
      have f3 := h3.ci 12 rfl
      ((try simp only [S, TY, reduceCtorEq, nq0, nq1, nq2, nq3, nq4, iq0, iq1, iq2, iq3, iq4, iq5, iq6, iq7, iq8, c3, d3, f3, n10, g1, g2]); (try (simp (disch := omega) only [W2, Int.cast_ofNat_Int]; (try simp only [S, TY, reduceCtorEq, nq0, nq1, nq2, nq3, nq4, iq0, iq1, iq2, iq3, iq4, iq5, iq6, iq7, iq8, c3, d3, f3, n10, g1, g2]))); repeat ((first | (refine cl_drawi 5 D47_5 (List.range 14) (by decide) (by kernel_rfl) ?_; unfold D47_5) | (refine cl_drawi 7 D47_7 (List.range 18) (by decide) (by kernel_rfl) ?_; unfold D47_7)); simp only [S, TY, reduceCtorEq, nq0, nq1, nq2, nq3, nq4, iq0, iq1, iq2, iq3, iq4, iq5, iq6, iq7, iq8, c3, d3, f3, n10, g1, g2]; (try (simp (disch := omega) only [W2, Int.cast_ofNat_Int]; (try simp only [S, TY, reduceCtorEq, nq0, nq1, nq2, nq3, nq4, iq0, iq1, iq2, iq3, iq4, iq5, iq6, iq7, iq8, c3, d3, f3, n10, g1, g2])))))
      refine (Out_ok hx.w).at_ h3 [7] _ rfl fun r B H4 hr h4 => ?_
      obtain ⟨ol, hzo, rfl⟩ := hr
      obtain ⟨ra, rn, rc, rfl, _, _⟩ := h4.sl 0 rfl Rd_own
      simp only [front_eq, fronts_nil, fronts_cons, List.getElem?_cons_zero, List.getElem?_cons_succ, List.eraseIdx_cons_zero, List.eraseIdx_cons_succ, List.cons_append, List.nil_append, putL_cons, putL_nil, List.set_cons_zero, List.set_cons_succ, Nat.reduceAdd] at h4
      have c4 := h4.ci 3 rfl
      have d4 := h4.ci 9 rfl
      have hbo := (h4.front 1).blobs.one
      have hol : ol.length ≤ 1000 := by
        have := congrArg List.length hzo
        rw [List.length_map] at this
        have hq := hx.w.q
        unfold Ses.out outN at this
        split at this
        · simp at this; omega
        · simp at this; omega
      have hyl : yl.length = y.l.length := by rw [← hy, List.length_map]
      ((try simp only [S, TY, reduceCtorEq, nq0, nq1, nq2, nq3, nq4, iq0, iq1, iq2, iq3, iq4, iq5, iq6, iq7, iq8, c3, d3, f3, c4, d4]); (try (simp (disch := omega) only [W2, Int.cast_ofNat_Int]; (try simp only [S, TY, reduceCtorEq, nq0, nq1, nq2, nq3, nq4, iq0, iq1, iq2, iq3, iq4, iq5, iq6, iq7, iq8, c3, d3, f3, c4, d4]))); repeat ((first | (refine cl_drawi 5 D47_5 (List.range 14) (by decide) (by kernel_rfl) ?_; unfold D47_5) | (refine cl_drawi 7 D47_7 (List.range 18) (by decide) (by kernel_rfl) ?_; unfold D47_7)); simp only [S, TY, reduceCtorEq, nq0, nq1, nq2, nq3, nq4, iq0, iq1, iq2, iq3, iq4, iq5, iq6, iq7, iq8, c3, d3, f3, c4, d4]; (try (simp (disch := omega) only [W2, Int.cast_ofNat_Int]; (try simp only [S, TY, reduceCtorEq, nq0, nq1, nq2, nq3, nq4, iq0, iq1, iq2, iq3, iq4, iq5, iq6, iq7, iq8, c3, d3, f3, c4, d4])))))
      refine append_sl (show apI Try.prog 95 = some (62, 5, 56) from by kernel_rfl) (show slIs Try.prog 95 = true from by kernel_rfl) (h4.front 7) (h4.rdsi 0 rfl Rd_own) ?_ (by rw [flat_len lc_len, flat_len lc_len]; omega) fun w H5 h5 => ?_
      · intro v hv
        obtain ⟨z, hz1, hz2⟩ := List.mem_flatMap.1 hv
        exact lc_one (hbo z.2 (List.mem_map.2 ⟨z, hz1, rfl⟩)) v hz2
      rw [← List.flatMap_append] at h5
      simp only [front_eq, fronts_nil, fronts_cons, List.getElem?_cons_zero, List.getElem?_cons_succ, List.eraseIdx_cons_zero, List.eraseIdx_cons_succ, List.cons_append, List.nil_append, putL_cons, putL_nil, List.set_cons_zero, List.set_cons_succ, Nat.reduceAdd] at h5
      obtain ⟨wa, wn, wc, rfl, _, _⟩ := h5.sl 0 rfl Rd_own
      ((try simp only [S, TY, reduceCtorEq, nq0, nq1, nq2, nq3, nq4, iq0, iq1, iq2, iq3, iq4, iq5, iq6, iq7, iq8]); (try (simp (disch := omega) only [W2, Int.cast_ofNat_Int]; (try simp only [S, TY, reduceCtorEq, nq0, nq1, nq2, nq3, nq4, iq0, iq1, iq2, iq3, iq4, iq5, iq6, iq7, iq8]))); repeat ((first | (refine cl_drawi 5 D47_5 (List.range 14) (by decide) (by kernel_rfl) ?_; unfold D47_5) | (refine cl_drawi 7 D47_7 (List.range 18) (by decide) (by kernel_rfl) ?_; unfold D47_7)); simp only [S, TY, reduceCtorEq, nq0, nq1, nq2, nq3, nq4, iq0, iq1, iq2, iq3, iq4, iq5, iq6, iq7, iq8]; (try (simp (disch := omega) only [W2, Int.cast_ofNat_Int]; (try simp only [S, TY, reduceCtorEq, nq0, nq1, nq2, nq3, nq4, iq0, iq1, iq2, iq3, iq4, iq5, iq6, iq7, iq8])))))
      refine sg.st (h5.front 4) rfl rfl fun H6 h6 => ?_
      simp only [front_eq, fronts_nil, fronts_cons, List.getElem?_cons_zero, List.getElem?_cons_succ, List.eraseIdx_cons_zero, List.eraseIdx_cons_succ, List.cons_append, List.nil_append, putL_cons, putL_nil, List.set_cons_zero, List.set_cons_succ, Nat.reduceAdd] at h6
      ((try simp only [S, TY, reduceCtorEq, nq0, nq1, nq2, nq3, nq4, iq0, iq1, iq2, iq3, iq4, iq5, iq6, iq7, iq8]); (try (simp (disch := omega) only [W2, Int.cast_ofNat_Int]; (try simp only [S, TY, reduceCtorEq, nq0, nq1, nq2, nq3, nq4, iq0, iq1, iq2, iq3, iq4, iq5, iq6, iq7, iq8]))); repeat ((first | (refine cl_drawi 5 D47_5 (List.range 14) (by decide) (by kernel_rfl) ?_; unfold D47_5) | (refine cl_drawi 7 D47_7 (List.range 18) (by decide) (by kernel_rfl) ?_; unfold D47_7)); simp only [S, TY, reduceCtorEq, nq0, nq1, nq2, nq3, nq4, iq0, iq1, iq2, iq3, iq4, iq5, iq6, iq7, iq8]; (try (simp (disch := omega) only [W2, Int.cast_ofNat_Int]; (try simp only [S, TY, reduceCtorEq, nq0, nq1, nq2, nq3, nq4, iq0, iq1, iq2, iq3, iq4, iq5, iq6, iq7, iq8])))))
      have h7 := sg.blob_join (h6.fronts [8, 3])
      rw [← List.map_append, ← List.map_append] at h7
      have h8 := eE_shut (y.gets x.s.out) (zl := yl ++ ol) (by rw [List.map_append, hy, hzo]; rfl) (h7.fronts [1, 4, 4, 4, 1, 0])
      have h9 := eE_shut x hz (h8.fronts [3, 2, 2, 2, 2, 2])
      exact fin_take (B := [_, _]) h9 ⟨rfl, rfl⟩
    · have g2n : ¬ w % 10 < 5 := by rw [gw] at g2; omega
      obtain ⟨sp, ia, oa, la, ic, oc, lcc, zl, hz, f1, f2, f3, h2⟩ := eE_open (h1.front 1)
      simp only [front_eq, fronts_nil, fronts_cons, List.getElem?_cons_zero, List.getElem?_cons_succ, List.eraseIdx_cons_zero, List.eraseIdx_cons_succ, List.cons_append, List.nil_append, putL_cons, putL_nil, List.set_cons_zero, List.set_cons_succ, Nat.reduceAdd] at h2
      have c2 := h2.c0
      have d2 := h2.ci 6 rfl
      by_cases g3 : (0 : Int) < zl.length
      · obtain ⟨j, hj⟩ : ∃ j, a % zl.length = j := ⟨_, rfl⟩
        have gt : (a : Int).tmod (zl.length : Int) = (j : Int) := by rw [← hj]; rfl
        have hjl : j < zl.length := by rw [← hj]; exact Nat.mod_lt _ (by omega)
        have hact : act x y w a c = ((x.take zl[j].1).1, y, (x.take zl[j].1).2) := by
          unfold act; rw [if_neg g1n, if_neg g2n]
          have e : x.l[a % x.l.length]? = some zl[j].1 := by
            rw [← hz, List.length_map, hj, List.getElem?_map, List.getElem?_eq_getElem hjl]; rfl
          rw [e]
        rw [hact]
        have g4 : (0 : Int) ≤ j ∧ (j : Int) < zl.length := by omega
        have g5 : ¬ (zl.length : Int) = 0 := by omega
        obtain ⟨k, off, hl, rfl, _, e5⟩ := (h2.rdsi 4 rfl Rd_own).el lc_len (i := j) hjl (by omega)
        ((try simp only [S, TY, reduceCtorEq, nq0, nq1, nq2, nq3, nq4, iq0, iq1, iq2, iq3, iq4, iq5, iq6, iq7, iq8, c2, d2, n10, g1, g2, g3]); (try (simp (disch := omega) only [W2, Int.cast_ofNat_Int]; (try simp only [S, TY, reduceCtorEq, nq0, nq1, nq2, nq3, nq4, iq0, iq1, iq2, iq3, iq4, iq5, iq6, iq7, iq8, c2, d2, n10, g1, g2, g3]))); repeat ((first | (refine cl_drawi 5 D47_5 (List.range 14) (by decide) (by kernel_rfl) ?_; unfold D47_5) | (refine cl_drawi 7 D47_7 (List.range 18) (by decide) (by kernel_rfl) ?_; unfold D47_7)); simp only [S, TY, reduceCtorEq, nq0, nq1, nq2, nq3, nq4, iq0, iq1, iq2, iq3, iq4, iq5, iq6, iq7, iq8, c2, d2, n10, g1, g2, g3]; (try (simp (disch := omega) only [W2, Int.cast_ofNat_Int]; (try simp only [S, TY, reduceCtorEq, nq0, nq1, nq2, nq3, nq4, iq0, iq1, iq2, iq3, iq4, iq5, iq6, iq7, iq8, c2, d2, n10, g1, g2, g3])))))
        rw [gt]
        refine ⟨g5, g4, ?_⟩
        rw [Int.toNat_natCast, e5]
        ((try simp only [S, TY, reduceCtorEq, nq0, nq1, nq2, nq3, nq4, iq0, iq1, iq2, iq3, iq4, iq5, iq6, iq7, iq8, c2]); (try (simp (disch := omega) only [W2, Int.cast_ofNat_Int]; (try simp only [S, TY, reduceCtorEq, nq0, nq1, nq2, nq3, nq4, iq0, iq1, iq2, iq3, iq4, iq5, iq6, iq7, iq8, c2]))); repeat ((first | (refine cl_drawi 5 D47_5 (List.range 14) (by decide) (by kernel_rfl) ?_; unfold D47_5) | (refine cl_drawi 7 D47_7 (List.range 18) (by decide) (by kernel_rfl) ?_; unfold D47_7)); simp only [S, TY, reduceCtorEq, nq0, nq1, nq2, nq3, nq4, iq0, iq1, iq2, iq3, iq4, iq5, iq6, iq7, iq8, c2]; (try (simp (disch := omega) only [W2, Int.cast_ofNat_Int]; (try simp only [S, TY, reduceCtorEq, nq0, nq1, nq2, nq3, nq4, iq0, iq1, iq2, iq3, iq4, iq5, iq6, iq7, iq8, c2])))))
        have hxo : x.o.length ≤ 2000000000000 := by have := hx.o; have := hx.w.g; omega
        have hB : ∀ F, seps [blobs (zl.map (·.2)) (zl.map (·.1.b))] F → rds F 1 zl[j].2 (bv zl[j].1.b) := by
          intro F hs
          have := (seps_blob hs 0 rfl).get j (by rw [List.length_map]; exact hjl) (by rw [List.length_map]; exact hjl)
          rw [List.getElem_map, List.getElem_map] at this
          exact this
        have hT : ∀ F, F.disj G → seps [blobs (zl.map (·.2)) (zl.map (·.1.b))] F → Con Try.prog (F.un G) 137 [.pointer (some ⟨p, 0, none⟩), Lt.v zl[j].1 zl[j].2] _ _ := fun F hF hs => take_ok (p := p) (sp := sp) (x := x) (iv := .slice ia x.i.length ic) (ov := .slice oa x.o.length oc) (lv := .slice (some ⟨k, off, none⟩) zl.length lcc) zl[j].1 (hB F hs).left hx.w hxo
        refine Con.lend_at _ [blobs (zl.map (·.2)) (zl.map (·.1.b))] h2 [0, 0, 0, 0, 1] rfl hT fun r B H4 hr h4 => ?_
        obtain ⟨iv', ov', rfl, rfl⟩ := hr
        have hbt := take_bt x zl[j].1
        obtain ⟨res, hres⟩ : ∃ r, x.take zl[j].1 = r := ⟨_, rfl⟩
        rw [hres] at h4 hbt ⊢
        rw [← hbt.1] at h4
        obtain ⟨ex, eb⟩ := res
        simp only at h4 hbt ⊢
        simp only [front_eq, fronts_nil, fronts_cons, List.getElem?_cons_zero, List.getElem?_cons_succ, List.eraseIdx_cons_zero, List.eraseIdx_cons_succ, List.cons_append, List.nil_append, putL_cons, putL_nil, List.set_cons_zero, List.set_cons_succ, Nat.reduceAdd] at h4
        have c4 := h4.c0
        have d4 := h4.ci 6 rfl
        obtain ⟨k', off', hl', hk, _, e6⟩ := (h4.rdsi 5 rfl Rd_own).el lc_len (i := j) hjl (by omega)
        cases hk
        ((try simp only [S, TY, reduceCtorEq, nq0, nq1, nq2, nq3, nq4, iq0, iq1, iq2, iq3, iq4, iq5, iq6, iq7, iq8, c4, d4]); (try (simp (disch := omega) only [W2, Int.cast_ofNat_Int]; (try simp only [S, TY, reduceCtorEq, nq0, nq1, nq2, nq3, nq4, iq0, iq1, iq2, iq3, iq4, iq5, iq6, iq7, iq8, c4, d4]))); repeat ((first | (refine cl_drawi 5 D47_5 (List.range 14) (by decide) (by kernel_rfl) ?_; unfold D47_5) | (refine cl_drawi 7 D47_7 (List.range 18) (by decide) (by kernel_rfl) ?_; unfold D47_7)); simp only [S, TY, reduceCtorEq, nq0, nq1, nq2, nq3, nq4, iq0, iq1, iq2, iq3, iq4, iq5, iq6, iq7, iq8, c4, d4]; (try (simp (disch := omega) only [W2, Int.cast_ofNat_Int]; (try simp only [S, TY, reduceCtorEq, nq0, nq1, nq2, nq3, nq4, iq0, iq1, iq2, iq3, iq4, iq5, iq6, iq7, iq8, c4, d4])))))
        have h5 := eE_shut ex (hz.trans hbt.2.symm) (h4.fronts [0, 0, 0, 0, 1, 0])
        exact fin_take (B := [_, _]) (h5.fronts [0, 1]) ⟨rfl, rfl⟩
      · have hact : act x y w a c = (x, y, true) := by
          unfold act; rw [if_neg g1n, if_neg g2n]
          have e : x.l = [] := by rw [← hz]; cases zl with | nil => rfl | cons _ _ => simp at g3
          rw [e]; rfl
        rw [hact]
        ((try simp only [S, TY, reduceCtorEq, nq0, nq1, nq2, nq3, nq4, iq0, iq1, iq2, iq3, iq4, iq5, iq6, iq7, iq8, c2, d2, n10, g1, g2, g3]); (try (simp (disch := omega) only [W2, Int.cast_ofNat_Int]; (try simp only [S, TY, reduceCtorEq, nq0, nq1, nq2, nq3, nq4, iq0, iq1, iq2, iq3, iq4, iq5, iq6, iq7, iq8, c2, d2, n10, g1, g2, g3]))); repeat ((first | (refine cl_drawi 5 D47_5 (List.range 14) (by decide) (by kernel_rfl) ?_; unfold D47_5) | (refine cl_drawi 7 D47_7 (List.range 18) (by decide) (by kernel_rfl) ?_; unfold D47_7)); simp only [S, TY, reduceCtorEq, nq0, nq1, nq2, nq3, nq4, iq0, iq1, iq2, iq3, iq4, iq5, iq6, iq7, iq8, c2, d2, n10, g1, g2, g3]; (try (simp (disch := omega) only [W2, Int.cast_ofNat_Int]; (try simp only [S, TY, reduceCtorEq, nq0, nq1, nq2, nq3, nq4, iq0, iq1, iq2, iq3, iq4, iq5, iq6, iq7, iq8, c2, d2, n10, g1, g2, g3])))))
        have h5 := eE_shut x hz h2
        exact fin_take (B := [_, _]) (h5.fronts [0, 1]) ⟨rfl, rfl⟩
theorem out_len {s : Ses} : s.out.length ≤ 8 := by
  unfold Ses.out outN
  split <;> simp <;> omega
theorem act_len (x y : En) (w a : Nat) (c : UInt8) : (act x y w a c).1.l.length = x.l.length ∧ (act x y w a c).2.1.l.length ≤ y.l.length + 8 := by
  unfold act
  split
  · refine ⟨?_, by simp⟩
    show (x.push c).l.length = _
    unfold En.push
    split <;> rfl
  · split
    · have := out_len (s := x.s)
      exact ⟨rfl, by show (y.l ++ x.s.out).length ≤ _; rw [List.length_append]; omega⟩
    · split
      · rename_i l _
        exact ⟨by show ((x.take l).1).l.length = _; rw [(take_bt x l).2], by show y.l.length ≤ _; omega⟩
      · exact ⟨rfl, by show y.l.length ≤ _; omega⟩
abbrev MT : Ty := .st (.pr .bool (.pr (.int .u8) (.pr (.int .u8) .un)))
abbrev Moves (G : Hp) (v : Value) (l : List MT.den) : Prop := rdl G 3 (MT.R G) v l
theorem move_l {G : Hp} {cs : List Value} {y : MT.den} (h : MT.R G cs y) : ∃ (s : Bool) (w a : Nat), cs = [.bool s, .int .u8 (w : Nat), .int .u8 (a : Nat)] ∧ a < 256 := by
  obtain ⟨_, _, rfl, -, rfl, _, _, rfl, -, ⟨rfl, k1⟩, _, _, rfl, -, ⟨rfl, k2⟩, rfl⟩ := h
  simp only [Lit.wf, IntKind.min, IntKind.max, IntKind.signed, IntKind.bits, Bool.and_eq_true, decide_eq_true_eq] at k1 k2
  obtain ⟨z1, hz1⟩ : ∃ z : Int, z = y.2.1 := ⟨_, rfl⟩
  obtain ⟨z2, hz2⟩ : ∃ z : Int, z = y.2.2.1 := ⟨_, rfl⟩
  rw [← hz1] at k1 ⊢
  rw [← hz2] at k2 ⊢
  have e1 : ((z1.toNat : Nat) : Int) = z1 := Int.toNat_of_nonneg (by have := k1.1; simpa using this)
  have e2 : ((z2.toNat : Nat) : Int) = z2 := Int.toNat_of_nonneg (by have := k2.1; simpa using this)
  have e3 : z2 ≤ 255 := by have := k2.2; simpa using this
  exact ⟨y.1, z1.toNat, z2.toNat, by rw [e1, e2]; rfl, by omega⟩
theorem orderLaw {G : Hp} {v : Value} {l : List MT.den} (hv : Moves G v l) : Con Try.prog G 7 [v] [] (fun r B => r = .bool true ∧ B = []) := by
  have hv0 := hv
  obtain ⟨a, n, c, rfl, e1, e2⟩ := hv.shape (by decide)
  have n10 : ¬ (10 : Int) = 0 := by decide
  refine Con.intro Try.func7 rfl (Nat.le_of_ble_eq_true (by kernel_rfl)) (by kernel_rfl) Try.results7 ?_
  intro H hH
  by_cases gn : (120 : Int) < n
  · ((try simp only [S, TY, reduceCtorEq, nq0, nq1, nq2, nq3, nq4, iq0, iq1, iq2, iq3, iq4, iq5, iq6, iq7, iq8, gn]); (try (simp (disch := omega) only [W2, Int.cast_ofNat_Int]; (try simp only [S, TY, reduceCtorEq, nq0, nq1, nq2, nq3, nq4, iq0, iq1, iq2, iq3, iq4, iq5, iq6, iq7, iq8, gn]))))
    refine alive.at_ hH [] _ rfl fun r B H2 hr h2 => ?_
    obtain ⟨rfl, rfl⟩ := hr
    ((try simp only [S, TY, reduceCtorEq, nq0, nq1, nq2, nq3, nq4, iq0, iq1, iq2, iq3, iq4, iq5, iq6, iq7, iq8]); (try (simp (disch := omega) only [W2, Int.cast_ofNat_Int]; (try simp only [S, TY, reduceCtorEq, nq0, nq1, nq2, nq3, nq4, iq0, iq1, iq2, iq3, iq4, iq5, iq6, iq7, iq8]))))
    exact fin_take (B := []) h2 ⟨rfl, rfl⟩
  · ((try simp only [S, TY, reduceCtorEq, nq0, nq1, nq2, nq3, nq4, iq0, iq1, iq2, iq3, iq4, iq5, iq6, iq7, iq8, gn]); (try (simp (disch := omega) only [W2, Int.cast_ofNat_Int]; (try simp only [S, TY, reduceCtorEq, nq0, nq1, nq2, nq3, nq4, iq0, iq1, iq2, iq3, iq4, iq5, iq6, iq7, iq8, gn]))))
    refine (start_ok 1 (by omega)).at_ hH [] _ rfl fun r B H1 hr h1 => ?_
    obtain ⟨p, rfl, rfl⟩ := hr
    ((try simp only [S, TY, reduceCtorEq, nq0, nq1, nq2, nq3, nq4, iq0, iq1, iq2, iq3, iq4, iq5, iq6, iq7, iq8]); (try (simp (disch := omega) only [W2, Int.cast_ofNat_Int]; (try simp only [S, TY, reduceCtorEq, nq0, nq1, nq2, nq3, nq4, iq0, iq1, iq2, iq3, iq4, iq5, iq6, iq7, iq8]))))
    refine (start_ok 1 (by omega)).at_ h1 [] _ rfl fun r B H2 hr h2 => ?_
    obtain ⟨q, rfl, rfl⟩ := hr
    simp only [front_eq, fronts_nil, fronts_cons, List.getElem?_cons_zero, List.getElem?_cons_succ, List.eraseIdx_cons_zero, List.eraseIdx_cons_succ, List.cons_append, List.nil_append, putL_cons, putL_nil, List.set_cons_zero, List.set_cons_succ, Nat.reduceAdd] at h2
    ((try simp only [S, TY, reduceCtorEq, nq0, nq1, nq2, nq3, nq4, iq0, iq1, iq2, iq3, iq4, iq5, iq6, iq7, iq8]); (try (simp (disch := omega) only [W2, Int.cast_ofNat_Int]; (try simp only [S, TY, reduceCtorEq, nq0, nq1, nq2, nq3, nq4, iq0, iq1, iq2, iq3, iq4, iq5, iq6, iq7, iq8]))))
    refine cl_loop (fun i e H => i ≤ n ∧ e 0 = .slice a n c ∧ e 5 = .int .i64 (i : Nat) ∧ ∃ (p q : Nat) (x y : En), e 3 = .pointer (some ⟨p, 0, none⟩) ∧ e 4 = .pointer (some ⟨q, 0, none⟩) ∧ Both i x y ∧ x.l.length ≤ 8 * i ∧ y.l.length ≤ 8 * i ∧ sg G [eE p x, eE q y] H) (fun i : Nat => n - i) 0
      ⟨by omega, rfl, rfl, p, q, En.new 1, En.new 1, rfl, rfl, both_new, by simp [En.new], by simp [En.new], h2.front 1⟩ ?_
    clear h1 h2
    clear p q
    rintro i e H ⟨qi, q0, q5, p, q, x, y, q3, q4, hB, hx8, hy8, h⟩
    by_cases g3 : (i : Int) < n
    · obtain ⟨b, off, cs, hl, rfl, hQ, _, hc, hld⟩ := hv0.at (by decide) (i := i) (by omega)
      obtain ⟨sec, w, t, rfl, ht⟩ := move_l hQ
      have g0 : (0 : Int) ≤ i ∧ (i : Int) < n := ⟨by omega, g3⟩
      have gw : (w : Int).tmod 10 = ((w % 10 : Nat) : Int) := rfl
      obtain ⟨cc, hcc⟩ : ∃ cc : UInt8, cc.toNat = i := ⟨UInt8.ofNat i, by simp; omega⟩
      have el := h.rold hld
      have d0 := hc 0 (by decide)
      have d1 := hc 1 (by decide)
      simp only [List.getElem?_cons_zero, List.getElem?_cons_succ, Nat.add_zero] at d0 d1
      replace d0 := h.roc d0
      have hyb := hB.y.b
      have hxb := hB.x.b
      replace d1 := h.roc d1
      obtain ⟨sp, _, _, _, _, _, _, _, _, _, _, _, h1⟩ := eE_open h
      have c1 := h1.c0
      obtain ⟨sq, _, _, _, _, _, _, _, _, _, _, _, h2⟩ := eE_open (h.front 1)
      have c2 := h2.c0
      clear h1 h2
      by_cases g4 : (w : Int).tmod 10 = 9
      · ((try simp only [S, TY, reduceCtorEq, nq0, nq1, nq2, nq3, nq4, iq0, iq1, iq2, iq3, iq4, iq5, iq6, iq7, iq8, q0, q3, q4, q5, g0, g3, g4, n10, c1, c2, d0, d1]); (try (simp (disch := omega) only [W2, Int.cast_ofNat_Int]; (try simp only [S, TY, reduceCtorEq, nq0, nq1, nq2, nq3, nq4, iq0, iq1, iq2, iq3, iq4, iq5, iq6, iq7, iq8, q0, q3, q4, q5, g0, g3, g4, n10, c1, c2, d0, d1]))))
        refine (start_ok (y.bt + 1) (by omega)).at_ h [] _ rfl fun r B H3 hr h3 => ?_
        obtain ⟨k, rfl, rfl⟩ := hr
        obtain ⟨sr, ir, or, lr, icr, ocr, lcr, rl, hr1, _, _, _, h4⟩ := eE_open h3
        obtain ⟨sq', iq, oq, lq, icq, ocq, lcq, ql, hq1, _, _, _, h5⟩ := eE_open (h4.front 7)
        simp only [front_eq, fronts_nil, fronts_cons, List.getElem?_cons_zero, List.getElem?_cons_succ, List.eraseIdx_cons_zero, List.eraseIdx_cons_succ, List.cons_append, List.nil_append, putL_cons, putL_nil, List.set_cons_zero, List.set_cons_succ, Nat.reduceAdd] at h5
        have c5 := h5.c0
        ((try simp only [S, TY, reduceCtorEq, nq0, nq1, nq2, nq3, nq4, iq0, iq1, iq2, iq3, iq4, iq5, iq6, iq7, iq8, q0, q3, q4, q5, c5]); (try (simp (disch := omega) only [W2, Int.cast_ofNat_Int]; (try simp only [S, TY, reduceCtorEq, nq0, nq1, nq2, nq3, nq4, iq0, iq1, iq2, iq3, iq4, iq5, iq6, iq7, iq8, q0, q3, q4, q5, c5]))))
        refine sg.st (h5.front 6) rfl rfl fun H6 h6 => ?_
        simp only [front_eq, fronts_nil, fronts_cons, List.getElem?_cons_zero, List.getElem?_cons_succ, List.eraseIdx_cons_zero, List.eraseIdx_cons_succ, List.cons_append, List.nil_append, putL_cons, putL_nil, List.set_cons_zero, List.set_cons_succ, Nat.reduceAdd] at h6
        ((try simp only [S, TY, reduceCtorEq, nq0, nq1, nq2, nq3, nq4, iq0, iq1, iq2, iq3, iq4, iq5, iq6, iq7, iq8, q0, q3, q4, q5]); (try (simp (disch := omega) only [W2, Int.cast_ofNat_Int]; (try simp only [S, TY, reduceCtorEq, nq0, nq1, nq2, nq3, nq4, iq0, iq1, iq2, iq3, iq4, iq5, iq6, iq7, iq8, q0, q3, q4, q5]))))
        have h7 := eE_shut y.re (zl := ql) hq1 (h6.fronts [0, 6, 6, 6, 4, 4])
        simp only [front_eq, fronts_nil, fronts_cons, List.getElem?_cons_zero, List.getElem?_cons_succ, List.eraseIdx_cons_zero, List.eraseIdx_cons_succ, List.cons_append, List.nil_append, putL_cons, putL_nil, List.set_cons_zero, List.set_cons_succ, Nat.reduceAdd] at h7
        have h8 := h7.fronts [7, 0]
        simp only [front_eq, fronts_nil, fronts_cons, List.getElem?_cons_zero, List.getElem?_cons_succ, List.eraseIdx_cons_zero, List.eraseIdx_cons_succ, List.cons_append, List.nil_append, putL_cons, putL_nil, List.set_cons_zero, List.set_cons_succ, Nat.reduceAdd] at h8
        have hB' := hB.re (by omega)
        ((try simp only [S, TY, reduceCtorEq, nq0, nq1, nq2, nq3, nq4, iq0, iq1, iq2, iq3, iq4, iq5, iq6, iq7, iq8, q0, q3, q4, q5]); (try (simp (disch := omega) only [W2, Int.cast_ofNat_Int]; (try simp only [S, TY, reduceCtorEq, nq0, nq1, nq2, nq3, nq4, iq0, iq1, iq2, iq3, iq4, iq5, iq6, iq7, iq8, q0, q3, q4, q5]))))
        refine begins_ok.at_ h8 [0] _ rfl fun r B H5 hr h5 => ?_
        obtain ⟨rfl, rfl⟩ := hr
        rw [hB'.beg]
        simp only [front_eq, fronts_nil, fronts_cons, List.getElem?_cons_zero, List.getElem?_cons_succ, List.eraseIdx_cons_zero, List.eraseIdx_cons_succ, List.cons_append, List.nil_append, putL_cons, putL_nil, List.set_cons_zero, List.set_cons_succ, Nat.reduceAdd] at h5
        ((try simp only [S, TY, reduceCtorEq, nq0, nq1, nq2, nq3, nq4, iq0, iq1, iq2, iq3, iq4, iq5, iq6, iq7, iq8, q0, q3, q4, q5]); (try (simp (disch := omega) only [W2, Int.cast_ofNat_Int]; (try simp only [S, TY, reduceCtorEq, nq0, nq1, nq2, nq3, nq4, iq0, iq1, iq2, iq3, iq4, iq5, iq6, iq7, iq8, q0, q3, q4, q5]))))
        refine begins_ok.at_ h5 [1, 0] _ rfl fun r B H6 hr h6 => ?_
        obtain ⟨rfl, rfl⟩ := hr
        rw [hB'.swap.beg]
        simp only [front_eq, fronts_nil, fronts_cons, List.getElem?_cons_zero, List.getElem?_cons_succ, List.eraseIdx_cons_zero, List.eraseIdx_cons_succ, List.cons_append, List.nil_append, putL_cons, putL_nil, List.set_cons_zero, List.set_cons_succ, Nat.reduceAdd] at h6
        ((try simp only [S, TY, reduceCtorEq, nq0, nq1, nq2, nq3, nq4, iq0, iq1, iq2, iq3, iq4, iq5, iq6, iq7, iq8, q0, q3, q4, q5]); (try (simp (disch := omega) only [W2, Int.cast_ofNat_Int]; (try simp only [S, TY, reduceCtorEq, nq0, nq1, nq2, nq3, nq4, iq0, iq1, iq2, iq3, iq4, iq5, iq6, iq7, iq8, q0, q3, q4, q5]))))
        exact .go (i + 1) (by omega) ⟨by omega, q0, rfl, p, k, x, y.re, q3, rfl, hB', by omega, by show y.l.length ≤ _; omega, ⟨h6.1, seps_take (B := [_, _]) (h6.fronts [1, 0]).2⟩⟩
      · cases sec with
        | true =>
          ((try simp only [S, TY, reduceCtorEq, nq0, nq1, nq2, nq3, nq4, iq0, iq1, iq2, iq3, iq4, iq5, iq6, iq7, iq8, q0, q3, q4, q5, g0, g3, g4, n10, c1, c2, d0, d1, el]); (try (simp (disch := omega) only [W2, Int.cast_ofNat_Int]; (try simp only [S, TY, reduceCtorEq, nq0, nq1, nq2, nq3, nq4, iq0, iq1, iq2, iq3, iq4, iq5, iq6, iq7, iq8, q0, q3, q4, q5, g0, g3, g4, n10, c1, c2, d0, d1, el]))))
          obtain ⟨hok, hB'⟩ := SeS.act_ok hB.swap (by omega) w t cc
          obtain ⟨hl1, hl2⟩ := act_len y x w t cc
          rw [← hcc]
          refine (SeZ.act_ok true w t cc hB.swap.x (by omega) ht (by omega) (by omega)).at_ h [1, 0] _ rfl fun r B H4 hr h4 => ?_
          obtain ⟨rfl, rfl⟩ := hr
          rw [hok]
          obtain ⟨res, hres⟩ : ∃ r, act y x w t cc = r := ⟨_, rfl⟩
          rw [hres] at h4 hB' hl1 hl2
          obtain ⟨x', y', ok⟩ := res
          simp only at h4 hB' hl1 hl2
          rw [hcc]
          simp only [front_eq, fronts_nil, fronts_cons, List.getElem?_cons_zero, List.getElem?_cons_succ, List.eraseIdx_cons_zero, List.eraseIdx_cons_succ, List.cons_append, List.nil_append, putL_cons, putL_nil, List.set_cons_zero, List.set_cons_succ, Nat.reduceAdd] at h4
          ((try simp only [S, TY, reduceCtorEq, nq0, nq1, nq2, nq3, nq4, iq0, iq1, iq2, iq3, iq4, iq5, iq6, iq7, iq8, q0, q3, q4, q5]); (try (simp (disch := omega) only [W2, Int.cast_ofNat_Int]; (try simp only [S, TY, reduceCtorEq, nq0, nq1, nq2, nq3, nq4, iq0, iq1, iq2, iq3, iq4, iq5, iq6, iq7, iq8, q0, q3, q4, q5]))))
          refine begins_ok.at_ h4 [1, 0] _ rfl fun r B H5 hr h5 => ?_
          obtain ⟨rfl, rfl⟩ := hr
          rw [hB'.swap.beg]
          simp only [front_eq, fronts_nil, fronts_cons, List.getElem?_cons_zero, List.getElem?_cons_succ, List.eraseIdx_cons_zero, List.eraseIdx_cons_succ, List.cons_append, List.nil_append, putL_cons, putL_nil, List.set_cons_zero, List.set_cons_succ, Nat.reduceAdd] at h5
          ((try simp only [S, TY, reduceCtorEq, nq0, nq1, nq2, nq3, nq4, iq0, iq1, iq2, iq3, iq4, iq5, iq6, iq7, iq8, q0, q3, q4, q5]); (try (simp (disch := omega) only [W2, Int.cast_ofNat_Int]; (try simp only [S, TY, reduceCtorEq, nq0, nq1, nq2, nq3, nq4, iq0, iq1, iq2, iq3, iq4, iq5, iq6, iq7, iq8, q0, q3, q4, q5]))))
          refine begins_ok.at_ h5 [1, 0] _ rfl fun r B H6 hr h6 => ?_
          obtain ⟨rfl, rfl⟩ := hr
          rw [hB'.swap.swap.beg]
          simp only [front_eq, fronts_nil, fronts_cons, List.getElem?_cons_zero, List.getElem?_cons_succ, List.eraseIdx_cons_zero, List.eraseIdx_cons_succ, List.cons_append, List.nil_append, putL_cons, putL_nil, List.set_cons_zero, List.set_cons_succ, Nat.reduceAdd] at h6
          ((try simp only [S, TY, reduceCtorEq, nq0, nq1, nq2, nq3, nq4, iq0, iq1, iq2, iq3, iq4, iq5, iq6, iq7, iq8, q0, q3, q4, q5]); (try (simp (disch := omega) only [W2, Int.cast_ofNat_Int]; (try simp only [S, TY, reduceCtorEq, nq0, nq1, nq2, nq3, nq4, iq0, iq1, iq2, iq3, iq4, iq5, iq6, iq7, iq8, q0, q3, q4, q5]))))
          exact .go (i + 1) (by omega) ⟨by omega, q0, rfl, p, q, y', x', q3, q4, hB'.swap, by omega, by omega, h6.front 1⟩
        | false =>
          ((try simp only [S, TY, reduceCtorEq, nq0, nq1, nq2, nq3, nq4, iq0, iq1, iq2, iq3, iq4, iq5, iq6, iq7, iq8, q0, q3, q4, q5, g0, g3, g4, n10, c1, c2, d0, d1, el]); (try (simp (disch := omega) only [W2, Int.cast_ofNat_Int]; (try simp only [S, TY, reduceCtorEq, nq0, nq1, nq2, nq3, nq4, iq0, iq1, iq2, iq3, iq4, iq5, iq6, iq7, iq8, q0, q3, q4, q5, g0, g3, g4, n10, c1, c2, d0, d1, el]))))
          obtain ⟨hok, hB'⟩ := SeS.act_ok hB (by omega) w t cc
          obtain ⟨hl1, hl2⟩ := act_len x y w t cc
          rw [← hcc]
          refine (SeZ.act_ok false w t cc hB.x (by omega) ht (by omega) (by omega)).at_ h [0, 0] _ rfl fun r B H4 hr h4 => ?_
          obtain ⟨rfl, rfl⟩ := hr
          rw [hok]
          obtain ⟨res, hres⟩ : ∃ r, act x y w t cc = r := ⟨_, rfl⟩
          rw [hres] at h4 hB' hl1 hl2
          obtain ⟨x', y', ok⟩ := res
          simp only at h4 hB' hl1 hl2
          rw [hcc]
          simp only [front_eq, fronts_nil, fronts_cons, List.getElem?_cons_zero, List.getElem?_cons_succ, List.eraseIdx_cons_zero, List.eraseIdx_cons_succ, List.cons_append, List.nil_append, putL_cons, putL_nil, List.set_cons_zero, List.set_cons_succ, Nat.reduceAdd] at h4
          ((try simp only [S, TY, reduceCtorEq, nq0, nq1, nq2, nq3, nq4, iq0, iq1, iq2, iq3, iq4, iq5, iq6, iq7, iq8, q0, q3, q4, q5]); (try (simp (disch := omega) only [W2, Int.cast_ofNat_Int]; (try simp only [S, TY, reduceCtorEq, nq0, nq1, nq2, nq3, nq4, iq0, iq1, iq2, iq3, iq4, iq5, iq6, iq7, iq8, q0, q3, q4, q5]))))
          refine begins_ok.at_ h4 [0, 0] _ rfl fun r B H5 hr h5 => ?_
          obtain ⟨rfl, rfl⟩ := hr
          rw [hB'.beg]
          simp only [front_eq, fronts_nil, fronts_cons, List.getElem?_cons_zero, List.getElem?_cons_succ, List.eraseIdx_cons_zero, List.eraseIdx_cons_succ, List.cons_append, List.nil_append, putL_cons, putL_nil, List.set_cons_zero, List.set_cons_succ, Nat.reduceAdd] at h5
          ((try simp only [S, TY, reduceCtorEq, nq0, nq1, nq2, nq3, nq4, iq0, iq1, iq2, iq3, iq4, iq5, iq6, iq7, iq8, q0, q3, q4, q5]); (try (simp (disch := omega) only [W2, Int.cast_ofNat_Int]; (try simp only [S, TY, reduceCtorEq, nq0, nq1, nq2, nq3, nq4, iq0, iq1, iq2, iq3, iq4, iq5, iq6, iq7, iq8, q0, q3, q4, q5]))))
          refine begins_ok.at_ h5 [1, 0] _ rfl fun r B H6 hr h6 => ?_
          obtain ⟨rfl, rfl⟩ := hr
          rw [hB'.swap.beg]
          simp only [front_eq, fronts_nil, fronts_cons, List.getElem?_cons_zero, List.getElem?_cons_succ, List.eraseIdx_cons_zero, List.eraseIdx_cons_succ, List.cons_append, List.nil_append, putL_cons, putL_nil, List.set_cons_zero, List.set_cons_succ, Nat.reduceAdd] at h6
          ((try simp only [S, TY, reduceCtorEq, nq0, nq1, nq2, nq3, nq4, iq0, iq1, iq2, iq3, iq4, iq5, iq6, iq7, iq8, q0, q3, q4, q5]); (try (simp (disch := omega) only [W2, Int.cast_ofNat_Int]; (try simp only [S, TY, reduceCtorEq, nq0, nq1, nq2, nq3, nq4, iq0, iq1, iq2, iq3, iq4, iq5, iq6, iq7, iq8, q0, q3, q4, q5]))))
          exact .go (i + 1) (by omega) ⟨by omega, q0, rfl, p, q, x', y', q3, q4, hB', by omega, by omega, h6.front 1⟩
    · ((try simp only [S, TY, reduceCtorEq, nq0, nq1, nq2, nq3, nq4, iq0, iq1, iq2, iq3, iq4, iq5, iq6, iq7, iq8, q0, q3, q4, q5, g3]); (try (simp (disch := omega) only [W2, Int.cast_ofNat_Int]; (try simp only [S, TY, reduceCtorEq, nq0, nq1, nq2, nq3, nq4, iq0, iq1, iq2, iq3, iq4, iq5, iq6, iq7, iq8, q0, q3, q4, q5, g3]))))
      refine alive.at_ h [] _ rfl fun r B H2 hr h2 => ?_
      obtain ⟨rfl, rfl⟩ := hr
      ((try simp only [S, TY, reduceCtorEq, nq0, nq1, nq2, nq3, nq4, iq0, iq1, iq2, iq3, iq4, iq5, iq6, iq7, iq8]); (try (simp (disch := omega) only [W2, Int.cast_ofNat_Int]; (try simp only [S, TY, reduceCtorEq, nq0, nq1, nq2, nq3, nq4, iq0, iq1, iq2, iq3, iq4, iq5, iq6, iq7, iq8]))))
      exact fin_take (B := []) h2 ⟨rfl, rfl⟩
theorem orderV {G : Hp} {v0 : Value} {y0 : (Ty.sl MT).den} (h0 : Ty.V G (.sl MT) v0 y0) : Con Try.prog G 7 [v0] [] (fun r B => r = .bool true ∧ B = []) := by
  rcases h0 with ⟨h, _⟩ | ⟨_, w, h0, hv⟩
  · cases h
  cases h0
  exact orderLaw hv
end Go.Proofs.Ytanhmbdcdbcfmaa.SeZ
