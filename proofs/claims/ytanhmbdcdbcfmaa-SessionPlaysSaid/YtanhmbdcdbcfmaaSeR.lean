/- The document's session, over the machine. -/
import Derived.Test.YtanhmbdcdbcfmaaSeN
import Derived.Test.YtanhmbdcdbcfmaaSeD
set_option linter.unusedVariables false
set_option linter.unusedSimpArgs false
set_option maxRecDepth 10000
set_option maxHeartbeats 4000000
namespace Go.Proofs.Ytanhmbdcdbcfmaa.SeR
open Nat renaming reduceEqDiff → nq0, reduceAdd → nq1, reduceLeDiff → nq2, reduceBEq → nq3, reduceMul → nq4
open Int renaming reduceBEq → iq0, reduceEq → iq1, reduceLT → iq2, reduceLE → iq3, reduceAdd → iq4, reduceSub → iq5, reduceMul → iq6, reduceToNat → iq7, cast_ofNat_Int → iq8
open Go Go.Sl Go.Proofs Go.Proofs.Ytanhmbdcdbcfmaa.Buf Go.Proofs.Ytanhmbdcdbcfmaa.BufRd Go.Proofs.Ytanhmbdcdbcfmaa.BufRe Go.Proofs.Ytanhmbdcdbcfmaa.BufP Go.Proofs.Ytanhmbdcdbcfmaa.SeP Go.Proofs.Ytanhmbdcdbcfmaa.Se Go.Proofs.Ytanhmbdcdbcfmaa.SeS Go.Proofs.Ytanhmbdcdbcfmaa.SeD
theorem TY : aggN Try.prog 3 = some none ∧
  aggN Try.prog 4 = some none ∧
  aggN Try.prog 9 = some none ∧
  aggN Try.prog 65 = some (some 5) ∧
  aggN Try.prog 87 = some none ∧
  aggN Try.prog 89 = some (some 5) ∧
  aggN Try.prog 243 = some none ∧
  aggN Try.prog 246 = some (some 3) ∧
  apI Try.prog 87 = some (9, 1, 16) ∧
  apI Try.prog 243 = some (65, 5, 48) ∧
  bIs Try.prog 65 = true ∧
  bIs Try.prog 89 = true ∧
  bIs Try.prog 246 = true ∧
  boIs Try.prog 4 = true ∧
  csz Try.prog 3 = some 1 ∧
  csz Try.prog 4 = some 1 ∧
  csz Try.prog 9 = some 1 ∧
  csz Try.prog 65 = some 5 ∧
  csz Try.prog 87 = some 1 ∧
  csz Try.prog 89 = some 5 ∧
  csz Try.prog 243 = some 1 ∧
  csz Try.prog 246 = some 3 ∧
  eqF Try.prog 65 = some [.i, .i, .i, .i, .s] ∧
  eqF Try.prog 246 = some [.s, .b, .b] ∧
  fIs Try.prog 65 0 = true ∧
  fIs Try.prog 65 1 = true ∧
  fIs Try.prog 65 2 = true ∧
  fIs Try.prog 65 3 = true ∧
  fIs Try.prog 65 4 = true ∧
  fIs Try.prog 89 0 = true ∧
  fIs Try.prog 89 1 = true ∧
  fIs Try.prog 89 2 = true ∧
  fIs Try.prog 89 3 = true ∧
  fIs Try.prog 89 4 = true ∧
  fIs Try.prog 246 0 = true ∧
  fIs Try.prog 246 1 = true ∧
  fIs Try.prog 246 2 = true ∧
  fOff Try.prog 65 0 = 0 ∧
  fOff Try.prog 65 1 = 1 ∧
  fOff Try.prog 65 2 = 2 ∧
  fOff Try.prog 65 3 = 3 ∧
  fOff Try.prog 65 4 = 4 ∧
  fOff Try.prog 89 0 = 0 ∧
  fOff Try.prog 89 1 = 1 ∧
  fOff Try.prog 89 2 = 2 ∧
  fOff Try.prog 89 3 = 3 ∧
  fOff Try.prog 89 4 = 4 ∧
  fOff Try.prog 246 0 = 0 ∧
  fOff Try.prog 246 1 = 1 ∧
  fOff Try.prog 246 2 = 2 ∧
  fTy Try.prog 65 0 = 3 ∧
  fTy Try.prog 65 1 = 3 ∧
  fTy Try.prog 65 2 = 3 ∧
  fTy Try.prog 65 3 = 3 ∧
  fTy Try.prog 65 4 = 9 ∧
  fTy Try.prog 89 0 = 3 ∧
  fTy Try.prog 89 1 = 3 ∧
  fTy Try.prog 89 2 = 3 ∧
  fTy Try.prog 89 3 = 3 ∧
  fTy Try.prog 89 4 = 87 ∧
  fTy Try.prog 246 0 = 9 ∧
  fTy Try.prog 246 1 = 4 ∧
  fTy Try.prog 246 2 = 4 ∧
  goes Try.prog 30 = true ∧
  goes Try.prog 119 = true ∧
  inIs Try.prog 3 = some .i64 ∧
  plcs Try.prog 65 = [(0, 1), (1, 1), (2, 1), (3, 1), (4, 1)] ∧
  plcs Try.prog 89 = [(0, 1), (1, 1), (2, 1), (3, 1), (4, 1)] ∧
  plcs Try.prog 246 = [(0, 1), (1, 1), (2, 1)] ∧
  slEl Try.prog 87 = 9 ∧
  slEl Try.prog 243 = 65 ∧
  slIs Try.prog 87 = true ∧
  slIs Try.prog 243 = true ∧
  slSz Try.prog 87 = 1 ∧
  slSz Try.prog 243 = 5 ∧
  stIs Try.prog 9 = true ∧
  zcs Try.prog 65 = [.int .i64 0, .int .i64 0, .int .i64 0, .int .i64 0, .string ByteArray.empty] ∧
  zcs Try.prog 89 = [.int .i64 0, .int .i64 0, .int .i64 0, .int .i64 0, .slice none 0 0] ∧
  zcs Try.prog 246 = [.string ByteArray.empty, .bool false, .bool false] ∧
  zro Try.prog 3 = some (.int .i64 0) ∧
  zro Try.prog 4 = some (.bool false) ∧
  zro Try.prog 9 = some (.string ByteArray.empty) ∧
  zro Try.prog 65 = some (.agg #[.int .i64 0, .int .i64 0, .int .i64 0, .int .i64 0, .string ByteArray.empty]) ∧
  zro Try.prog 87 = some (.slice none 0 0) ∧
  zro Try.prog 89 = some (.agg #[.int .i64 0, .int .i64 0, .int .i64 0, .int .i64 0, .slice none 0 0]) ∧
  zro Try.prog 243 = some (.slice none 0 0) ∧
  zro Try.prog 246 = some (.agg #[.string ByteArray.empty, .bool false, .bool false]) :=
  ⟨by kernel_rfl, by kernel_rfl, by kernel_rfl, by kernel_rfl, by kernel_rfl, by kernel_rfl, by kernel_rfl, by kernel_rfl, by kernel_rfl, by kernel_rfl, by kernel_rfl, by kernel_rfl, by kernel_rfl, by kernel_rfl, by kernel_rfl, by kernel_rfl, by kernel_rfl, by kernel_rfl, by kernel_rfl, by kernel_rfl, by kernel_rfl, by kernel_rfl, by kernel_rfl, by kernel_rfl, by kernel_rfl, by kernel_rfl, by kernel_rfl, by kernel_rfl, by kernel_rfl, by kernel_rfl, by kernel_rfl, by kernel_rfl, by kernel_rfl, by kernel_rfl, by kernel_rfl, by kernel_rfl, by kernel_rfl, by kernel_rfl, by kernel_rfl, by kernel_rfl, by kernel_rfl, by kernel_rfl, by kernel_rfl, by kernel_rfl, by kernel_rfl, by kernel_rfl, by kernel_rfl, by kernel_rfl, by kernel_rfl, by kernel_rfl, by kernel_rfl, by kernel_rfl, by kernel_rfl, by kernel_rfl, by kernel_rfl, by kernel_rfl, by kernel_rfl, by kernel_rfl, by kernel_rfl, by kernel_rfl, by kernel_rfl, by kernel_rfl, by kernel_rfl, by kernel_rfl, by kernel_rfl, by kernel_rfl, by kernel_rfl, by kernel_rfl, by kernel_rfl, by kernel_rfl, by kernel_rfl, by kernel_rfl, by kernel_rfl, by kernel_rfl, by kernel_rfl, by kernel_rfl, by kernel_rfl, by kernel_rfl, by kernel_rfl, by kernel_rfl, by kernel_rfl, by kernel_rfl, by kernel_rfl, by kernel_rfl, by kernel_rfl, by kernel_rfl, by kernel_rfl⟩
def D134_1 : List Note := Go.Sl.nn [0, 0, 0, 1, 0, 0, 0, 1, 0, 0, 0, 1, 0, 2, 3]
def D135_4 : List Note := Go.Sl.nn [0, 1, 0, 0, 0, 1, 0]
def D135_6 : List Note := Go.Sl.nn [0, 1, 0, 0, 0, 1, 0, 0, 2, 3]
def D135_12 : List Note := Go.Sl.nn [0, 1, 0, 0, 0, 1, 0]
def D135_14 : List Note := Go.Sl.nn [0, 0, 0, 1, 0, 0, 0, 0, 0, 0, 1, 0, 1, 0, 0]
def D135_17 : List Note := Go.Sl.nn [0, 1, 0, 0, 0, 1, 0, 0]
abbrev str (b : List UInt8) : Value := .string (bs b)
theorem str_one (q : List (List UInt8)) : ∀ v ∈ q.map str, v.oneCell' = true := by
  intro v hv
  obtain ⟨b, _, rfl⟩ := List.mem_map.1 hv
  rfl
abbrev dsl (s : Ses) (v : Value) : List Value := [.int .i64 s.m, .int .i64 s.p, .int .i64 s.n, .int .i64 s.g, v]
def dS (a : Nat) (s : Ses) : Asn := fun H => ∃ v, seps [ob a (.cells (dsl s v).toArray 89 (0, 0)), own 9 1 v (s.q.map str)] H
theorem dS_open {G H : Hp} {a : Nat} {s : Ses} {L : List Asn} (h : sg G (dS a s :: L) H) : ∃ va c, s.q.length ≤ c ∧
    sg G (ob a (.cells (dsl s (.slice va s.q.length c)).toArray 89 (0, 0)) :: own 9 1 (.slice va s.q.length c) (s.q.map str) :: L) H := by
  obtain ⟨hd, H1, H2, rfl, hd2, ⟨v, h1⟩, h2⟩ := h
  have h3 : sg G (ob a (.cells (dsl s v).toArray 89 (0, 0)) :: own 9 1 v (s.q.map str) :: L) (H1.un H2) := ⟨hd, seps_append (l := [_, _]).2 ⟨H1, H2, rfl, hd2, h1, h2⟩⟩
  obtain ⟨va, vn, vc, rfl, e1, e2⟩ := h3.sl 1 rfl Rd_own
  rw [List.length_map] at e1
  obtain rfl : vn = s.q.length := by omega
  exact ⟨va, vc, e2, h3⟩
theorem dS_shut {G H : Hp} {a : Nat} (s : Ses) {v : Value} {L : List Asn} (h : sg G (ob a (.cells (dsl s v).toArray 89 (0, 0)) :: own 9 1 v (s.q.map str) :: L) H) : sg G (dS a s :: L) H :=
  h.shut [_, _] fun H _ h => ⟨v, h⟩
theorem Begin_ok {G : Hp} (m : Int) : Con Try.prog G 39 [.int .i64 m] [] (fun r B => ∃ a, r = .pointer (some ⟨a, 0, none⟩) ∧ B = [dS a (Ses.new m)]) := by
  refine Con.intro Try.func39 rfl (Nat.le_of_ble_eq_true (by kernel_rfl)) (by kernel_rfl) Try.results39 ?_
  intro H hH
  ((try simp only [S, TY, reduceCtorEq, nq0, nq1, nq2, nq3, nq4, iq0, iq1, iq2, iq3, iq4, iq5, iq6, iq7, iq8]); (try (simp (disch := omega) only [W2, Int.cast_ofNat_Int]; (try simp only [S, TY, reduceCtorEq, nq0, nq1, nq2, nq3, nq4, iq0, iq1, iq2, iq3, iq4, iq5, iq6, iq7, iq8]))))
  intro a ha hg
  have h2 := dS_shut (Ses.new m) ((hH.nil_ 9 1).new ha hg (.cells (dsl (Ses.new m) (.slice none 0 0)).toArray 89 (0, 0)))
  ((try simp only [S, TY, reduceCtorEq, nq0, nq1, nq2, nq3, nq4, iq0, iq1, iq2, iq3, iq4, iq5, iq6, iq7, iq8]); (try (simp (disch := omega) only [W2, Int.cast_ofNat_Int]; (try simp only [S, TY, reduceCtorEq, nq0, nq1, nq2, nq3, nq4, iq0, iq1, iq2, iq3, iq4, iq5, iq6, iq7, iq8]))))
  exact fin_take (B := [_]) h2 ⟨a, rfl, rfl⟩
theorem dPush_ok {G : Hp} {a : Nat} {s : Ses} {l : List UInt8} (hw : s.q.length ≤ 64) : Con Try.prog G 132 [.pointer (some ⟨a, 0, none⟩), str l] [dS a s] (fun r B => r = .int .i64 (s.push l).2 ∧ B = [dS a (s.push l).1]) := by
  obtain ⟨res, hres⟩ : ∃ r, s.push l = r := ⟨_, rfl⟩
  rw [hres]
  unfold Ses.push at hres
  refine Con.intro Try.func132 rfl (Nat.le_of_ble_eq_true (by kernel_rfl)) (by kernel_rfl) Try.results132 ?_
  intro H hH
  obtain ⟨va, c, e2, h⟩ := dS_open hH
  ((try simp only [S, TY, reduceCtorEq, nq0, nq1, nq2, nq3, nq4, iq0, iq1, iq2, iq3, iq4, iq5, iq6, iq7, iq8]); (try (simp (disch := omega) only [W2, Int.cast_ofNat_Int]; (try simp only [S, TY, reduceCtorEq, nq0, nq1, nq2, nq3, nq4, iq0, iq1, iq2, iq3, iq4, iq5, iq6, iq7, iq8]))))
  refine (In_ok _ _ _).at_ h [] _ rfl fun r B H1 hr h1 => ?_
  obtain ⟨rfl, rfl⟩ := hr
  simp only [front_eq, fronts_nil, fronts_cons, List.getElem?_cons_zero, List.getElem?_cons_succ, List.eraseIdx_cons_zero, List.eraseIdx_cons_succ, List.cons_append, List.nil_append, putL_cons, putL_nil, List.set_cons_zero, List.set_cons_succ, Nat.reduceAdd] at h1
  have c1 := h1.c0
  by_cases g1 : 1 ≤ l.length ∧ l.length ≤ 1000
  · rw [if_pos g1] at hres
    have g1' : (1 : Int) ≤ l.length ∧ (l.length : Int) ≤ 1000 := by omega
    by_cases g2 : 64 ≤ s.q.length
    · rw [if_pos g2] at hres
      subst hres
      have g2' : (64 : Int) ≤ s.q.length := by omega
      ((try simp only [S, TY, reduceCtorEq, nq0, nq1, nq2, nq3, nq4, iq0, iq1, iq2, iq3, iq4, iq5, iq6, iq7, iq8, g1', c1, g2']); (try (simp (disch := omega) only [W2, Int.cast_ofNat_Int]; (try simp only [S, TY, reduceCtorEq, nq0, nq1, nq2, nq3, nq4, iq0, iq1, iq2, iq3, iq4, iq5, iq6, iq7, iq8, g1', c1, g2']))))
      exact fin_take (B := [_]) (dS_shut s h1) ⟨rfl, rfl⟩
    · rw [if_neg g2] at hres
      subst hres
      have g2' : ¬ (64 : Int) ≤ s.q.length := by omega
      ((try simp only [S, TY, reduceCtorEq, nq0, nq1, nq2, nq3, nq4, iq0, iq1, iq2, iq3, iq4, iq5, iq6, iq7, iq8, g1', c1, g2']); (try (simp (disch := omega) only [W2, Int.cast_ofNat_Int]; (try simp only [S, TY, reduceCtorEq, nq0, nq1, nq2, nq3, nq4, iq0, iq1, iq2, iq3, iq4, iq5, iq6, iq7, iq8, g1', c1, g2']))))
      intro b hb hg
      have h3 := h1.newsl (e := 9) (sz := 1) (n := 1) (xs := [str l]) hb hg rfl
      have c3 := (h3.front 1).c0
      ((try simp only [S, TY, reduceCtorEq, nq0, nq1, nq2, nq3, nq4, iq0, iq1, iq2, iq3, iq4, iq5, iq6, iq7, iq8, c1, c3]); (try (simp (disch := omega) only [W2, Int.cast_ofNat_Int]; (try simp only [S, TY, reduceCtorEq, nq0, nq1, nq2, nq3, nq4, iq0, iq1, iq2, iq3, iq4, iq5, iq6, iq7, iq8, c1, c3]))))
      refine append_sl (show apI Try.prog 87 = some (9, 1, 16) from by kernel_rfl) (show slIs Try.prog 87 = true from by kernel_rfl) (h3.front 2) ((h3.front 2).rdsi 1 rfl Rd_own) (by simp [Value.oneCell']) (by simp; omega) fun w H4 h4 => ?_
      simp only [front_eq, fronts_nil, fronts_cons, List.getElem?_cons_zero, List.getElem?_cons_succ, List.eraseIdx_cons_zero, List.eraseIdx_cons_succ, List.cons_append, List.nil_append, putL_cons, putL_nil, List.set_cons_zero, List.set_cons_succ, Nat.reduceAdd] at h4
      have c4 := (h4.front 2).c0
      obtain ⟨wa, wn, wc, rfl, _, _⟩ := h4.sl 0 rfl Rd_own
      ((try simp only [S, TY, reduceCtorEq, nq0, nq1, nq2, nq3, nq4, iq0, iq1, iq2, iq3, iq4, iq5, iq6, iq7, iq8, c1, c3, c4]); (try (simp (disch := omega) only [W2, Int.cast_ofNat_Int]; (try simp only [S, TY, reduceCtorEq, nq0, nq1, nq2, nq3, nq4, iq0, iq1, iq2, iq3, iq4, iq5, iq6, iq7, iq8, c1, c3, c4]))))
      refine sg.st (h4.front 2) rfl rfl fun H5 h5 => ?_
      simp only [front_eq, fronts_nil, fronts_cons, List.getElem?_cons_zero, List.getElem?_cons_succ, List.eraseIdx_cons_zero, List.eraseIdx_cons_succ, List.cons_append, List.nil_append, putL_cons, putL_nil, List.set_cons_zero, List.set_cons_succ, Nat.reduceAdd] at h5
      have e : s.q.map str ++ [str l] = (s.q ++ [l]).map str := by simp
      rw [e] at h5
      ((try simp only [S, TY, reduceCtorEq, nq0, nq1, nq2, nq3, nq4, iq0, iq1, iq2, iq3, iq4, iq5, iq6, iq7, iq8]); (try (simp (disch := omega) only [W2, Int.cast_ofNat_Int]; (try simp only [S, TY, reduceCtorEq, nq0, nq1, nq2, nq3, nq4, iq0, iq1, iq2, iq3, iq4, iq5, iq6, iq7, iq8]))))
      exact fin_take (B := [_]) (dS_shut ⟨s.m, s.p, s.n, s.g, s.q ++ [l]⟩ h5) ⟨rfl, rfl⟩
  · rw [if_neg g1] at hres
    subst hres
    have g1' : ¬ ((1 : Int) ≤ l.length ∧ (l.length : Int) ≤ 1000) := by omega
    ((try simp only [S, TY, reduceCtorEq, nq0, nq1, nq2, nq3, nq4, iq0, iq1, iq2, iq3, iq4, iq5, iq6, iq7, iq8, g1', c1]); (try (simp (disch := omega) only [W2, Int.cast_ofNat_Int]; (try simp only [S, TY, reduceCtorEq, nq0, nq1, nq2, nq3, nq4, iq0, iq1, iq2, iq3, iq4, iq5, iq6, iq7, iq8, g1', c1]))))
    exact fin_take (B := [_]) (dS_shut s h1) ⟨rfl, rfl⟩
/-- Letters, as the document has them. -/
def dls (l : List Lt) : List Value := l.flatMap dl
theorem dl_len (x : Lt) : (dl x).length = 5 := rfl
theorem dl_one (x : Lt) : ∀ v ∈ dl x, v.oneCell' = true := by
  intro v hv
  simp only [dl, dll, List.mem_cons, List.not_mem_nil, or_false] at hv
  rcases hv with rfl | rfl | rfl | rfl | rfl <;> rfl
abbrev dlz (m p a : Int) (q : Int) (v : Value) : List Value := [.int .i64 m, .int .i64 p, .int .i64 a, .int .i64 q, v]
theorem dOut_ok {G : Hp} {a : Nat} {s : Ses} (hw : s.wf) : Con Try.prog G 134 [.pointer (some ⟨a, 0, none⟩)] [dS a s] (fun r B => B = [own 65 5 r (s.out.flatMap dl), dS a s]) := by
  have hq := hw.q
  have hn := hw.n
  refine Con.intro Try.func134 rfl (Nat.le_of_ble_eq_true (by kernel_rfl)) (by kernel_rfl) Try.results134 ?_
  intro H hH
  obtain ⟨va, c, e2, h⟩ := dS_open hH
  have c0 := h.c0
  ((try simp only [S, TY, reduceCtorEq, nq0, nq1, nq2, nq3, nq4, iq0, iq1, iq2, iq3, iq4, iq5, iq6, iq7, iq8, c0]); (try (simp (disch := omega) only [W2, Int.cast_ofNat_Int]; (try simp only [S, TY, reduceCtorEq, nq0, nq1, nq2, nq3, nq4, iq0, iq1, iq2, iq3, iq4, iq5, iq6, iq7, iq8, c0]))); repeat ((first | (refine cl_drawi 1 D134_1 (List.range 15) (by decide) (by kernel_rfl) ?_; unfold D134_1)); simp only [S, TY, reduceCtorEq, nq0, nq1, nq2, nq3, nq4, iq0, iq1, iq2, iq3, iq4, iq5, iq6, iq7, iq8, c0]; (try (simp (disch := omega) only [W2, Int.cast_ofNat_Int]; (try simp only [S, TY, reduceCtorEq, nq0, nq1, nq2, nq3, nq4, iq0, iq1, iq2, iq3, iq4, iq5, iq6, iq7, iq8, c0])))))
  intro b hb hg
  have h1 := h.new hb hg (.cells dz.toArray 65 (0, 0))
  ((try simp only [S, TY, reduceCtorEq, nq0, nq1, nq2, nq3, nq4, iq0, iq1, iq2, iq3, iq4, iq5, iq6, iq7, iq8, c0]); (try (simp (disch := omega) only [W2, Int.cast_ofNat_Int]; (try simp only [S, TY, reduceCtorEq, nq0, nq1, nq2, nq3, nq4, iq0, iq1, iq2, iq3, iq4, iq5, iq6, iq7, iq8, c0]))); repeat ((first | (refine cl_drawi 1 D134_1 (List.range 15) (by decide) (by kernel_rfl) ?_; unfold D134_1)); simp only [S, TY, reduceCtorEq, nq0, nq1, nq2, nq3, nq4, iq0, iq1, iq2, iq3, iq4, iq5, iq6, iq7, iq8, c0]; (try (simp (disch := omega) only [W2, Int.cast_ofNat_Int]; (try simp only [S, TY, reduceCtorEq, nq0, nq1, nq2, nq3, nq4, iq0, iq1, iq2, iq3, iq4, iq5, iq6, iq7, iq8, c0])))))
  refine sg.st h1 rfl rfl fun H2 h2 => ?_
  simp only [front_eq, fronts_nil, fronts_cons, List.getElem?_cons_zero, List.getElem?_cons_succ, List.eraseIdx_cons_zero, List.eraseIdx_cons_succ, List.cons_append, List.nil_append, putL_cons, putL_nil, List.set_cons_zero, List.set_cons_succ, Nat.reduceAdd] at h2
  have c2 := h2.ci 1 rfl
  have w2 := h2.li 0 rfl
  by_cases g0 : s.q.length = 0
  · have hout : s.out = [⟨s.m, s.p, s.g, 0, []⟩] := by unfold Ses.out; rw [if_pos g0]
    rw [hout]
    have g0' : (s.q.length : Int) = 0 := by omega
    ((try simp only [S, TY, reduceCtorEq, nq0, nq1, nq2, nq3, nq4, iq0, iq1, iq2, iq3, iq4, iq5, iq6, iq7, iq8, c2, w2, g0']); (try (simp (disch := omega) only [W2, Int.cast_ofNat_Int]; (try simp only [S, TY, reduceCtorEq, nq0, nq1, nq2, nq3, nq4, iq0, iq1, iq2, iq3, iq4, iq5, iq6, iq7, iq8, c2, w2, g0']))); repeat ((first | (refine cl_drawi 1 D134_1 (List.range 15) (by decide) (by kernel_rfl) ?_; unfold D134_1)); simp only [S, TY, reduceCtorEq, nq0, nq1, nq2, nq3, nq4, iq0, iq1, iq2, iq3, iq4, iq5, iq6, iq7, iq8, c2, w2, g0']; (try (simp (disch := omega) only [W2, Int.cast_ofNat_Int]; (try simp only [S, TY, reduceCtorEq, nq0, nq1, nq2, nq3, nq4, iq0, iq1, iq2, iq3, iq4, iq5, iq6, iq7, iq8, c2, w2, g0'])))))
    intro q hq hg
    have h3 := h2.newsl (e := 65) (sz := 5) (n := 1) (xs := dlz s.m s.p s.g 0 (.string ByteArray.empty)) hq hg rfl
    ((try simp only [S, TY, reduceCtorEq, nq0, nq1, nq2, nq3, nq4, iq0, iq1, iq2, iq3, iq4, iq5, iq6, iq7, iq8]); (try (simp (disch := omega) only [W2, Int.cast_ofNat_Int]; (try simp only [S, TY, reduceCtorEq, nq0, nq1, nq2, nq3, nq4, iq0, iq1, iq2, iq3, iq4, iq5, iq6, iq7, iq8]))); repeat ((first | (refine cl_drawi 1 D134_1 (List.range 15) (by decide) (by kernel_rfl) ?_; unfold D134_1)); simp only [S, TY, reduceCtorEq, nq0, nq1, nq2, nq3, nq4, iq0, iq1, iq2, iq3, iq4, iq5, iq6, iq7, iq8]; (try (simp (disch := omega) only [W2, Int.cast_ofNat_Int]; (try simp only [S, TY, reduceCtorEq, nq0, nq1, nq2, nq3, nq4, iq0, iq1, iq2, iq3, iq4, iq5, iq6, iq7, iq8])))))
    exact fin_take (B := [_, _]) ((dS_shut s (h3.fronts [2, 2])).front 1) rfl
  · have hout : s.out = outN s (min s.q.length 8) := by unfold Ses.out; rw [if_neg g0]
    rw [hout]
    have g0' : ¬ (s.q.length : Int) = 0 := by omega
    ((try simp only [S, TY, reduceCtorEq, nq0, nq1, nq2, nq3, nq4, iq0, iq1, iq2, iq3, iq4, iq5, iq6, iq7, iq8, c2, w2, g0']); (try (simp (disch := omega) only [W2, Int.cast_ofNat_Int]; (try simp only [S, TY, reduceCtorEq, nq0, nq1, nq2, nq3, nq4, iq0, iq1, iq2, iq3, iq4, iq5, iq6, iq7, iq8, c2, w2, g0']))); repeat ((first | (refine cl_drawi 1 D134_1 (List.range 15) (by decide) (by kernel_rfl) ?_; unfold D134_1)); simp only [S, TY, reduceCtorEq, nq0, nq1, nq2, nq3, nq4, iq0, iq1, iq2, iq3, iq4, iq5, iq6, iq7, iq8, c2, w2, g0']; (try (simp (disch := omega) only [W2, Int.cast_ofNat_Int]; (try simp only [S, TY, reduceCtorEq, nq0, nq1, nq2, nq3, nq4, iq0, iq1, iq2, iq3, iq4, iq5, iq6, iq7, iq8, c2, w2, g0'])))))
    have h3 := dS_shut s (h2.fronts [1, 1])
    refine cl_loop (fun i e H => i ≤ min s.q.length 8 ∧ e 0 = .pointer (some ⟨a, 0, none⟩) ∧ e 3 = .pointer (some ⟨b, 0, none⟩) ∧ e 5 = .int .i64 (i : Nat) ∧ ∃ o x v, e 4 = o ∧ (∃ y, v = .string y) ∧
      sg G [dS a s, ob b (.cells (dlz s.m s.p s.g x v).toArray 65 (0, 0)), own 65 5 o ((outN s i).flatMap dl)] H) (fun i : Nat => 64 - i) 0
      ⟨by omega, rfl, rfl, rfl, _, _, _, rfl, ⟨_, rfl⟩, (h3.nil_ 65 5).fronts [1, 1, 0]⟩ ?_
    clear h1 h2 h3
    rintro i e H ⟨q1, q0, q3, q5, o, x, v, q4, ⟨y, rfl⟩, h⟩
    obtain ⟨va, c, e2, h1⟩ := dS_open h
    obtain ⟨oa, on, oc, rfl, _, _⟩ := h1.sl 3 rfl Rd_own
    have c1 := h1.c0
    by_cases g1 : (i : Int) < s.q.length
    · by_cases g2 : (i : Int) < 8
      · have g3 : (0 : Int) ≤ i ∧ (i : Int) < s.q.length := ⟨by omega, g1⟩
        have hi : i < s.q.length := by omega
        have hrd := (h1.rdsi 1 rfl Rd_own)
        ((try simp only [S, TY, reduceCtorEq, nq0, nq1, nq2, nq3, nq4, iq0, iq1, iq2, iq3, iq4, iq5, iq6, iq7, iq8, q0, q3, q4, q5, c1, g1, g2, g3]); (try (simp (disch := omega) only [W2, Int.cast_ofNat_Int]; (try simp only [S, TY, reduceCtorEq, nq0, nq1, nq2, nq3, nq4, iq0, iq1, iq2, iq3, iq4, iq5, iq6, iq7, iq8, q0, q3, q4, q5, c1, g1, g2, g3]))); repeat ((first | (refine cl_drawi 1 D134_1 (List.range 15) (by decide) (by kernel_rfl) ?_; unfold D134_1)); simp only [S, TY, reduceCtorEq, nq0, nq1, nq2, nq3, nq4, iq0, iq1, iq2, iq3, iq4, iq5, iq6, iq7, iq8, q0, q3, q4, q5, c1, g1, g2, g3]; (try (simp (disch := omega) only [W2, Int.cast_ofNat_Int]; (try simp only [S, TY, reduceCtorEq, nq0, nq1, nq2, nq3, nq4, iq0, iq1, iq2, iq3, iq4, iq5, iq6, iq7, iq8, q0, q3, q4, q5, c1, g1, g2, g3])))))
        refine sg.st (h1.front 2) rfl rfl fun H2 h2 => ?_
        simp only [front_eq, fronts_nil, fronts_cons, List.getElem?_cons_zero, List.getElem?_cons_succ, List.eraseIdx_cons_zero, List.eraseIdx_cons_succ, List.cons_append, List.nil_append, putL_cons, putL_nil, List.set_cons_zero, List.set_cons_succ, Nat.reduceAdd] at h2
        have c2 := h2.ci 1 rfl
        obtain ⟨k, off, rfl, e2⟩ := (h2.rdsi 2 rfl Rd_own).at1 (i := i) hi
        rw [List.getElem?_map, List.getElem?_eq_getElem hi] at e2
        simp only [Option.map_some] at e2
        ((try simp only [S, TY, reduceCtorEq, nq0, nq1, nq2, nq3, nq4, iq0, iq1, iq2, iq3, iq4, iq5, iq6, iq7, iq8, q0, q3, q4, q5, c2, e2, g3]); (try (simp (disch := omega) only [W2, Int.cast_ofNat_Int]; (try simp only [S, TY, reduceCtorEq, nq0, nq1, nq2, nq3, nq4, iq0, iq1, iq2, iq3, iq4, iq5, iq6, iq7, iq8, q0, q3, q4, q5, c2, e2, g3]))); repeat ((first | (refine cl_drawi 1 D134_1 (List.range 15) (by decide) (by kernel_rfl) ?_; unfold D134_1)); simp only [S, TY, reduceCtorEq, nq0, nq1, nq2, nq3, nq4, iq0, iq1, iq2, iq3, iq4, iq5, iq6, iq7, iq8, q0, q3, q4, q5, c2, e2, g3]; (try (simp (disch := omega) only [W2, Int.cast_ofNat_Int]; (try simp only [S, TY, reduceCtorEq, nq0, nq1, nq2, nq3, nq4, iq0, iq1, iq2, iq3, iq4, iq5, iq6, iq7, iq8, q0, q3, q4, q5, c2, e2, g3])))))
        refine sg.st h2 rfl rfl fun H3 h3 => ?_
        simp only [front_eq, fronts_nil, fronts_cons, List.getElem?_cons_zero, List.getElem?_cons_succ, List.eraseIdx_cons_zero, List.eraseIdx_cons_succ, List.cons_append, List.nil_append, putL_cons, putL_nil, List.set_cons_zero, List.set_cons_succ, Nat.reduceAdd] at h3
        have w3 := h3.li 0 rfl
        ((try simp only [S, TY, reduceCtorEq, nq0, nq1, nq2, nq3, nq4, iq0, iq1, iq2, iq3, iq4, iq5, iq6, iq7, iq8, q0, q3, q4, q5, w3]); (try (simp (disch := omega) only [W2, Int.cast_ofNat_Int]; (try simp only [S, TY, reduceCtorEq, nq0, nq1, nq2, nq3, nq4, iq0, iq1, iq2, iq3, iq4, iq5, iq6, iq7, iq8, q0, q3, q4, q5, w3]))); repeat ((first | (refine cl_drawi 1 D134_1 (List.range 15) (by decide) (by kernel_rfl) ?_; unfold D134_1)); simp only [S, TY, reduceCtorEq, nq0, nq1, nq2, nq3, nq4, iq0, iq1, iq2, iq3, iq4, iq5, iq6, iq7, iq8, q0, q3, q4, q5, w3]; (try (simp (disch := omega) only [W2, Int.cast_ofNat_Int]; (try simp only [S, TY, reduceCtorEq, nq0, nq1, nq2, nq3, nq4, iq0, iq1, iq2, iq3, iq4, iq5, iq6, iq7, iq8, q0, q3, q4, q5, w3])))))
        intro q hq hg
        have h4 := h3.newsl (e := 65) (sz := 5) (n := 1) (xs := dlz s.m s.p s.g (s.n + i) (str s.q[i])) hq hg rfl
        ((try simp only [S, TY, reduceCtorEq, nq0, nq1, nq2, nq3, nq4, iq0, iq1, iq2, iq3, iq4, iq5, iq6, iq7, iq8, q0, q3, q4, q5]); (try (simp (disch := omega) only [W2, Int.cast_ofNat_Int]; (try simp only [S, TY, reduceCtorEq, nq0, nq1, nq2, nq3, nq4, iq0, iq1, iq2, iq3, iq4, iq5, iq6, iq7, iq8, q0, q3, q4, q5]))); repeat ((first | (refine cl_drawi 1 D134_1 (List.range 15) (by decide) (by kernel_rfl) ?_; unfold D134_1)); simp only [S, TY, reduceCtorEq, nq0, nq1, nq2, nq3, nq4, iq0, iq1, iq2, iq3, iq4, iq5, iq6, iq7, iq8, q0, q3, q4, q5]; (try (simp (disch := omega) only [W2, Int.cast_ofNat_Int]; (try simp only [S, TY, reduceCtorEq, nq0, nq1, nq2, nq3, nq4, iq0, iq1, iq2, iq3, iq4, iq5, iq6, iq7, iq8, q0, q3, q4, q5])))))
        have hol : ((outN s i).flatMap dl).length = 5 * i := by rw [flat_len dl_len]; simp [outN]; omega
        refine append_sl (show apI Try.prog 243 = some (65, 5, 48) from by kernel_rfl) (show slIs Try.prog 243 = true from by kernel_rfl) (h4.front 4) (h4.rdsi 0 rfl Rd_own) (by intro v hv; exact dl_one ⟨_, _, _, _, _⟩ v hv) (by rw [hol]; simp; omega) fun w H5 h5 => ?_
        simp only [front_eq, fronts_nil, fronts_cons, List.getElem?_cons_zero, List.getElem?_cons_succ, List.eraseIdx_cons_zero, List.eraseIdx_cons_succ, List.cons_append, List.nil_append, putL_cons, putL_nil, List.set_cons_zero, List.set_cons_succ, Nat.reduceAdd] at h5
        obtain ⟨wa, wn, wc, rfl, _, _⟩ := h5.sl 0 rfl Rd_own
        ((try simp only [S, TY, reduceCtorEq, nq0, nq1, nq2, nq3, nq4, iq0, iq1, iq2, iq3, iq4, iq5, iq6, iq7, iq8, q0, q3, q4, q5]); (try (simp (disch := omega) only [W2, Int.cast_ofNat_Int]; (try simp only [S, TY, reduceCtorEq, nq0, nq1, nq2, nq3, nq4, iq0, iq1, iq2, iq3, iq4, iq5, iq6, iq7, iq8, q0, q3, q4, q5]))); repeat ((first | (refine cl_drawi 1 D134_1 (List.range 15) (by decide) (by kernel_rfl) ?_; unfold D134_1)); simp only [S, TY, reduceCtorEq, nq0, nq1, nq2, nq3, nq4, iq0, iq1, iq2, iq3, iq4, iq5, iq6, iq7, iq8, q0, q3, q4, q5]; (try (simp (disch := omega) only [W2, Int.cast_ofNat_Int]; (try simp only [S, TY, reduceCtorEq, nq0, nq1, nq2, nq3, nq4, iq0, iq1, iq2, iq3, iq4, iq5, iq6, iq7, iq8, q0, q3, q4, q5])))))
        have e : (outN s i).flatMap dl ++ dlz s.m s.p s.g (s.n + i) (str s.q[i]) = (outN s (i + 1)).flatMap dl := by
          rw [outN_succ, List.flatMap_append]
          congr 1
          show _ = dl (outF s i) ++ []
          rw [List.append_nil]
          show _ = dlz s.m s.p s.g (s.n + i) (str (s.q.getD i []))
          rw [List.getD_eq_getElem?_getD, List.getElem?_eq_getElem hi]; rfl
        rw [e] at h5
        have h6 := dS_shut s (((h5.front 1).tail).fronts [2, 2])
        refine .go (i + 1) (by omega) ⟨by omega, q0, q3, rfl, _, _, _, rfl, ⟨_, rfl⟩, h6.fronts [0, 1, 0]⟩
      · have e : i = min s.q.length 8 := by omega
        subst e
        ((try simp only [S, TY, reduceCtorEq, nq0, nq1, nq2, nq3, nq4, iq0, iq1, iq2, iq3, iq4, iq5, iq6, iq7, iq8, q0, q3, q4, q5, c1, g1, g2]); (try (simp (disch := omega) only [W2, Int.cast_ofNat_Int]; (try simp only [S, TY, reduceCtorEq, nq0, nq1, nq2, nq3, nq4, iq0, iq1, iq2, iq3, iq4, iq5, iq6, iq7, iq8, q0, q3, q4, q5, c1, g1, g2]))); repeat ((first | (refine cl_drawi 1 D134_1 (List.range 15) (by decide) (by kernel_rfl) ?_; unfold D134_1)); simp only [S, TY, reduceCtorEq, nq0, nq1, nq2, nq3, nq4, iq0, iq1, iq2, iq3, iq4, iq5, iq6, iq7, iq8, q0, q3, q4, q5, c1, g1, g2]; (try (simp (disch := omega) only [W2, Int.cast_ofNat_Int]; (try simp only [S, TY, reduceCtorEq, nq0, nq1, nq2, nq3, nq4, iq0, iq1, iq2, iq3, iq4, iq5, iq6, iq7, iq8, q0, q3, q4, q5, c1, g1, g2])))))
        exact fin_take (B := [_, _]) ((dS_shut s h1).front 2) rfl
    · have e : i = min s.q.length 8 := by omega
      subst e
      ((try simp only [S, TY, reduceCtorEq, nq0, nq1, nq2, nq3, nq4, iq0, iq1, iq2, iq3, iq4, iq5, iq6, iq7, iq8, q0, q3, q4, q5, c1, g1]); (try (simp (disch := omega) only [W2, Int.cast_ofNat_Int]; (try simp only [S, TY, reduceCtorEq, nq0, nq1, nq2, nq3, nq4, iq0, iq1, iq2, iq3, iq4, iq5, iq6, iq7, iq8, q0, q3, q4, q5, c1, g1]))); repeat ((first | (refine cl_drawi 1 D134_1 (List.range 15) (by decide) (by kernel_rfl) ?_; unfold D134_1)); simp only [S, TY, reduceCtorEq, nq0, nq1, nq2, nq3, nq4, iq0, iq1, iq2, iq3, iq4, iq5, iq6, iq7, iq8, q0, q3, q4, q5, c1, g1]; (try (simp (disch := omega) only [W2, Int.cast_ofNat_Int]; (try simp only [S, TY, reduceCtorEq, nq0, nq1, nq2, nq3, nq4, iq0, iq1, iq2, iq3, iq4, iq5, iq6, iq7, iq8, q0, q3, q4, q5, c1, g1])))))
      exact fin_take (B := [_, _]) ((dS_shut s h1).front 2) rfl
abbrev dtz (r : Bool) : List Value := [.string ByteArray.empty, .bool false, .bool r]
abbrev dtk (b : List UInt8) (g r : Bool) : List Value := [str b, .bool g, .bool r]
theorem dTake_ok {G : Hp} {a : Nat} {s : Ses} (x : Lt) (hw : s.wf) : Con Try.prog G 135 [.pointer (some ⟨a, 0, none⟩), .agg (dl x).toArray] [dS a s] (fun r B => r = .tuple #[.agg (dtk (s.take x).2.1.b (s.take x).2.1.got (s.take x).2.1.rst).toArray, .int .i64 (s.take x).2.2] ∧ B = [dS a (s.take x).1]) := by
  have hsg := hw.g
  obtain ⟨res, hres⟩ : ∃ r, s.take x = r := ⟨_, rfl⟩
  rw [hres]
  unfold Ses.take at hres
  have hkk := @Lt.kk x
  obtain ⟨xm, xp, xa, xs, xb⟩ := x
  simp only [dl] at *
  refine Con.intro Try.func135 rfl (Nat.le_of_ble_eq_true (by kernel_rfl)) (by kernel_rfl) Try.results135 ?_
  intro H hH
  ((try simp only [S, TY, reduceCtorEq, nq0, nq1, nq2, nq3, nq4, iq0, iq1, iq2, iq3, iq4, iq5, iq6, iq7, iq8]); (try (simp (disch := omega) only [W2, Int.cast_ofNat_Int]; (try simp only [S, TY, reduceCtorEq, nq0, nq1, nq2, nq3, nq4, iq0, iq1, iq2, iq3, iq4, iq5, iq6, iq7, iq8]))); repeat ((first | (refine cl_drawi 4 D135_4 (List.range 7) (by decide) (by kernel_rfl) ?_; unfold D135_4) | (refine cl_drawi 6 D135_6 (List.range 10) (by decide) (by kernel_rfl) ?_; unfold D135_6) | (refine cl_drawi 12 D135_12 (List.range 7) (by decide) (by kernel_rfl) ?_; unfold D135_12) | (refine cl_drawi 14 D135_14 (List.range 15) (by decide) (by kernel_rfl) ?_; unfold D135_14) | (refine cl_drawi 17 D135_17 (List.range 8) (by decide) (by kernel_rfl) ?_; unfold D135_17)); simp only [S, TY, reduceCtorEq, nq0, nq1, nq2, nq3, nq4, iq0, iq1, iq2, iq3, iq4, iq5, iq6, iq7, iq8]; (try (simp (disch := omega) only [W2, Int.cast_ofNat_Int]; (try simp only [S, TY, reduceCtorEq, nq0, nq1, nq2, nq3, nq4, iq0, iq1, iq2, iq3, iq4, iq5, iq6, iq7, iq8])))))
  intro b3 hb3 hg3
  have h1 := hH.new hb3 hg3 (.cells (dll xm xp xa xs xb).toArray 65 (0, 0))
  ((try simp only [S, TY, reduceCtorEq, nq0, nq1, nq2, nq3, nq4, iq0, iq1, iq2, iq3, iq4, iq5, iq6, iq7, iq8]); (try (simp (disch := omega) only [W2, Int.cast_ofNat_Int]; (try simp only [S, TY, reduceCtorEq, nq0, nq1, nq2, nq3, nq4, iq0, iq1, iq2, iq3, iq4, iq5, iq6, iq7, iq8]))); repeat ((first | (refine cl_drawi 4 D135_4 (List.range 7) (by decide) (by kernel_rfl) ?_; unfold D135_4) | (refine cl_drawi 6 D135_6 (List.range 10) (by decide) (by kernel_rfl) ?_; unfold D135_6) | (refine cl_drawi 12 D135_12 (List.range 7) (by decide) (by kernel_rfl) ?_; unfold D135_12) | (refine cl_drawi 14 D135_14 (List.range 15) (by decide) (by kernel_rfl) ?_; unfold D135_14) | (refine cl_drawi 17 D135_17 (List.range 8) (by decide) (by kernel_rfl) ?_; unfold D135_17)); simp only [S, TY, reduceCtorEq, nq0, nq1, nq2, nq3, nq4, iq0, iq1, iq2, iq3, iq4, iq5, iq6, iq7, iq8]; (try (simp (disch := omega) only [W2, Int.cast_ofNat_Int]; (try simp only [S, TY, reduceCtorEq, nq0, nq1, nq2, nq3, nq4, iq0, iq1, iq2, iq3, iq4, iq5, iq6, iq7, iq8])))))
  intro b4 hb4 hg4
  have h2 := h1.new hb4 hg4 (.cells (dtz false).toArray 246 (0, 0))
  have w2 := h2.li 1 rfl
  ((try simp only [S, TY, reduceCtorEq, nq0, nq1, nq2, nq3, nq4, iq0, iq1, iq2, iq3, iq4, iq5, iq6, iq7, iq8, w2]); (try (simp (disch := omega) only [W2, Int.cast_ofNat_Int]; (try simp only [S, TY, reduceCtorEq, nq0, nq1, nq2, nq3, nq4, iq0, iq1, iq2, iq3, iq4, iq5, iq6, iq7, iq8, w2]))); repeat ((first | (refine cl_drawi 4 D135_4 (List.range 7) (by decide) (by kernel_rfl) ?_; unfold D135_4) | (refine cl_drawi 6 D135_6 (List.range 10) (by decide) (by kernel_rfl) ?_; unfold D135_6) | (refine cl_drawi 12 D135_12 (List.range 7) (by decide) (by kernel_rfl) ?_; unfold D135_12) | (refine cl_drawi 14 D135_14 (List.range 15) (by decide) (by kernel_rfl) ?_; unfold D135_14) | (refine cl_drawi 17 D135_17 (List.range 8) (by decide) (by kernel_rfl) ?_; unfold D135_17)); simp only [S, TY, reduceCtorEq, nq0, nq1, nq2, nq3, nq4, iq0, iq1, iq2, iq3, iq4, iq5, iq6, iq7, iq8, w2]; (try (simp (disch := omega) only [W2, Int.cast_ofNat_Int]; (try simp only [S, TY, reduceCtorEq, nq0, nq1, nq2, nq3, nq4, iq0, iq1, iq2, iq3, iq4, iq5, iq6, iq7, iq8, w2])))))
  refine (dRight_ok xm xp xa xs xb).at_ h2 [] _ rfl fun r B H3 hr h3 => ?_
  obtain ⟨rfl, rfl⟩ := hr
  simp only [front_eq, fronts_nil, fronts_cons, List.getElem?_cons_zero, List.getElem?_cons_succ, List.eraseIdx_cons_zero, List.eraseIdx_cons_succ, List.cons_append, List.nil_append, putL_cons, putL_nil, List.set_cons_zero, List.set_cons_succ, Nat.reduceAdd] at h3
  by_cases hx : right xm xp xa xs xb.length = true
  · have hx' := hx
    rw [if_pos (show Lt.ok ⟨xm, xp, xa, xs, xb⟩ = true from hx)] at hres
    obtain ⟨k1, k2, k3, k4, k5⟩ := hkk hx
    obtain ⟨qa, qc, e2, h4⟩ := dS_open (h3.front 2)
    simp only [front_eq, fronts_nil, fronts_cons, List.getElem?_cons_zero, List.getElem?_cons_succ, List.eraseIdx_cons_zero, List.eraseIdx_cons_succ, List.cons_append, List.nil_append, putL_cons, putL_nil, List.set_cons_zero, List.set_cons_succ, Nat.reduceAdd] at h4
    have c4 := h4.c0
    have d4 := h4.ci 3 rfl
    by_cases g1 : xm < s.p
    · rw [if_pos g1] at hres
      subst hres
      ((try simp only [S, TY, reduceCtorEq, nq0, nq1, nq2, nq3, nq4, iq0, iq1, iq2, iq3, iq4, iq5, iq6, iq7, iq8, hx', c4, d4, g1]); (try (simp (disch := omega) only [W2, Int.cast_ofNat_Int]; (try simp only [S, TY, reduceCtorEq, nq0, nq1, nq2, nq3, nq4, iq0, iq1, iq2, iq3, iq4, iq5, iq6, iq7, iq8, hx', c4, d4, g1]))); repeat ((first | (refine cl_drawi 4 D135_4 (List.range 7) (by decide) (by kernel_rfl) ?_; unfold D135_4) | (refine cl_drawi 6 D135_6 (List.range 10) (by decide) (by kernel_rfl) ?_; unfold D135_6) | (refine cl_drawi 12 D135_12 (List.range 7) (by decide) (by kernel_rfl) ?_; unfold D135_12) | (refine cl_drawi 14 D135_14 (List.range 15) (by decide) (by kernel_rfl) ?_; unfold D135_14) | (refine cl_drawi 17 D135_17 (List.range 8) (by decide) (by kernel_rfl) ?_; unfold D135_17)); simp only [S, TY, reduceCtorEq, nq0, nq1, nq2, nq3, nq4, iq0, iq1, iq2, iq3, iq4, iq5, iq6, iq7, iq8, hx', c4, d4, g1]; (try (simp (disch := omega) only [W2, Int.cast_ofNat_Int]; (try simp only [S, TY, reduceCtorEq, nq0, nq1, nq2, nq3, nq4, iq0, iq1, iq2, iq3, iq4, iq5, iq6, iq7, iq8, hx', c4, d4, g1])))))
      refine sg.st (h4.front 2) rfl rfl fun H5 h5 => ?_
      simp only [front_eq, fronts_nil, fronts_cons, List.getElem?_cons_zero, List.getElem?_cons_succ, List.eraseIdx_cons_zero, List.eraseIdx_cons_succ, List.cons_append, List.nil_append, putL_cons, putL_nil, List.set_cons_zero, List.set_cons_succ, Nat.reduceAdd] at h5
      have w5 := h5.li 0 rfl
      ((try simp only [S, TY, reduceCtorEq, nq0, nq1, nq2, nq3, nq4, iq0, iq1, iq2, iq3, iq4, iq5, iq6, iq7, iq8, w5]); (try (simp (disch := omega) only [W2, Int.cast_ofNat_Int]; (try simp only [S, TY, reduceCtorEq, nq0, nq1, nq2, nq3, nq4, iq0, iq1, iq2, iq3, iq4, iq5, iq6, iq7, iq8, w5]))); repeat ((first | (refine cl_drawi 4 D135_4 (List.range 7) (by decide) (by kernel_rfl) ?_; unfold D135_4) | (refine cl_drawi 6 D135_6 (List.range 10) (by decide) (by kernel_rfl) ?_; unfold D135_6) | (refine cl_drawi 12 D135_12 (List.range 7) (by decide) (by kernel_rfl) ?_; unfold D135_12) | (refine cl_drawi 14 D135_14 (List.range 15) (by decide) (by kernel_rfl) ?_; unfold D135_14) | (refine cl_drawi 17 D135_17 (List.range 8) (by decide) (by kernel_rfl) ?_; unfold D135_17)); simp only [S, TY, reduceCtorEq, nq0, nq1, nq2, nq3, nq4, iq0, iq1, iq2, iq3, iq4, iq5, iq6, iq7, iq8, w5]; (try (simp (disch := omega) only [W2, Int.cast_ofNat_Int]; (try simp only [S, TY, reduceCtorEq, nq0, nq1, nq2, nq3, nq4, iq0, iq1, iq2, iq3, iq4, iq5, iq6, iq7, iq8, w5])))))
      exact fin_take (B := [_]) (dS_shut s (h5.fronts [1, 1])) ⟨rfl, rfl⟩
    · rw [if_neg g1] at hres
      ((try simp only [S, TY, reduceCtorEq, nq0, nq1, nq2, nq3, nq4, iq0, iq1, iq2, iq3, iq4, iq5, iq6, iq7, iq8, hx', c4, d4, g1]); (try (simp (disch := omega) only [W2, Int.cast_ofNat_Int]; (try simp only [S, TY, reduceCtorEq, nq0, nq1, nq2, nq3, nq4, iq0, iq1, iq2, iq3, iq4, iq5, iq6, iq7, iq8, hx', c4, d4, g1]))); repeat ((first | (refine cl_drawi 4 D135_4 (List.range 7) (by decide) (by kernel_rfl) ?_; unfold D135_4) | (refine cl_drawi 6 D135_6 (List.range 10) (by decide) (by kernel_rfl) ?_; unfold D135_6) | (refine cl_drawi 12 D135_12 (List.range 7) (by decide) (by kernel_rfl) ?_; unfold D135_12) | (refine cl_drawi 14 D135_14 (List.range 15) (by decide) (by kernel_rfl) ?_; unfold D135_14) | (refine cl_drawi 17 D135_17 (List.range 8) (by decide) (by kernel_rfl) ?_; unfold D135_17)); simp only [S, TY, reduceCtorEq, nq0, nq1, nq2, nq3, nq4, iq0, iq1, iq2, iq3, iq4, iq5, iq6, iq7, iq8, hx', c4, d4, g1]; (try (simp (disch := omega) only [W2, Int.cast_ofNat_Int]; (try simp only [S, TY, reduceCtorEq, nq0, nq1, nq2, nq3, nq4, iq0, iq1, iq2, iq3, iq4, iq5, iq6, iq7, iq8, hx', c4, d4, g1])))))
      intro b6 hb6 hg6
      by_cases g2 : s.p < xm
      · have hrs : s.rs ⟨xm, xp, xa, xs, xb⟩ = ⟨s.m, xm, 1, 0, []⟩ := by unfold Ses.rs; rw [if_pos g2]
        rw [hrs] at hres
        have h5 := h4.new hb6 hg6 (.cells (dtz false).toArray 246 (0, 0))
        ((try simp only [S, TY, reduceCtorEq, nq0, nq1, nq2, nq3, nq4, iq0, iq1, iq2, iq3, iq4, iq5, iq6, iq7, iq8, g2]); (try (simp (disch := omega) only [W2, Int.cast_ofNat_Int]; (try simp only [S, TY, reduceCtorEq, nq0, nq1, nq2, nq3, nq4, iq0, iq1, iq2, iq3, iq4, iq5, iq6, iq7, iq8, g2]))); repeat ((first | (refine cl_drawi 4 D135_4 (List.range 7) (by decide) (by kernel_rfl) ?_; unfold D135_4) | (refine cl_drawi 6 D135_6 (List.range 10) (by decide) (by kernel_rfl) ?_; unfold D135_6) | (refine cl_drawi 12 D135_12 (List.range 7) (by decide) (by kernel_rfl) ?_; unfold D135_12) | (refine cl_drawi 14 D135_14 (List.range 15) (by decide) (by kernel_rfl) ?_; unfold D135_14) | (refine cl_drawi 17 D135_17 (List.range 8) (by decide) (by kernel_rfl) ?_; unfold D135_17)); simp only [S, TY, reduceCtorEq, nq0, nq1, nq2, nq3, nq4, iq0, iq1, iq2, iq3, iq4, iq5, iq6, iq7, iq8, g2]; (try (simp (disch := omega) only [W2, Int.cast_ofNat_Int]; (try simp only [S, TY, reduceCtorEq, nq0, nq1, nq2, nq3, nq4, iq0, iq1, iq2, iq3, iq4, iq5, iq6, iq7, iq8, g2])))))
        refine sg.st h5 rfl rfl fun H6 h6 => ?_
        simp only [front_eq, fronts_nil, fronts_cons, List.getElem?_cons_zero, List.getElem?_cons_succ, List.eraseIdx_cons_zero, List.eraseIdx_cons_succ, List.cons_append, List.nil_append, putL_cons, putL_nil, List.set_cons_zero, List.set_cons_succ, Nat.reduceAdd] at h6
        have c6 := h6.ci 1 rfl
        have d6 := h6.ci 4 rfl
        have f6 := h6.c0
        ((try simp only [S, TY, reduceCtorEq, nq0, nq1, nq2, nq3, nq4, iq0, iq1, iq2, iq3, iq4, iq5, iq6, iq7, iq8, c6, d6, f6]); (try (simp (disch := omega) only [W2, Int.cast_ofNat_Int]; (try simp only [S, TY, reduceCtorEq, nq0, nq1, nq2, nq3, nq4, iq0, iq1, iq2, iq3, iq4, iq5, iq6, iq7, iq8, c6, d6, f6]))); repeat ((first | (refine cl_drawi 4 D135_4 (List.range 7) (by decide) (by kernel_rfl) ?_; unfold D135_4) | (refine cl_drawi 6 D135_6 (List.range 10) (by decide) (by kernel_rfl) ?_; unfold D135_6) | (refine cl_drawi 12 D135_12 (List.range 7) (by decide) (by kernel_rfl) ?_; unfold D135_12) | (refine cl_drawi 14 D135_14 (List.range 15) (by decide) (by kernel_rfl) ?_; unfold D135_14) | (refine cl_drawi 17 D135_17 (List.range 8) (by decide) (by kernel_rfl) ?_; unfold D135_17)); simp only [S, TY, reduceCtorEq, nq0, nq1, nq2, nq3, nq4, iq0, iq1, iq2, iq3, iq4, iq5, iq6, iq7, iq8, c6, d6, f6]; (try (simp (disch := omega) only [W2, Int.cast_ofNat_Int]; (try simp only [S, TY, reduceCtorEq, nq0, nq1, nq2, nq3, nq4, iq0, iq1, iq2, iq3, iq4, iq5, iq6, iq7, iq8, c6, d6, f6])))))
        refine sg.st (h6.front 1) rfl rfl fun H7 h7 => ?_
        simp only [front_eq, fronts_nil, fronts_cons, List.getElem?_cons_zero, List.getElem?_cons_succ, List.eraseIdx_cons_zero, List.eraseIdx_cons_succ, List.cons_append, List.nil_append, putL_cons, putL_nil, List.set_cons_zero, List.set_cons_succ, Nat.reduceAdd] at h7
        ((try simp only [S, TY, reduceCtorEq, nq0, nq1, nq2, nq3, nq4, iq0, iq1, iq2, iq3, iq4, iq5, iq6, iq7, iq8]); (try (simp (disch := omega) only [W2, Int.cast_ofNat_Int]; (try simp only [S, TY, reduceCtorEq, nq0, nq1, nq2, nq3, nq4, iq0, iq1, iq2, iq3, iq4, iq5, iq6, iq7, iq8]))); repeat ((first | (refine cl_drawi 4 D135_4 (List.range 7) (by decide) (by kernel_rfl) ?_; unfold D135_4) | (refine cl_drawi 6 D135_6 (List.range 10) (by decide) (by kernel_rfl) ?_; unfold D135_6) | (refine cl_drawi 12 D135_12 (List.range 7) (by decide) (by kernel_rfl) ?_; unfold D135_12) | (refine cl_drawi 14 D135_14 (List.range 15) (by decide) (by kernel_rfl) ?_; unfold D135_14) | (refine cl_drawi 17 D135_17 (List.range 8) (by decide) (by kernel_rfl) ?_; unfold D135_17)); simp only [S, TY, reduceCtorEq, nq0, nq1, nq2, nq3, nq4, iq0, iq1, iq2, iq3, iq4, iq5, iq6, iq7, iq8]; (try (simp (disch := omega) only [W2, Int.cast_ofNat_Int]; (try simp only [S, TY, reduceCtorEq, nq0, nq1, nq2, nq3, nq4, iq0, iq1, iq2, iq3, iq4, iq5, iq6, iq7, iq8])))))
        refine sg.st h7 rfl rfl fun H8 h8 => ?_
        simp only [front_eq, fronts_nil, fronts_cons, List.getElem?_cons_zero, List.getElem?_cons_succ, List.eraseIdx_cons_zero, List.eraseIdx_cons_succ, List.cons_append, List.nil_append, putL_cons, putL_nil, List.set_cons_zero, List.set_cons_succ, Nat.reduceAdd] at h8
        ((try simp only [S, TY, reduceCtorEq, nq0, nq1, nq2, nq3, nq4, iq0, iq1, iq2, iq3, iq4, iq5, iq6, iq7, iq8]); (try (simp (disch := omega) only [W2, Int.cast_ofNat_Int]; (try simp only [S, TY, reduceCtorEq, nq0, nq1, nq2, nq3, nq4, iq0, iq1, iq2, iq3, iq4, iq5, iq6, iq7, iq8]))); repeat ((first | (refine cl_drawi 4 D135_4 (List.range 7) (by decide) (by kernel_rfl) ?_; unfold D135_4) | (refine cl_drawi 6 D135_6 (List.range 10) (by decide) (by kernel_rfl) ?_; unfold D135_6) | (refine cl_drawi 12 D135_12 (List.range 7) (by decide) (by kernel_rfl) ?_; unfold D135_12) | (refine cl_drawi 14 D135_14 (List.range 15) (by decide) (by kernel_rfl) ?_; unfold D135_14) | (refine cl_drawi 17 D135_17 (List.range 8) (by decide) (by kernel_rfl) ?_; unfold D135_17)); simp only [S, TY, reduceCtorEq, nq0, nq1, nq2, nq3, nq4, iq0, iq1, iq2, iq3, iq4, iq5, iq6, iq7, iq8]; (try (simp (disch := omega) only [W2, Int.cast_ofNat_Int]; (try simp only [S, TY, reduceCtorEq, nq0, nq1, nq2, nq3, nq4, iq0, iq1, iq2, iq3, iq4, iq5, iq6, iq7, iq8])))))
        refine sg.st h8 rfl rfl fun H9 h9 => ?_
        simp only [front_eq, fronts_nil, fronts_cons, List.getElem?_cons_zero, List.getElem?_cons_succ, List.eraseIdx_cons_zero, List.eraseIdx_cons_succ, List.cons_append, List.nil_append, putL_cons, putL_nil, List.set_cons_zero, List.set_cons_succ, Nat.reduceAdd] at h9
        ((try simp only [S, TY, reduceCtorEq, nq0, nq1, nq2, nq3, nq4, iq0, iq1, iq2, iq3, iq4, iq5, iq6, iq7, iq8]); (try (simp (disch := omega) only [W2, Int.cast_ofNat_Int]; (try simp only [S, TY, reduceCtorEq, nq0, nq1, nq2, nq3, nq4, iq0, iq1, iq2, iq3, iq4, iq5, iq6, iq7, iq8]))); repeat ((first | (refine cl_drawi 4 D135_4 (List.range 7) (by decide) (by kernel_rfl) ?_; unfold D135_4) | (refine cl_drawi 6 D135_6 (List.range 10) (by decide) (by kernel_rfl) ?_; unfold D135_6) | (refine cl_drawi 12 D135_12 (List.range 7) (by decide) (by kernel_rfl) ?_; unfold D135_12) | (refine cl_drawi 14 D135_14 (List.range 15) (by decide) (by kernel_rfl) ?_; unfold D135_14) | (refine cl_drawi 17 D135_17 (List.range 8) (by decide) (by kernel_rfl) ?_; unfold D135_17)); simp only [S, TY, reduceCtorEq, nq0, nq1, nq2, nq3, nq4, iq0, iq1, iq2, iq3, iq4, iq5, iq6, iq7, iq8]; (try (simp (disch := omega) only [W2, Int.cast_ofNat_Int]; (try simp only [S, TY, reduceCtorEq, nq0, nq1, nq2, nq3, nq4, iq0, iq1, iq2, iq3, iq4, iq5, iq6, iq7, iq8])))))
        refine sg.st h9 rfl rfl fun H10 h10 => ?_
        simp only [front_eq, fronts_nil, fronts_cons, List.getElem?_cons_zero, List.getElem?_cons_succ, List.eraseIdx_cons_zero, List.eraseIdx_cons_succ, List.cons_append, List.nil_append, putL_cons, putL_nil, List.set_cons_zero, List.set_cons_succ, Nat.reduceAdd] at h10
        have h6 := (h10.front 2).tail
        replace h6 := (h6.nil_ 9 1).fronts [1, 0]
        simp only [front_eq, fronts_nil, fronts_cons, List.getElem?_cons_zero, List.getElem?_cons_succ, List.eraseIdx_cons_zero, List.eraseIdx_cons_succ, List.cons_append, List.nil_append, putL_cons, putL_nil, List.set_cons_zero, List.set_cons_succ, Nat.reduceAdd] at h6
        clear h7 h8 h9 h10
        have c6 := h6.c0
        have d6 := h6.ci 4 rfl
        have f6 := h6.li 2 rfl
        have hwr : (Ses.mk s.m xm 1 0 []).wf := by
          rw [← hrs]; exact Ses.wf_rs (x := ⟨xm, xp, xa, xs, xb⟩) hw hx
        by_cases g3 : xp = s.m
        · rw [if_pos (show Lt.p ⟨xm, xp, xa, xs, xb⟩ = s.m from g3)] at hres
          ((try simp only [S, TY, reduceCtorEq, nq0, nq1, nq2, nq3, nq4, iq0, iq1, iq2, iq3, iq4, iq5, iq6, iq7, iq8, c6, d6, g3]); (try (simp (disch := omega) only [W2, Int.cast_ofNat_Int]; (try simp only [S, TY, reduceCtorEq, nq0, nq1, nq2, nq3, nq4, iq0, iq1, iq2, iq3, iq4, iq5, iq6, iq7, iq8, c6, d6, g3]))); repeat ((first | (refine cl_drawi 4 D135_4 (List.range 7) (by decide) (by kernel_rfl) ?_; unfold D135_4) | (refine cl_drawi 6 D135_6 (List.range 10) (by decide) (by kernel_rfl) ?_; unfold D135_6) | (refine cl_drawi 12 D135_12 (List.range 7) (by decide) (by kernel_rfl) ?_; unfold D135_12) | (refine cl_drawi 14 D135_14 (List.range 15) (by decide) (by kernel_rfl) ?_; unfold D135_14) | (refine cl_drawi 17 D135_17 (List.range 8) (by decide) (by kernel_rfl) ?_; unfold D135_17)); simp only [S, TY, reduceCtorEq, nq0, nq1, nq2, nq3, nq4, iq0, iq1, iq2, iq3, iq4, iq5, iq6, iq7, iq8, c6, d6, g3]; (try (simp (disch := omega) only [W2, Int.cast_ofNat_Int]; (try simp only [S, TY, reduceCtorEq, nq0, nq1, nq2, nq3, nq4, iq0, iq1, iq2, iq3, iq4, iq5, iq6, iq7, iq8, c6, d6, g3])))))
          have h7 := dS_shut ⟨s.m, xm, 1, 0, []⟩ h6
          refine cl_loop (fun (z : List (List UInt8) × Int) e H => ackq z.1 z.2 xa = ackq ([]) (1) xa ∧ (Ses.mk s.m xm z.2 0 z.1).wf ∧ e 0 = .pointer (some ⟨a, 0, none⟩) ∧ e 3 = .pointer (some ⟨b3, 0, none⟩) ∧ e 4 = .pointer (some ⟨b4, 0, none⟩) ∧ e 7 = .pointer (some ⟨b6, 0, none⟩) ∧
              sg G [dS a ⟨s.m, xm, z.2, 0, z.1⟩, ob b6 (.cells (dtz true).toArray 246 (0, 0)), ob b4 (.cells (dtz false).toArray 246 (0, 0)), ob b3 (.cells (dll xm xp xa xs xb).toArray 65 (0, 0))] H) (fun z => z.1.length) ([], 1)
            ⟨rfl, hwr, rfl, rfl, rfl, rfl, h7⟩ ?_
          rintro ⟨zq, zn⟩ e H ⟨hz, hwz, q0, q3, q4, q7, h⟩
          obtain ⟨qa, qc, e2, h8⟩ := dS_open h
          simp only at e2 h8 hz hwz
          have c8 := h8.c0
          have d8 := h8.ci 4 rfl
          have hzq := hwz.q
          have hzn := hwz.n
          simp only at hzq hzn
          by_cases g4 : 0 < (zq.length : Int) ∧ zn ≤ xa
          · obtain ⟨g4a, g4b⟩ := g4
            ((try simp only [S, TY, reduceCtorEq, nq0, nq1, nq2, nq3, nq4, iq0, iq1, iq2, iq3, iq4, iq5, iq6, iq7, iq8, q0, q3, q4, q7, c8, d8, g4a, g4b]); (try (simp (disch := omega) only [W2, Int.cast_ofNat_Int]; (try simp only [S, TY, reduceCtorEq, nq0, nq1, nq2, nq3, nq4, iq0, iq1, iq2, iq3, iq4, iq5, iq6, iq7, iq8, q0, q3, q4, q7, c8, d8, g4a, g4b]))); repeat ((first | (refine cl_drawi 4 D135_4 (List.range 7) (by decide) (by kernel_rfl) ?_; unfold D135_4) | (refine cl_drawi 6 D135_6 (List.range 10) (by decide) (by kernel_rfl) ?_; unfold D135_6) | (refine cl_drawi 12 D135_12 (List.range 7) (by decide) (by kernel_rfl) ?_; unfold D135_12) | (refine cl_drawi 14 D135_14 (List.range 15) (by decide) (by kernel_rfl) ?_; unfold D135_14) | (refine cl_drawi 17 D135_17 (List.range 8) (by decide) (by kernel_rfl) ?_; unfold D135_17)); simp only [S, TY, reduceCtorEq, nq0, nq1, nq2, nq3, nq4, iq0, iq1, iq2, iq3, iq4, iq5, iq6, iq7, iq8, q0, q3, q4, q7, c8, d8, g4a, g4b]; (try (simp (disch := omega) only [W2, Int.cast_ofNat_Int]; (try simp only [S, TY, reduceCtorEq, nq0, nq1, nq2, nq3, nq4, iq0, iq1, iq2, iq3, iq4, iq5, iq6, iq7, iq8, q0, q3, q4, q7, c8, d8, g4a, g4b])))))
            intro b9 hb9 hg9
            have h9 := h8.newsl (e := 9) (sz := 1) (n := 0) (xs := []) hb9 hg9 rfl
            have c9 := h9.ci 1 rfl
            ((try simp only [S, TY, reduceCtorEq, nq0, nq1, nq2, nq3, nq4, iq0, iq1, iq2, iq3, iq4, iq5, iq6, iq7, iq8, q0, q3, q4, q7, c9, g4a, g4b]); (try (simp (disch := omega) only [W2, Int.cast_ofNat_Int]; (try simp only [S, TY, reduceCtorEq, nq0, nq1, nq2, nq3, nq4, iq0, iq1, iq2, iq3, iq4, iq5, iq6, iq7, iq8, q0, q3, q4, q7, c9, g4a, g4b]))); repeat ((first | (refine cl_drawi 4 D135_4 (List.range 7) (by decide) (by kernel_rfl) ?_; unfold D135_4) | (refine cl_drawi 6 D135_6 (List.range 10) (by decide) (by kernel_rfl) ?_; unfold D135_6) | (refine cl_drawi 12 D135_12 (List.range 7) (by decide) (by kernel_rfl) ?_; unfold D135_12) | (refine cl_drawi 14 D135_14 (List.range 15) (by decide) (by kernel_rfl) ?_; unfold D135_14) | (refine cl_drawi 17 D135_17 (List.range 8) (by decide) (by kernel_rfl) ?_; unfold D135_17)); simp only [S, TY, reduceCtorEq, nq0, nq1, nq2, nq3, nq4, iq0, iq1, iq2, iq3, iq4, iq5, iq6, iq7, iq8, q0, q3, q4, q7, c9, g4a, g4b]; (try (simp (disch := omega) only [W2, Int.cast_ofNat_Int]; (try simp only [S, TY, reduceCtorEq, nq0, nq1, nq2, nq3, nq4, iq0, iq1, iq2, iq3, iq4, iq5, iq6, iq7, iq8, q0, q3, q4, q7, c9, g4a, g4b])))))
            refine ⟨by omega, ?_⟩
            have hdr := own_drop (h9.front 2) 1 (by omega)
            refine append_sl (show apI Try.prog 87 = some (9, 1, 16) from by kernel_rfl) (show slIs Try.prog 87 = true from by kernel_rfl) h9 (hdr.rdsi 0 rfl Rd_own) (fun v hv => str_one zq v (List.mem_of_mem_drop hv)) (by simp; omega) fun w H10 h10 => ?_
            obtain ⟨wa, wn, wc, rfl, _, _⟩ := h10.sl 0 rfl Rd_own
            ((try simp only [S, TY, reduceCtorEq, nq0, nq1, nq2, nq3, nq4, iq0, iq1, iq2, iq3, iq4, iq5, iq6, iq7, iq8, q0, q3, q4, q7]); (try (simp (disch := omega) only [W2, Int.cast_ofNat_Int]; (try simp only [S, TY, reduceCtorEq, nq0, nq1, nq2, nq3, nq4, iq0, iq1, iq2, iq3, iq4, iq5, iq6, iq7, iq8, q0, q3, q4, q7]))); repeat ((first | (refine cl_drawi 4 D135_4 (List.range 7) (by decide) (by kernel_rfl) ?_; unfold D135_4) | (refine cl_drawi 6 D135_6 (List.range 10) (by decide) (by kernel_rfl) ?_; unfold D135_6) | (refine cl_drawi 12 D135_12 (List.range 7) (by decide) (by kernel_rfl) ?_; unfold D135_12) | (refine cl_drawi 14 D135_14 (List.range 15) (by decide) (by kernel_rfl) ?_; unfold D135_14) | (refine cl_drawi 17 D135_17 (List.range 8) (by decide) (by kernel_rfl) ?_; unfold D135_17)); simp only [S, TY, reduceCtorEq, nq0, nq1, nq2, nq3, nq4, iq0, iq1, iq2, iq3, iq4, iq5, iq6, iq7, iq8, q0, q3, q4, q7]; (try (simp (disch := omega) only [W2, Int.cast_ofNat_Int]; (try simp only [S, TY, reduceCtorEq, nq0, nq1, nq2, nq3, nq4, iq0, iq1, iq2, iq3, iq4, iq5, iq6, iq7, iq8, q0, q3, q4, q7])))))
            refine sg.st (h10.front 1) rfl rfl fun H11 h11 => ?_
            simp only [front_eq, fronts_nil, fronts_cons, List.getElem?_cons_zero, List.getElem?_cons_succ, List.eraseIdx_cons_zero, List.eraseIdx_cons_succ, List.cons_append, List.nil_append, putL_cons, putL_nil, List.set_cons_zero, List.set_cons_succ, Nat.reduceAdd] at h11
            have c11 := h11.c0
            ((try simp only [S, TY, reduceCtorEq, nq0, nq1, nq2, nq3, nq4, iq0, iq1, iq2, iq3, iq4, iq5, iq6, iq7, iq8, q0, q3, q4, q7, c11]); (try (simp (disch := omega) only [W2, Int.cast_ofNat_Int]; (try simp only [S, TY, reduceCtorEq, nq0, nq1, nq2, nq3, nq4, iq0, iq1, iq2, iq3, iq4, iq5, iq6, iq7, iq8, q0, q3, q4, q7, c11]))); repeat ((first | (refine cl_drawi 4 D135_4 (List.range 7) (by decide) (by kernel_rfl) ?_; unfold D135_4) | (refine cl_drawi 6 D135_6 (List.range 10) (by decide) (by kernel_rfl) ?_; unfold D135_6) | (refine cl_drawi 12 D135_12 (List.range 7) (by decide) (by kernel_rfl) ?_; unfold D135_12) | (refine cl_drawi 14 D135_14 (List.range 15) (by decide) (by kernel_rfl) ?_; unfold D135_14) | (refine cl_drawi 17 D135_17 (List.range 8) (by decide) (by kernel_rfl) ?_; unfold D135_17)); simp only [S, TY, reduceCtorEq, nq0, nq1, nq2, nq3, nq4, iq0, iq1, iq2, iq3, iq4, iq5, iq6, iq7, iq8, q0, q3, q4, q7, c11]; (try (simp (disch := omega) only [W2, Int.cast_ofNat_Int]; (try simp only [S, TY, reduceCtorEq, nq0, nq1, nq2, nq3, nq4, iq0, iq1, iq2, iq3, iq4, iq5, iq6, iq7, iq8, q0, q3, q4, q7, c11])))))
            refine sg.st h11 rfl rfl fun H12 h12 => ?_
            simp only [front_eq, fronts_nil, fronts_cons, List.getElem?_cons_zero, List.getElem?_cons_succ, List.eraseIdx_cons_zero, List.eraseIdx_cons_succ, List.cons_append, List.nil_append, putL_cons, putL_nil, List.set_cons_zero, List.set_cons_succ, Nat.reduceAdd] at h12
            ((try simp only [S, TY, reduceCtorEq, nq0, nq1, nq2, nq3, nq4, iq0, iq1, iq2, iq3, iq4, iq5, iq6, iq7, iq8, q0, q3, q4, q7]); (try (simp (disch := omega) only [W2, Int.cast_ofNat_Int]; (try simp only [S, TY, reduceCtorEq, nq0, nq1, nq2, nq3, nq4, iq0, iq1, iq2, iq3, iq4, iq5, iq6, iq7, iq8, q0, q3, q4, q7]))); repeat ((first | (refine cl_drawi 4 D135_4 (List.range 7) (by decide) (by kernel_rfl) ?_; unfold D135_4) | (refine cl_drawi 6 D135_6 (List.range 10) (by decide) (by kernel_rfl) ?_; unfold D135_6) | (refine cl_drawi 12 D135_12 (List.range 7) (by decide) (by kernel_rfl) ?_; unfold D135_12) | (refine cl_drawi 14 D135_14 (List.range 15) (by decide) (by kernel_rfl) ?_; unfold D135_14) | (refine cl_drawi 17 D135_17 (List.range 8) (by decide) (by kernel_rfl) ?_; unfold D135_17)); simp only [S, TY, reduceCtorEq, nq0, nq1, nq2, nq3, nq4, iq0, iq1, iq2, iq3, iq4, iq5, iq6, iq7, iq8, q0, q3, q4, q7]; (try (simp (disch := omega) only [W2, Int.cast_ofNat_Int]; (try simp only [S, TY, reduceCtorEq, nq0, nq1, nq2, nq3, nq4, iq0, iq1, iq2, iq3, iq4, iq5, iq6, iq7, iq8, q0, q3, q4, q7])))))
            have h13 := ((h12.front 2).tail).front 0
            rw [Nat.mul_one, ← List.map_drop] at h13
            have h14 := dS_shut ⟨s.m, xm, zn + 1, 0, zq.drop 1⟩ h13
            refine .go (zq.drop 1, zn + 1) (by simp only [List.length_drop]; omega) ⟨by rw [← hz]; exact (ackq_step g4a g4b).symm, ⟨hwz.m, hwz.p, by simp only; omega, hwz.g, by simp only [List.length_drop]; omega, fun b hb => hwz.b b (List.mem_of_mem_drop hb)⟩, q0, q3, q4, q7, h14⟩
          · have hst := ackq_stop g4
            rw [hst] at hz
            simp only [Ses.ak, ← hz] at hres
            by_cases g4a : 0 < (zq.length : Int)
            · have g4b : ¬ zn ≤ xa := fun z => g4 ⟨g4a, z⟩
              by_cases g5 : xs = (1 : Int)
              · rw [if_pos (show xs = (0 : Int) + 1 by omega)] at hres
                subst hres
                ((try simp only [S, TY, reduceCtorEq, nq0, nq1, nq2, nq3, nq4, iq0, iq1, iq2, iq3, iq4, iq5, iq6, iq7, iq8, q0, q3, q4, q7, c8, d8, g4a, g4b, g5]); (try (simp (disch := omega) only [W2, Int.cast_ofNat_Int]; (try simp only [S, TY, reduceCtorEq, nq0, nq1, nq2, nq3, nq4, iq0, iq1, iq2, iq3, iq4, iq5, iq6, iq7, iq8, q0, q3, q4, q7, c8, d8, g4a, g4b, g5]))); repeat ((first | (refine cl_drawi 4 D135_4 (List.range 7) (by decide) (by kernel_rfl) ?_; unfold D135_4) | (refine cl_drawi 6 D135_6 (List.range 10) (by decide) (by kernel_rfl) ?_; unfold D135_6) | (refine cl_drawi 12 D135_12 (List.range 7) (by decide) (by kernel_rfl) ?_; unfold D135_12) | (refine cl_drawi 14 D135_14 (List.range 15) (by decide) (by kernel_rfl) ?_; unfold D135_14) | (refine cl_drawi 17 D135_17 (List.range 8) (by decide) (by kernel_rfl) ?_; unfold D135_17)); simp only [S, TY, reduceCtorEq, nq0, nq1, nq2, nq3, nq4, iq0, iq1, iq2, iq3, iq4, iq5, iq6, iq7, iq8, q0, q3, q4, q7, c8, d8, g4a, g4b, g5]; (try (simp (disch := omega) only [W2, Int.cast_ofNat_Int]; (try simp only [S, TY, reduceCtorEq, nq0, nq1, nq2, nq3, nq4, iq0, iq1, iq2, iq3, iq4, iq5, iq6, iq7, iq8, q0, q3, q4, q7, c8, d8, g4a, g4b, g5])))))
                refine sg.st h8 rfl rfl fun H9 h9 => ?_
                simp only [front_eq, fronts_nil, fronts_cons, List.getElem?_cons_zero, List.getElem?_cons_succ, List.eraseIdx_cons_zero, List.eraseIdx_cons_succ, List.cons_append, List.nil_append, putL_cons, putL_nil, List.set_cons_zero, List.set_cons_succ, Nat.reduceAdd] at h9
                have d9 := h9.ci 4 rfl
                ((try simp only [S, TY, reduceCtorEq, nq0, nq1, nq2, nq3, nq4, iq0, iq1, iq2, iq3, iq4, iq5, iq6, iq7, iq8, q0, q3, q4, q7, d9]); (try (simp (disch := omega) only [W2, Int.cast_ofNat_Int]; (try simp only [S, TY, reduceCtorEq, nq0, nq1, nq2, nq3, nq4, iq0, iq1, iq2, iq3, iq4, iq5, iq6, iq7, iq8, q0, q3, q4, q7, d9]))); repeat ((first | (refine cl_drawi 4 D135_4 (List.range 7) (by decide) (by kernel_rfl) ?_; unfold D135_4) | (refine cl_drawi 6 D135_6 (List.range 10) (by decide) (by kernel_rfl) ?_; unfold D135_6) | (refine cl_drawi 12 D135_12 (List.range 7) (by decide) (by kernel_rfl) ?_; unfold D135_12) | (refine cl_drawi 14 D135_14 (List.range 15) (by decide) (by kernel_rfl) ?_; unfold D135_14) | (refine cl_drawi 17 D135_17 (List.range 8) (by decide) (by kernel_rfl) ?_; unfold D135_17)); simp only [S, TY, reduceCtorEq, nq0, nq1, nq2, nq3, nq4, iq0, iq1, iq2, iq3, iq4, iq5, iq6, iq7, iq8, q0, q3, q4, q7, d9]; (try (simp (disch := omega) only [W2, Int.cast_ofNat_Int]; (try simp only [S, TY, reduceCtorEq, nq0, nq1, nq2, nq3, nq4, iq0, iq1, iq2, iq3, iq4, iq5, iq6, iq7, iq8, q0, q3, q4, q7, d9])))))
                refine sg.st (h9.front 2) rfl rfl fun H11 h11 => ?_
                simp only [front_eq, fronts_nil, fronts_cons, List.getElem?_cons_zero, List.getElem?_cons_succ, List.eraseIdx_cons_zero, List.eraseIdx_cons_succ, List.cons_append, List.nil_append, putL_cons, putL_nil, List.set_cons_zero, List.set_cons_succ, Nat.reduceAdd] at h11
                ((try simp only [S, TY, reduceCtorEq, nq0, nq1, nq2, nq3, nq4, iq0, iq1, iq2, iq3, iq4, iq5, iq6, iq7, iq8, q0, q3, q4, q7]); (try (simp (disch := omega) only [W2, Int.cast_ofNat_Int]; (try simp only [S, TY, reduceCtorEq, nq0, nq1, nq2, nq3, nq4, iq0, iq1, iq2, iq3, iq4, iq5, iq6, iq7, iq8, q0, q3, q4, q7]))); repeat ((first | (refine cl_drawi 4 D135_4 (List.range 7) (by decide) (by kernel_rfl) ?_; unfold D135_4) | (refine cl_drawi 6 D135_6 (List.range 10) (by decide) (by kernel_rfl) ?_; unfold D135_6) | (refine cl_drawi 12 D135_12 (List.range 7) (by decide) (by kernel_rfl) ?_; unfold D135_12) | (refine cl_drawi 14 D135_14 (List.range 15) (by decide) (by kernel_rfl) ?_; unfold D135_14) | (refine cl_drawi 17 D135_17 (List.range 8) (by decide) (by kernel_rfl) ?_; unfold D135_17)); simp only [S, TY, reduceCtorEq, nq0, nq1, nq2, nq3, nq4, iq0, iq1, iq2, iq3, iq4, iq5, iq6, iq7, iq8, q0, q3, q4, q7]; (try (simp (disch := omega) only [W2, Int.cast_ofNat_Int]; (try simp only [S, TY, reduceCtorEq, nq0, nq1, nq2, nq3, nq4, iq0, iq1, iq2, iq3, iq4, iq5, iq6, iq7, iq8, q0, q3, q4, q7])))))
                refine sg.st h11 rfl rfl fun H12 h12 => ?_
                simp only [front_eq, fronts_nil, fronts_cons, List.getElem?_cons_zero, List.getElem?_cons_succ, List.eraseIdx_cons_zero, List.eraseIdx_cons_succ, List.cons_append, List.nil_append, putL_cons, putL_nil, List.set_cons_zero, List.set_cons_succ, Nat.reduceAdd] at h12
                have w12 := h12.li 0 rfl
                ((try simp only [S, TY, reduceCtorEq, nq0, nq1, nq2, nq3, nq4, iq0, iq1, iq2, iq3, iq4, iq5, iq6, iq7, iq8, q0, q3, q4, q7, w12]); (try (simp (disch := omega) only [W2, Int.cast_ofNat_Int]; (try simp only [S, TY, reduceCtorEq, nq0, nq1, nq2, nq3, nq4, iq0, iq1, iq2, iq3, iq4, iq5, iq6, iq7, iq8, q0, q3, q4, q7, w12]))); repeat ((first | (refine cl_drawi 4 D135_4 (List.range 7) (by decide) (by kernel_rfl) ?_; unfold D135_4) | (refine cl_drawi 6 D135_6 (List.range 10) (by decide) (by kernel_rfl) ?_; unfold D135_6) | (refine cl_drawi 12 D135_12 (List.range 7) (by decide) (by kernel_rfl) ?_; unfold D135_12) | (refine cl_drawi 14 D135_14 (List.range 15) (by decide) (by kernel_rfl) ?_; unfold D135_14) | (refine cl_drawi 17 D135_17 (List.range 8) (by decide) (by kernel_rfl) ?_; unfold D135_17)); simp only [S, TY, reduceCtorEq, nq0, nq1, nq2, nq3, nq4, iq0, iq1, iq2, iq3, iq4, iq5, iq6, iq7, iq8, q0, q3, q4, q7, w12]; (try (simp (disch := omega) only [W2, Int.cast_ofNat_Int]; (try simp only [S, TY, reduceCtorEq, nq0, nq1, nq2, nq3, nq4, iq0, iq1, iq2, iq3, iq4, iq5, iq6, iq7, iq8, q0, q3, q4, q7, w12])))))
                refine sg.st (h12.front 3) rfl rfl fun H13 h13 => ?_
                simp only [front_eq, fronts_nil, fronts_cons, List.getElem?_cons_zero, List.getElem?_cons_succ, List.eraseIdx_cons_zero, List.eraseIdx_cons_succ, List.cons_append, List.nil_append, putL_cons, putL_nil, List.set_cons_zero, List.set_cons_succ, Nat.reduceAdd] at h13
                try rw [show IntKind.i64.wrap (s.g + 1) = s.g + 1 by rw [wrap_id] <;> omega] at h13
                have w13 := h13.li 0 rfl
                ((try simp only [S, TY, reduceCtorEq, nq0, nq1, nq2, nq3, nq4, iq0, iq1, iq2, iq3, iq4, iq5, iq6, iq7, iq8, q0, q3, q4, q7, w13]); (try (simp (disch := omega) only [W2, Int.cast_ofNat_Int]; (try simp only [S, TY, reduceCtorEq, nq0, nq1, nq2, nq3, nq4, iq0, iq1, iq2, iq3, iq4, iq5, iq6, iq7, iq8, q0, q3, q4, q7, w13]))); repeat ((first | (refine cl_drawi 4 D135_4 (List.range 7) (by decide) (by kernel_rfl) ?_; unfold D135_4) | (refine cl_drawi 6 D135_6 (List.range 10) (by decide) (by kernel_rfl) ?_; unfold D135_6) | (refine cl_drawi 12 D135_12 (List.range 7) (by decide) (by kernel_rfl) ?_; unfold D135_12) | (refine cl_drawi 14 D135_14 (List.range 15) (by decide) (by kernel_rfl) ?_; unfold D135_14) | (refine cl_drawi 17 D135_17 (List.range 8) (by decide) (by kernel_rfl) ?_; unfold D135_17)); simp only [S, TY, reduceCtorEq, nq0, nq1, nq2, nq3, nq4, iq0, iq1, iq2, iq3, iq4, iq5, iq6, iq7, iq8, q0, q3, q4, q7, w13]; (try (simp (disch := omega) only [W2, Int.cast_ofNat_Int]; (try simp only [S, TY, reduceCtorEq, nq0, nq1, nq2, nq3, nq4, iq0, iq1, iq2, iq3, iq4, iq5, iq6, iq7, iq8, q0, q3, q4, q7, w13])))))
                refine fin_take (B := [_]) (dS_shut ⟨s.m, xm, zn, 1, zq⟩ (h13.fronts [2, 2])) ⟨?_, rfl⟩
                simp [g2]
              · rw [if_neg (show ¬ xs = (0 : Int) + 1 by omega)] at hres
                subst hres
                have w8 := h8.li 2 rfl
                ((try simp only [S, TY, reduceCtorEq, nq0, nq1, nq2, nq3, nq4, iq0, iq1, iq2, iq3, iq4, iq5, iq6, iq7, iq8, q0, q3, q4, q7, c8, d8, g4a, g4b, g5, w8]); (try (simp (disch := omega) only [W2, Int.cast_ofNat_Int]; (try simp only [S, TY, reduceCtorEq, nq0, nq1, nq2, nq3, nq4, iq0, iq1, iq2, iq3, iq4, iq5, iq6, iq7, iq8, q0, q3, q4, q7, c8, d8, g4a, g4b, g5, w8]))); repeat ((first | (refine cl_drawi 4 D135_4 (List.range 7) (by decide) (by kernel_rfl) ?_; unfold D135_4) | (refine cl_drawi 6 D135_6 (List.range 10) (by decide) (by kernel_rfl) ?_; unfold D135_6) | (refine cl_drawi 12 D135_12 (List.range 7) (by decide) (by kernel_rfl) ?_; unfold D135_12) | (refine cl_drawi 14 D135_14 (List.range 15) (by decide) (by kernel_rfl) ?_; unfold D135_14) | (refine cl_drawi 17 D135_17 (List.range 8) (by decide) (by kernel_rfl) ?_; unfold D135_17)); simp only [S, TY, reduceCtorEq, nq0, nq1, nq2, nq3, nq4, iq0, iq1, iq2, iq3, iq4, iq5, iq6, iq7, iq8, q0, q3, q4, q7, c8, d8, g4a, g4b, g5, w8]; (try (simp (disch := omega) only [W2, Int.cast_ofNat_Int]; (try simp only [S, TY, reduceCtorEq, nq0, nq1, nq2, nq3, nq4, iq0, iq1, iq2, iq3, iq4, iq5, iq6, iq7, iq8, q0, q3, q4, q7, c8, d8, g4a, g4b, g5, w8])))))
                refine sg.st (h8.front 3) rfl rfl fun H9 h9 => ?_
                simp only [front_eq, fronts_nil, fronts_cons, List.getElem?_cons_zero, List.getElem?_cons_succ, List.eraseIdx_cons_zero, List.eraseIdx_cons_succ, List.cons_append, List.nil_append, putL_cons, putL_nil, List.set_cons_zero, List.set_cons_succ, Nat.reduceAdd] at h9
                have w9 := h9.li 0 rfl
                ((try simp only [S, TY, reduceCtorEq, nq0, nq1, nq2, nq3, nq4, iq0, iq1, iq2, iq3, iq4, iq5, iq6, iq7, iq8, q0, q3, q4, q7, w9]); (try (simp (disch := omega) only [W2, Int.cast_ofNat_Int]; (try simp only [S, TY, reduceCtorEq, nq0, nq1, nq2, nq3, nq4, iq0, iq1, iq2, iq3, iq4, iq5, iq6, iq7, iq8, q0, q3, q4, q7, w9]))); repeat ((first | (refine cl_drawi 4 D135_4 (List.range 7) (by decide) (by kernel_rfl) ?_; unfold D135_4) | (refine cl_drawi 6 D135_6 (List.range 10) (by decide) (by kernel_rfl) ?_; unfold D135_6) | (refine cl_drawi 12 D135_12 (List.range 7) (by decide) (by kernel_rfl) ?_; unfold D135_12) | (refine cl_drawi 14 D135_14 (List.range 15) (by decide) (by kernel_rfl) ?_; unfold D135_14) | (refine cl_drawi 17 D135_17 (List.range 8) (by decide) (by kernel_rfl) ?_; unfold D135_17)); simp only [S, TY, reduceCtorEq, nq0, nq1, nq2, nq3, nq4, iq0, iq1, iq2, iq3, iq4, iq5, iq6, iq7, iq8, q0, q3, q4, q7, w9]; (try (simp (disch := omega) only [W2, Int.cast_ofNat_Int]; (try simp only [S, TY, reduceCtorEq, nq0, nq1, nq2, nq3, nq4, iq0, iq1, iq2, iq3, iq4, iq5, iq6, iq7, iq8, q0, q3, q4, q7, w9])))))
                refine fin_take (B := [_]) (dS_shut ⟨s.m, xm, zn, 0, zq⟩ (h9.fronts [1, 1])) ⟨?_, rfl⟩
                simp [g2, bs] <;> rfl
            · by_cases g5 : xs = (1 : Int)
              · rw [if_pos (show xs = (0 : Int) + 1 by omega)] at hres
                subst hres
                ((try simp only [S, TY, reduceCtorEq, nq0, nq1, nq2, nq3, nq4, iq0, iq1, iq2, iq3, iq4, iq5, iq6, iq7, iq8, q0, q3, q4, q7, c8, d8, g4a, g5]); (try (simp (disch := omega) only [W2, Int.cast_ofNat_Int]; (try simp only [S, TY, reduceCtorEq, nq0, nq1, nq2, nq3, nq4, iq0, iq1, iq2, iq3, iq4, iq5, iq6, iq7, iq8, q0, q3, q4, q7, c8, d8, g4a, g5]))); repeat ((first | (refine cl_drawi 4 D135_4 (List.range 7) (by decide) (by kernel_rfl) ?_; unfold D135_4) | (refine cl_drawi 6 D135_6 (List.range 10) (by decide) (by kernel_rfl) ?_; unfold D135_6) | (refine cl_drawi 12 D135_12 (List.range 7) (by decide) (by kernel_rfl) ?_; unfold D135_12) | (refine cl_drawi 14 D135_14 (List.range 15) (by decide) (by kernel_rfl) ?_; unfold D135_14) | (refine cl_drawi 17 D135_17 (List.range 8) (by decide) (by kernel_rfl) ?_; unfold D135_17)); simp only [S, TY, reduceCtorEq, nq0, nq1, nq2, nq3, nq4, iq0, iq1, iq2, iq3, iq4, iq5, iq6, iq7, iq8, q0, q3, q4, q7, c8, d8, g4a, g5]; (try (simp (disch := omega) only [W2, Int.cast_ofNat_Int]; (try simp only [S, TY, reduceCtorEq, nq0, nq1, nq2, nq3, nq4, iq0, iq1, iq2, iq3, iq4, iq5, iq6, iq7, iq8, q0, q3, q4, q7, c8, d8, g4a, g5])))))
                refine sg.st h8 rfl rfl fun H9 h9 => ?_
                simp only [front_eq, fronts_nil, fronts_cons, List.getElem?_cons_zero, List.getElem?_cons_succ, List.eraseIdx_cons_zero, List.eraseIdx_cons_succ, List.cons_append, List.nil_append, putL_cons, putL_nil, List.set_cons_zero, List.set_cons_succ, Nat.reduceAdd] at h9
                have d9 := h9.ci 4 rfl
                ((try simp only [S, TY, reduceCtorEq, nq0, nq1, nq2, nq3, nq4, iq0, iq1, iq2, iq3, iq4, iq5, iq6, iq7, iq8, q0, q3, q4, q7, d9]); (try (simp (disch := omega) only [W2, Int.cast_ofNat_Int]; (try simp only [S, TY, reduceCtorEq, nq0, nq1, nq2, nq3, nq4, iq0, iq1, iq2, iq3, iq4, iq5, iq6, iq7, iq8, q0, q3, q4, q7, d9]))); repeat ((first | (refine cl_drawi 4 D135_4 (List.range 7) (by decide) (by kernel_rfl) ?_; unfold D135_4) | (refine cl_drawi 6 D135_6 (List.range 10) (by decide) (by kernel_rfl) ?_; unfold D135_6) | (refine cl_drawi 12 D135_12 (List.range 7) (by decide) (by kernel_rfl) ?_; unfold D135_12) | (refine cl_drawi 14 D135_14 (List.range 15) (by decide) (by kernel_rfl) ?_; unfold D135_14) | (refine cl_drawi 17 D135_17 (List.range 8) (by decide) (by kernel_rfl) ?_; unfold D135_17)); simp only [S, TY, reduceCtorEq, nq0, nq1, nq2, nq3, nq4, iq0, iq1, iq2, iq3, iq4, iq5, iq6, iq7, iq8, q0, q3, q4, q7, d9]; (try (simp (disch := omega) only [W2, Int.cast_ofNat_Int]; (try simp only [S, TY, reduceCtorEq, nq0, nq1, nq2, nq3, nq4, iq0, iq1, iq2, iq3, iq4, iq5, iq6, iq7, iq8, q0, q3, q4, q7, d9])))))
                refine sg.st (h9.front 2) rfl rfl fun H11 h11 => ?_
                simp only [front_eq, fronts_nil, fronts_cons, List.getElem?_cons_zero, List.getElem?_cons_succ, List.eraseIdx_cons_zero, List.eraseIdx_cons_succ, List.cons_append, List.nil_append, putL_cons, putL_nil, List.set_cons_zero, List.set_cons_succ, Nat.reduceAdd] at h11
                ((try simp only [S, TY, reduceCtorEq, nq0, nq1, nq2, nq3, nq4, iq0, iq1, iq2, iq3, iq4, iq5, iq6, iq7, iq8, q0, q3, q4, q7]); (try (simp (disch := omega) only [W2, Int.cast_ofNat_Int]; (try simp only [S, TY, reduceCtorEq, nq0, nq1, nq2, nq3, nq4, iq0, iq1, iq2, iq3, iq4, iq5, iq6, iq7, iq8, q0, q3, q4, q7]))); repeat ((first | (refine cl_drawi 4 D135_4 (List.range 7) (by decide) (by kernel_rfl) ?_; unfold D135_4) | (refine cl_drawi 6 D135_6 (List.range 10) (by decide) (by kernel_rfl) ?_; unfold D135_6) | (refine cl_drawi 12 D135_12 (List.range 7) (by decide) (by kernel_rfl) ?_; unfold D135_12) | (refine cl_drawi 14 D135_14 (List.range 15) (by decide) (by kernel_rfl) ?_; unfold D135_14) | (refine cl_drawi 17 D135_17 (List.range 8) (by decide) (by kernel_rfl) ?_; unfold D135_17)); simp only [S, TY, reduceCtorEq, nq0, nq1, nq2, nq3, nq4, iq0, iq1, iq2, iq3, iq4, iq5, iq6, iq7, iq8, q0, q3, q4, q7]; (try (simp (disch := omega) only [W2, Int.cast_ofNat_Int]; (try simp only [S, TY, reduceCtorEq, nq0, nq1, nq2, nq3, nq4, iq0, iq1, iq2, iq3, iq4, iq5, iq6, iq7, iq8, q0, q3, q4, q7])))))
                refine sg.st h11 rfl rfl fun H12 h12 => ?_
                simp only [front_eq, fronts_nil, fronts_cons, List.getElem?_cons_zero, List.getElem?_cons_succ, List.eraseIdx_cons_zero, List.eraseIdx_cons_succ, List.cons_append, List.nil_append, putL_cons, putL_nil, List.set_cons_zero, List.set_cons_succ, Nat.reduceAdd] at h12
                have w12 := h12.li 0 rfl
                ((try simp only [S, TY, reduceCtorEq, nq0, nq1, nq2, nq3, nq4, iq0, iq1, iq2, iq3, iq4, iq5, iq6, iq7, iq8, q0, q3, q4, q7, w12]); (try (simp (disch := omega) only [W2, Int.cast_ofNat_Int]; (try simp only [S, TY, reduceCtorEq, nq0, nq1, nq2, nq3, nq4, iq0, iq1, iq2, iq3, iq4, iq5, iq6, iq7, iq8, q0, q3, q4, q7, w12]))); repeat ((first | (refine cl_drawi 4 D135_4 (List.range 7) (by decide) (by kernel_rfl) ?_; unfold D135_4) | (refine cl_drawi 6 D135_6 (List.range 10) (by decide) (by kernel_rfl) ?_; unfold D135_6) | (refine cl_drawi 12 D135_12 (List.range 7) (by decide) (by kernel_rfl) ?_; unfold D135_12) | (refine cl_drawi 14 D135_14 (List.range 15) (by decide) (by kernel_rfl) ?_; unfold D135_14) | (refine cl_drawi 17 D135_17 (List.range 8) (by decide) (by kernel_rfl) ?_; unfold D135_17)); simp only [S, TY, reduceCtorEq, nq0, nq1, nq2, nq3, nq4, iq0, iq1, iq2, iq3, iq4, iq5, iq6, iq7, iq8, q0, q3, q4, q7, w12]; (try (simp (disch := omega) only [W2, Int.cast_ofNat_Int]; (try simp only [S, TY, reduceCtorEq, nq0, nq1, nq2, nq3, nq4, iq0, iq1, iq2, iq3, iq4, iq5, iq6, iq7, iq8, q0, q3, q4, q7, w12])))))
                refine sg.st (h12.front 3) rfl rfl fun H13 h13 => ?_
                simp only [front_eq, fronts_nil, fronts_cons, List.getElem?_cons_zero, List.getElem?_cons_succ, List.eraseIdx_cons_zero, List.eraseIdx_cons_succ, List.cons_append, List.nil_append, putL_cons, putL_nil, List.set_cons_zero, List.set_cons_succ, Nat.reduceAdd] at h13
                try rw [show IntKind.i64.wrap (s.g + 1) = s.g + 1 by rw [wrap_id] <;> omega] at h13
                have w13 := h13.li 0 rfl
                ((try simp only [S, TY, reduceCtorEq, nq0, nq1, nq2, nq3, nq4, iq0, iq1, iq2, iq3, iq4, iq5, iq6, iq7, iq8, q0, q3, q4, q7, w13]); (try (simp (disch := omega) only [W2, Int.cast_ofNat_Int]; (try simp only [S, TY, reduceCtorEq, nq0, nq1, nq2, nq3, nq4, iq0, iq1, iq2, iq3, iq4, iq5, iq6, iq7, iq8, q0, q3, q4, q7, w13]))); repeat ((first | (refine cl_drawi 4 D135_4 (List.range 7) (by decide) (by kernel_rfl) ?_; unfold D135_4) | (refine cl_drawi 6 D135_6 (List.range 10) (by decide) (by kernel_rfl) ?_; unfold D135_6) | (refine cl_drawi 12 D135_12 (List.range 7) (by decide) (by kernel_rfl) ?_; unfold D135_12) | (refine cl_drawi 14 D135_14 (List.range 15) (by decide) (by kernel_rfl) ?_; unfold D135_14) | (refine cl_drawi 17 D135_17 (List.range 8) (by decide) (by kernel_rfl) ?_; unfold D135_17)); simp only [S, TY, reduceCtorEq, nq0, nq1, nq2, nq3, nq4, iq0, iq1, iq2, iq3, iq4, iq5, iq6, iq7, iq8, q0, q3, q4, q7, w13]; (try (simp (disch := omega) only [W2, Int.cast_ofNat_Int]; (try simp only [S, TY, reduceCtorEq, nq0, nq1, nq2, nq3, nq4, iq0, iq1, iq2, iq3, iq4, iq5, iq6, iq7, iq8, q0, q3, q4, q7, w13])))))
                refine fin_take (B := [_]) (dS_shut ⟨s.m, xm, zn, 1, zq⟩ (h13.fronts [2, 2])) ⟨?_, rfl⟩
                simp [g2]
              · rw [if_neg (show ¬ xs = (0 : Int) + 1 by omega)] at hres
                subst hres
                have w8 := h8.li 2 rfl
                ((try simp only [S, TY, reduceCtorEq, nq0, nq1, nq2, nq3, nq4, iq0, iq1, iq2, iq3, iq4, iq5, iq6, iq7, iq8, q0, q3, q4, q7, c8, d8, g4a, g5, w8]); (try (simp (disch := omega) only [W2, Int.cast_ofNat_Int]; (try simp only [S, TY, reduceCtorEq, nq0, nq1, nq2, nq3, nq4, iq0, iq1, iq2, iq3, iq4, iq5, iq6, iq7, iq8, q0, q3, q4, q7, c8, d8, g4a, g5, w8]))); repeat ((first | (refine cl_drawi 4 D135_4 (List.range 7) (by decide) (by kernel_rfl) ?_; unfold D135_4) | (refine cl_drawi 6 D135_6 (List.range 10) (by decide) (by kernel_rfl) ?_; unfold D135_6) | (refine cl_drawi 12 D135_12 (List.range 7) (by decide) (by kernel_rfl) ?_; unfold D135_12) | (refine cl_drawi 14 D135_14 (List.range 15) (by decide) (by kernel_rfl) ?_; unfold D135_14) | (refine cl_drawi 17 D135_17 (List.range 8) (by decide) (by kernel_rfl) ?_; unfold D135_17)); simp only [S, TY, reduceCtorEq, nq0, nq1, nq2, nq3, nq4, iq0, iq1, iq2, iq3, iq4, iq5, iq6, iq7, iq8, q0, q3, q4, q7, c8, d8, g4a, g5, w8]; (try (simp (disch := omega) only [W2, Int.cast_ofNat_Int]; (try simp only [S, TY, reduceCtorEq, nq0, nq1, nq2, nq3, nq4, iq0, iq1, iq2, iq3, iq4, iq5, iq6, iq7, iq8, q0, q3, q4, q7, c8, d8, g4a, g5, w8])))))
                refine sg.st (h8.front 3) rfl rfl fun H9 h9 => ?_
                simp only [front_eq, fronts_nil, fronts_cons, List.getElem?_cons_zero, List.getElem?_cons_succ, List.eraseIdx_cons_zero, List.eraseIdx_cons_succ, List.cons_append, List.nil_append, putL_cons, putL_nil, List.set_cons_zero, List.set_cons_succ, Nat.reduceAdd] at h9
                have w9 := h9.li 0 rfl
                ((try simp only [S, TY, reduceCtorEq, nq0, nq1, nq2, nq3, nq4, iq0, iq1, iq2, iq3, iq4, iq5, iq6, iq7, iq8, q0, q3, q4, q7, w9]); (try (simp (disch := omega) only [W2, Int.cast_ofNat_Int]; (try simp only [S, TY, reduceCtorEq, nq0, nq1, nq2, nq3, nq4, iq0, iq1, iq2, iq3, iq4, iq5, iq6, iq7, iq8, q0, q3, q4, q7, w9]))); repeat ((first | (refine cl_drawi 4 D135_4 (List.range 7) (by decide) (by kernel_rfl) ?_; unfold D135_4) | (refine cl_drawi 6 D135_6 (List.range 10) (by decide) (by kernel_rfl) ?_; unfold D135_6) | (refine cl_drawi 12 D135_12 (List.range 7) (by decide) (by kernel_rfl) ?_; unfold D135_12) | (refine cl_drawi 14 D135_14 (List.range 15) (by decide) (by kernel_rfl) ?_; unfold D135_14) | (refine cl_drawi 17 D135_17 (List.range 8) (by decide) (by kernel_rfl) ?_; unfold D135_17)); simp only [S, TY, reduceCtorEq, nq0, nq1, nq2, nq3, nq4, iq0, iq1, iq2, iq3, iq4, iq5, iq6, iq7, iq8, q0, q3, q4, q7, w9]; (try (simp (disch := omega) only [W2, Int.cast_ofNat_Int]; (try simp only [S, TY, reduceCtorEq, nq0, nq1, nq2, nq3, nq4, iq0, iq1, iq2, iq3, iq4, iq5, iq6, iq7, iq8, q0, q3, q4, q7, w9])))))
                refine fin_take (B := [_]) (dS_shut ⟨s.m, xm, zn, 0, zq⟩ (h9.fronts [1, 1])) ⟨?_, rfl⟩
                simp [g2, bs] <;> rfl
        · rw [if_neg (show ¬ Lt.p ⟨xm, xp, xa, xs, xb⟩ = s.m from g3)] at hres
          subst hres
          ((try simp only [S, TY, reduceCtorEq, nq0, nq1, nq2, nq3, nq4, iq0, iq1, iq2, iq3, iq4, iq5, iq6, iq7, iq8, c6, d6, f6, g3]); (try (simp (disch := omega) only [W2, Int.cast_ofNat_Int]; (try simp only [S, TY, reduceCtorEq, nq0, nq1, nq2, nq3, nq4, iq0, iq1, iq2, iq3, iq4, iq5, iq6, iq7, iq8, c6, d6, f6, g3]))); repeat ((first | (refine cl_drawi 4 D135_4 (List.range 7) (by decide) (by kernel_rfl) ?_; unfold D135_4) | (refine cl_drawi 6 D135_6 (List.range 10) (by decide) (by kernel_rfl) ?_; unfold D135_6) | (refine cl_drawi 12 D135_12 (List.range 7) (by decide) (by kernel_rfl) ?_; unfold D135_12) | (refine cl_drawi 14 D135_14 (List.range 15) (by decide) (by kernel_rfl) ?_; unfold D135_14) | (refine cl_drawi 17 D135_17 (List.range 8) (by decide) (by kernel_rfl) ?_; unfold D135_17)); simp only [S, TY, reduceCtorEq, nq0, nq1, nq2, nq3, nq4, iq0, iq1, iq2, iq3, iq4, iq5, iq6, iq7, iq8, c6, d6, f6, g3]; (try (simp (disch := omega) only [W2, Int.cast_ofNat_Int]; (try simp only [S, TY, reduceCtorEq, nq0, nq1, nq2, nq3, nq4, iq0, iq1, iq2, iq3, iq4, iq5, iq6, iq7, iq8, c6, d6, f6, g3])))))
          refine sg.st (h6.front 3) rfl rfl fun H7 h7 => ?_
          simp only [front_eq, fronts_nil, fronts_cons, List.getElem?_cons_zero, List.getElem?_cons_succ, List.eraseIdx_cons_zero, List.eraseIdx_cons_succ, List.cons_append, List.nil_append, putL_cons, putL_nil, List.set_cons_zero, List.set_cons_succ, Nat.reduceAdd] at h7
          have w7 := h7.li 0 rfl
          ((try simp only [S, TY, reduceCtorEq, nq0, nq1, nq2, nq3, nq4, iq0, iq1, iq2, iq3, iq4, iq5, iq6, iq7, iq8, w7]); (try (simp (disch := omega) only [W2, Int.cast_ofNat_Int]; (try simp only [S, TY, reduceCtorEq, nq0, nq1, nq2, nq3, nq4, iq0, iq1, iq2, iq3, iq4, iq5, iq6, iq7, iq8, w7]))); repeat ((first | (refine cl_drawi 4 D135_4 (List.range 7) (by decide) (by kernel_rfl) ?_; unfold D135_4) | (refine cl_drawi 6 D135_6 (List.range 10) (by decide) (by kernel_rfl) ?_; unfold D135_6) | (refine cl_drawi 12 D135_12 (List.range 7) (by decide) (by kernel_rfl) ?_; unfold D135_12) | (refine cl_drawi 14 D135_14 (List.range 15) (by decide) (by kernel_rfl) ?_; unfold D135_14) | (refine cl_drawi 17 D135_17 (List.range 8) (by decide) (by kernel_rfl) ?_; unfold D135_17)); simp only [S, TY, reduceCtorEq, nq0, nq1, nq2, nq3, nq4, iq0, iq1, iq2, iq3, iq4, iq5, iq6, iq7, iq8, w7]; (try (simp (disch := omega) only [W2, Int.cast_ofNat_Int]; (try simp only [S, TY, reduceCtorEq, nq0, nq1, nq2, nq3, nq4, iq0, iq1, iq2, iq3, iq4, iq5, iq6, iq7, iq8, w7])))))
          refine fin_take (B := [_]) (dS_shut ⟨s.m, xm, 1, 0, []⟩ (h7.fronts [1, 1])) ⟨?_, rfl⟩
          simp [g2, bs] <;> rfl
      · have hrs : s.rs ⟨xm, xp, xa, xs, xb⟩ = s := by unfold Ses.rs; rw [if_neg g2]
        rw [hrs] at hres
        have h5 := h4.new hb6 hg6 (.cells (dtz false).toArray 246 (0, 0))
        ((try simp only [S, TY, reduceCtorEq, nq0, nq1, nq2, nq3, nq4, iq0, iq1, iq2, iq3, iq4, iq5, iq6, iq7, iq8, g2]); (try (simp (disch := omega) only [W2, Int.cast_ofNat_Int]; (try simp only [S, TY, reduceCtorEq, nq0, nq1, nq2, nq3, nq4, iq0, iq1, iq2, iq3, iq4, iq5, iq6, iq7, iq8, g2]))); repeat ((first | (refine cl_drawi 4 D135_4 (List.range 7) (by decide) (by kernel_rfl) ?_; unfold D135_4) | (refine cl_drawi 6 D135_6 (List.range 10) (by decide) (by kernel_rfl) ?_; unfold D135_6) | (refine cl_drawi 12 D135_12 (List.range 7) (by decide) (by kernel_rfl) ?_; unfold D135_12) | (refine cl_drawi 14 D135_14 (List.range 15) (by decide) (by kernel_rfl) ?_; unfold D135_14) | (refine cl_drawi 17 D135_17 (List.range 8) (by decide) (by kernel_rfl) ?_; unfold D135_17)); simp only [S, TY, reduceCtorEq, nq0, nq1, nq2, nq3, nq4, iq0, iq1, iq2, iq3, iq4, iq5, iq6, iq7, iq8, g2]; (try (simp (disch := omega) only [W2, Int.cast_ofNat_Int]; (try simp only [S, TY, reduceCtorEq, nq0, nq1, nq2, nq3, nq4, iq0, iq1, iq2, iq3, iq4, iq5, iq6, iq7, iq8, g2])))))
        refine sg.st h5 rfl rfl fun H6 h6 => ?_
        simp only [front_eq, fronts_nil, fronts_cons, List.getElem?_cons_zero, List.getElem?_cons_succ, List.eraseIdx_cons_zero, List.eraseIdx_cons_succ, List.cons_append, List.nil_append, putL_cons, putL_nil, List.set_cons_zero, List.set_cons_succ, Nat.reduceAdd] at h6
        have c6 := h6.ci 1 rfl
        have d6 := h6.ci 4 rfl
        have f6 := h6.c0
        ((try simp only [S, TY, reduceCtorEq, nq0, nq1, nq2, nq3, nq4, iq0, iq1, iq2, iq3, iq4, iq5, iq6, iq7, iq8, c6, d6, f6]); (try (simp (disch := omega) only [W2, Int.cast_ofNat_Int]; (try simp only [S, TY, reduceCtorEq, nq0, nq1, nq2, nq3, nq4, iq0, iq1, iq2, iq3, iq4, iq5, iq6, iq7, iq8, c6, d6, f6]))); repeat ((first | (refine cl_drawi 4 D135_4 (List.range 7) (by decide) (by kernel_rfl) ?_; unfold D135_4) | (refine cl_drawi 6 D135_6 (List.range 10) (by decide) (by kernel_rfl) ?_; unfold D135_6) | (refine cl_drawi 12 D135_12 (List.range 7) (by decide) (by kernel_rfl) ?_; unfold D135_12) | (refine cl_drawi 14 D135_14 (List.range 15) (by decide) (by kernel_rfl) ?_; unfold D135_14) | (refine cl_drawi 17 D135_17 (List.range 8) (by decide) (by kernel_rfl) ?_; unfold D135_17)); simp only [S, TY, reduceCtorEq, nq0, nq1, nq2, nq3, nq4, iq0, iq1, iq2, iq3, iq4, iq5, iq6, iq7, iq8, c6, d6, f6]; (try (simp (disch := omega) only [W2, Int.cast_ofNat_Int]; (try simp only [S, TY, reduceCtorEq, nq0, nq1, nq2, nq3, nq4, iq0, iq1, iq2, iq3, iq4, iq5, iq6, iq7, iq8, c6, d6, f6])))))
        replace h6 := h6.fronts [1, 1]
        simp only [front_eq, fronts_nil, fronts_cons, List.getElem?_cons_zero, List.getElem?_cons_succ, List.eraseIdx_cons_zero, List.eraseIdx_cons_succ, List.cons_append, List.nil_append, putL_cons, putL_nil, List.set_cons_zero, List.set_cons_succ, Nat.reduceAdd] at h6
        have f6 := h6.li 2 rfl
        have hwr : (Ses.mk s.m s.p s.n s.g s.q).wf := by
          rw [← hrs]; exact Ses.wf_rs (x := ⟨xm, xp, xa, xs, xb⟩) hw hx
        by_cases g3 : xp = s.m
        · rw [if_pos (show Lt.p ⟨xm, xp, xa, xs, xb⟩ = s.m from g3)] at hres
          ((try simp only [S, TY, reduceCtorEq, nq0, nq1, nq2, nq3, nq4, iq0, iq1, iq2, iq3, iq4, iq5, iq6, iq7, iq8, c6, d6, g3]); (try (simp (disch := omega) only [W2, Int.cast_ofNat_Int]; (try simp only [S, TY, reduceCtorEq, nq0, nq1, nq2, nq3, nq4, iq0, iq1, iq2, iq3, iq4, iq5, iq6, iq7, iq8, c6, d6, g3]))); repeat ((first | (refine cl_drawi 4 D135_4 (List.range 7) (by decide) (by kernel_rfl) ?_; unfold D135_4) | (refine cl_drawi 6 D135_6 (List.range 10) (by decide) (by kernel_rfl) ?_; unfold D135_6) | (refine cl_drawi 12 D135_12 (List.range 7) (by decide) (by kernel_rfl) ?_; unfold D135_12) | (refine cl_drawi 14 D135_14 (List.range 15) (by decide) (by kernel_rfl) ?_; unfold D135_14) | (refine cl_drawi 17 D135_17 (List.range 8) (by decide) (by kernel_rfl) ?_; unfold D135_17)); simp only [S, TY, reduceCtorEq, nq0, nq1, nq2, nq3, nq4, iq0, iq1, iq2, iq3, iq4, iq5, iq6, iq7, iq8, c6, d6, g3]; (try (simp (disch := omega) only [W2, Int.cast_ofNat_Int]; (try simp only [S, TY, reduceCtorEq, nq0, nq1, nq2, nq3, nq4, iq0, iq1, iq2, iq3, iq4, iq5, iq6, iq7, iq8, c6, d6, g3])))))
          have h7 := dS_shut ⟨s.m, s.p, s.n, s.g, s.q⟩ h6
          refine cl_loop (fun (z : List (List UInt8) × Int) e H => ackq z.1 z.2 xa = ackq (s.q) (s.n) xa ∧ (Ses.mk s.m s.p z.2 s.g z.1).wf ∧ e 0 = .pointer (some ⟨a, 0, none⟩) ∧ e 3 = .pointer (some ⟨b3, 0, none⟩) ∧ e 4 = .pointer (some ⟨b4, 0, none⟩) ∧ e 7 = .pointer (some ⟨b6, 0, none⟩) ∧
              sg G [dS a ⟨s.m, s.p, z.2, s.g, z.1⟩, ob b6 (.cells (dtz false).toArray 246 (0, 0)), ob b4 (.cells (dtz false).toArray 246 (0, 0)), ob b3 (.cells (dll xm xp xa xs xb).toArray 65 (0, 0))] H) (fun z => z.1.length) (s.q, s.n)
            ⟨rfl, hwr, rfl, rfl, rfl, rfl, h7⟩ ?_
          rintro ⟨zq, zn⟩ e H ⟨hz, hwz, q0, q3, q4, q7, h⟩
          obtain ⟨qa, qc, e2, h8⟩ := dS_open h
          simp only at e2 h8 hz hwz
          have c8 := h8.c0
          have d8 := h8.ci 4 rfl
          have hzq := hwz.q
          have hzn := hwz.n
          simp only at hzq hzn
          by_cases g4 : 0 < (zq.length : Int) ∧ zn ≤ xa
          · obtain ⟨g4a, g4b⟩ := g4
            ((try simp only [S, TY, reduceCtorEq, nq0, nq1, nq2, nq3, nq4, iq0, iq1, iq2, iq3, iq4, iq5, iq6, iq7, iq8, q0, q3, q4, q7, c8, d8, g4a, g4b]); (try (simp (disch := omega) only [W2, Int.cast_ofNat_Int]; (try simp only [S, TY, reduceCtorEq, nq0, nq1, nq2, nq3, nq4, iq0, iq1, iq2, iq3, iq4, iq5, iq6, iq7, iq8, q0, q3, q4, q7, c8, d8, g4a, g4b]))); repeat ((first | (refine cl_drawi 4 D135_4 (List.range 7) (by decide) (by kernel_rfl) ?_; unfold D135_4) | (refine cl_drawi 6 D135_6 (List.range 10) (by decide) (by kernel_rfl) ?_; unfold D135_6) | (refine cl_drawi 12 D135_12 (List.range 7) (by decide) (by kernel_rfl) ?_; unfold D135_12) | (refine cl_drawi 14 D135_14 (List.range 15) (by decide) (by kernel_rfl) ?_; unfold D135_14) | (refine cl_drawi 17 D135_17 (List.range 8) (by decide) (by kernel_rfl) ?_; unfold D135_17)); simp only [S, TY, reduceCtorEq, nq0, nq1, nq2, nq3, nq4, iq0, iq1, iq2, iq3, iq4, iq5, iq6, iq7, iq8, q0, q3, q4, q7, c8, d8, g4a, g4b]; (try (simp (disch := omega) only [W2, Int.cast_ofNat_Int]; (try simp only [S, TY, reduceCtorEq, nq0, nq1, nq2, nq3, nq4, iq0, iq1, iq2, iq3, iq4, iq5, iq6, iq7, iq8, q0, q3, q4, q7, c8, d8, g4a, g4b])))))
            intro b9 hb9 hg9
            have h9 := h8.newsl (e := 9) (sz := 1) (n := 0) (xs := []) hb9 hg9 rfl
            have c9 := h9.ci 1 rfl
            ((try simp only [S, TY, reduceCtorEq, nq0, nq1, nq2, nq3, nq4, iq0, iq1, iq2, iq3, iq4, iq5, iq6, iq7, iq8, q0, q3, q4, q7, c9, g4a, g4b]); (try (simp (disch := omega) only [W2, Int.cast_ofNat_Int]; (try simp only [S, TY, reduceCtorEq, nq0, nq1, nq2, nq3, nq4, iq0, iq1, iq2, iq3, iq4, iq5, iq6, iq7, iq8, q0, q3, q4, q7, c9, g4a, g4b]))); repeat ((first | (refine cl_drawi 4 D135_4 (List.range 7) (by decide) (by kernel_rfl) ?_; unfold D135_4) | (refine cl_drawi 6 D135_6 (List.range 10) (by decide) (by kernel_rfl) ?_; unfold D135_6) | (refine cl_drawi 12 D135_12 (List.range 7) (by decide) (by kernel_rfl) ?_; unfold D135_12) | (refine cl_drawi 14 D135_14 (List.range 15) (by decide) (by kernel_rfl) ?_; unfold D135_14) | (refine cl_drawi 17 D135_17 (List.range 8) (by decide) (by kernel_rfl) ?_; unfold D135_17)); simp only [S, TY, reduceCtorEq, nq0, nq1, nq2, nq3, nq4, iq0, iq1, iq2, iq3, iq4, iq5, iq6, iq7, iq8, q0, q3, q4, q7, c9, g4a, g4b]; (try (simp (disch := omega) only [W2, Int.cast_ofNat_Int]; (try simp only [S, TY, reduceCtorEq, nq0, nq1, nq2, nq3, nq4, iq0, iq1, iq2, iq3, iq4, iq5, iq6, iq7, iq8, q0, q3, q4, q7, c9, g4a, g4b])))))
            refine ⟨by omega, ?_⟩
            have hdr := own_drop (h9.front 2) 1 (by omega)
            refine append_sl (show apI Try.prog 87 = some (9, 1, 16) from by kernel_rfl) (show slIs Try.prog 87 = true from by kernel_rfl) h9 (hdr.rdsi 0 rfl Rd_own) (fun v hv => str_one zq v (List.mem_of_mem_drop hv)) (by simp; omega) fun w H10 h10 => ?_
            obtain ⟨wa, wn, wc, rfl, _, _⟩ := h10.sl 0 rfl Rd_own
            ((try simp only [S, TY, reduceCtorEq, nq0, nq1, nq2, nq3, nq4, iq0, iq1, iq2, iq3, iq4, iq5, iq6, iq7, iq8, q0, q3, q4, q7]); (try (simp (disch := omega) only [W2, Int.cast_ofNat_Int]; (try simp only [S, TY, reduceCtorEq, nq0, nq1, nq2, nq3, nq4, iq0, iq1, iq2, iq3, iq4, iq5, iq6, iq7, iq8, q0, q3, q4, q7]))); repeat ((first | (refine cl_drawi 4 D135_4 (List.range 7) (by decide) (by kernel_rfl) ?_; unfold D135_4) | (refine cl_drawi 6 D135_6 (List.range 10) (by decide) (by kernel_rfl) ?_; unfold D135_6) | (refine cl_drawi 12 D135_12 (List.range 7) (by decide) (by kernel_rfl) ?_; unfold D135_12) | (refine cl_drawi 14 D135_14 (List.range 15) (by decide) (by kernel_rfl) ?_; unfold D135_14) | (refine cl_drawi 17 D135_17 (List.range 8) (by decide) (by kernel_rfl) ?_; unfold D135_17)); simp only [S, TY, reduceCtorEq, nq0, nq1, nq2, nq3, nq4, iq0, iq1, iq2, iq3, iq4, iq5, iq6, iq7, iq8, q0, q3, q4, q7]; (try (simp (disch := omega) only [W2, Int.cast_ofNat_Int]; (try simp only [S, TY, reduceCtorEq, nq0, nq1, nq2, nq3, nq4, iq0, iq1, iq2, iq3, iq4, iq5, iq6, iq7, iq8, q0, q3, q4, q7])))))
            refine sg.st (h10.front 1) rfl rfl fun H11 h11 => ?_
            simp only [front_eq, fronts_nil, fronts_cons, List.getElem?_cons_zero, List.getElem?_cons_succ, List.eraseIdx_cons_zero, List.eraseIdx_cons_succ, List.cons_append, List.nil_append, putL_cons, putL_nil, List.set_cons_zero, List.set_cons_succ, Nat.reduceAdd] at h11
            have c11 := h11.c0
            ((try simp only [S, TY, reduceCtorEq, nq0, nq1, nq2, nq3, nq4, iq0, iq1, iq2, iq3, iq4, iq5, iq6, iq7, iq8, q0, q3, q4, q7, c11]); (try (simp (disch := omega) only [W2, Int.cast_ofNat_Int]; (try simp only [S, TY, reduceCtorEq, nq0, nq1, nq2, nq3, nq4, iq0, iq1, iq2, iq3, iq4, iq5, iq6, iq7, iq8, q0, q3, q4, q7, c11]))); repeat ((first | (refine cl_drawi 4 D135_4 (List.range 7) (by decide) (by kernel_rfl) ?_; unfold D135_4) | (refine cl_drawi 6 D135_6 (List.range 10) (by decide) (by kernel_rfl) ?_; unfold D135_6) | (refine cl_drawi 12 D135_12 (List.range 7) (by decide) (by kernel_rfl) ?_; unfold D135_12) | (refine cl_drawi 14 D135_14 (List.range 15) (by decide) (by kernel_rfl) ?_; unfold D135_14) | (refine cl_drawi 17 D135_17 (List.range 8) (by decide) (by kernel_rfl) ?_; unfold D135_17)); simp only [S, TY, reduceCtorEq, nq0, nq1, nq2, nq3, nq4, iq0, iq1, iq2, iq3, iq4, iq5, iq6, iq7, iq8, q0, q3, q4, q7, c11]; (try (simp (disch := omega) only [W2, Int.cast_ofNat_Int]; (try simp only [S, TY, reduceCtorEq, nq0, nq1, nq2, nq3, nq4, iq0, iq1, iq2, iq3, iq4, iq5, iq6, iq7, iq8, q0, q3, q4, q7, c11])))))
            refine sg.st h11 rfl rfl fun H12 h12 => ?_
            simp only [front_eq, fronts_nil, fronts_cons, List.getElem?_cons_zero, List.getElem?_cons_succ, List.eraseIdx_cons_zero, List.eraseIdx_cons_succ, List.cons_append, List.nil_append, putL_cons, putL_nil, List.set_cons_zero, List.set_cons_succ, Nat.reduceAdd] at h12
            ((try simp only [S, TY, reduceCtorEq, nq0, nq1, nq2, nq3, nq4, iq0, iq1, iq2, iq3, iq4, iq5, iq6, iq7, iq8, q0, q3, q4, q7]); (try (simp (disch := omega) only [W2, Int.cast_ofNat_Int]; (try simp only [S, TY, reduceCtorEq, nq0, nq1, nq2, nq3, nq4, iq0, iq1, iq2, iq3, iq4, iq5, iq6, iq7, iq8, q0, q3, q4, q7]))); repeat ((first | (refine cl_drawi 4 D135_4 (List.range 7) (by decide) (by kernel_rfl) ?_; unfold D135_4) | (refine cl_drawi 6 D135_6 (List.range 10) (by decide) (by kernel_rfl) ?_; unfold D135_6) | (refine cl_drawi 12 D135_12 (List.range 7) (by decide) (by kernel_rfl) ?_; unfold D135_12) | (refine cl_drawi 14 D135_14 (List.range 15) (by decide) (by kernel_rfl) ?_; unfold D135_14) | (refine cl_drawi 17 D135_17 (List.range 8) (by decide) (by kernel_rfl) ?_; unfold D135_17)); simp only [S, TY, reduceCtorEq, nq0, nq1, nq2, nq3, nq4, iq0, iq1, iq2, iq3, iq4, iq5, iq6, iq7, iq8, q0, q3, q4, q7]; (try (simp (disch := omega) only [W2, Int.cast_ofNat_Int]; (try simp only [S, TY, reduceCtorEq, nq0, nq1, nq2, nq3, nq4, iq0, iq1, iq2, iq3, iq4, iq5, iq6, iq7, iq8, q0, q3, q4, q7])))))
            have h13 := ((h12.front 2).tail).front 0
            rw [Nat.mul_one, ← List.map_drop] at h13
            have h14 := dS_shut ⟨s.m, s.p, zn + 1, s.g, zq.drop 1⟩ h13
            refine .go (zq.drop 1, zn + 1) (by simp only [List.length_drop]; omega) ⟨by rw [← hz]; exact (ackq_step g4a g4b).symm, ⟨hwz.m, hwz.p, by simp only; omega, hwz.g, by simp only [List.length_drop]; omega, fun b hb => hwz.b b (List.mem_of_mem_drop hb)⟩, q0, q3, q4, q7, h14⟩
          · have hst := ackq_stop g4
            rw [hst] at hz
            simp only [Ses.ak, ← hz] at hres
            by_cases g4a : 0 < (zq.length : Int)
            · have g4b : ¬ zn ≤ xa := fun z => g4 ⟨g4a, z⟩
              by_cases g5 : xs = (s.g + 1 : Int)
              · rw [if_pos (show xs = (s.g : Int) + 1 by omega)] at hres
                subst hres
                ((try simp only [S, TY, reduceCtorEq, nq0, nq1, nq2, nq3, nq4, iq0, iq1, iq2, iq3, iq4, iq5, iq6, iq7, iq8, q0, q3, q4, q7, c8, d8, g4a, g4b, g5]); (try (simp (disch := omega) only [W2, Int.cast_ofNat_Int]; (try simp only [S, TY, reduceCtorEq, nq0, nq1, nq2, nq3, nq4, iq0, iq1, iq2, iq3, iq4, iq5, iq6, iq7, iq8, q0, q3, q4, q7, c8, d8, g4a, g4b, g5]))); repeat ((first | (refine cl_drawi 4 D135_4 (List.range 7) (by decide) (by kernel_rfl) ?_; unfold D135_4) | (refine cl_drawi 6 D135_6 (List.range 10) (by decide) (by kernel_rfl) ?_; unfold D135_6) | (refine cl_drawi 12 D135_12 (List.range 7) (by decide) (by kernel_rfl) ?_; unfold D135_12) | (refine cl_drawi 14 D135_14 (List.range 15) (by decide) (by kernel_rfl) ?_; unfold D135_14) | (refine cl_drawi 17 D135_17 (List.range 8) (by decide) (by kernel_rfl) ?_; unfold D135_17)); simp only [S, TY, reduceCtorEq, nq0, nq1, nq2, nq3, nq4, iq0, iq1, iq2, iq3, iq4, iq5, iq6, iq7, iq8, q0, q3, q4, q7, c8, d8, g4a, g4b, g5]; (try (simp (disch := omega) only [W2, Int.cast_ofNat_Int]; (try simp only [S, TY, reduceCtorEq, nq0, nq1, nq2, nq3, nq4, iq0, iq1, iq2, iq3, iq4, iq5, iq6, iq7, iq8, q0, q3, q4, q7, c8, d8, g4a, g4b, g5])))))
                refine sg.st h8 rfl rfl fun H9 h9 => ?_
                simp only [front_eq, fronts_nil, fronts_cons, List.getElem?_cons_zero, List.getElem?_cons_succ, List.eraseIdx_cons_zero, List.eraseIdx_cons_succ, List.cons_append, List.nil_append, putL_cons, putL_nil, List.set_cons_zero, List.set_cons_succ, Nat.reduceAdd] at h9
                have d9 := h9.ci 4 rfl
                ((try simp only [S, TY, reduceCtorEq, nq0, nq1, nq2, nq3, nq4, iq0, iq1, iq2, iq3, iq4, iq5, iq6, iq7, iq8, q0, q3, q4, q7, d9]); (try (simp (disch := omega) only [W2, Int.cast_ofNat_Int]; (try simp only [S, TY, reduceCtorEq, nq0, nq1, nq2, nq3, nq4, iq0, iq1, iq2, iq3, iq4, iq5, iq6, iq7, iq8, q0, q3, q4, q7, d9]))); repeat ((first | (refine cl_drawi 4 D135_4 (List.range 7) (by decide) (by kernel_rfl) ?_; unfold D135_4) | (refine cl_drawi 6 D135_6 (List.range 10) (by decide) (by kernel_rfl) ?_; unfold D135_6) | (refine cl_drawi 12 D135_12 (List.range 7) (by decide) (by kernel_rfl) ?_; unfold D135_12) | (refine cl_drawi 14 D135_14 (List.range 15) (by decide) (by kernel_rfl) ?_; unfold D135_14) | (refine cl_drawi 17 D135_17 (List.range 8) (by decide) (by kernel_rfl) ?_; unfold D135_17)); simp only [S, TY, reduceCtorEq, nq0, nq1, nq2, nq3, nq4, iq0, iq1, iq2, iq3, iq4, iq5, iq6, iq7, iq8, q0, q3, q4, q7, d9]; (try (simp (disch := omega) only [W2, Int.cast_ofNat_Int]; (try simp only [S, TY, reduceCtorEq, nq0, nq1, nq2, nq3, nq4, iq0, iq1, iq2, iq3, iq4, iq5, iq6, iq7, iq8, q0, q3, q4, q7, d9])))))
                refine sg.st (h9.front 2) rfl rfl fun H11 h11 => ?_
                simp only [front_eq, fronts_nil, fronts_cons, List.getElem?_cons_zero, List.getElem?_cons_succ, List.eraseIdx_cons_zero, List.eraseIdx_cons_succ, List.cons_append, List.nil_append, putL_cons, putL_nil, List.set_cons_zero, List.set_cons_succ, Nat.reduceAdd] at h11
                ((try simp only [S, TY, reduceCtorEq, nq0, nq1, nq2, nq3, nq4, iq0, iq1, iq2, iq3, iq4, iq5, iq6, iq7, iq8, q0, q3, q4, q7]); (try (simp (disch := omega) only [W2, Int.cast_ofNat_Int]; (try simp only [S, TY, reduceCtorEq, nq0, nq1, nq2, nq3, nq4, iq0, iq1, iq2, iq3, iq4, iq5, iq6, iq7, iq8, q0, q3, q4, q7]))); repeat ((first | (refine cl_drawi 4 D135_4 (List.range 7) (by decide) (by kernel_rfl) ?_; unfold D135_4) | (refine cl_drawi 6 D135_6 (List.range 10) (by decide) (by kernel_rfl) ?_; unfold D135_6) | (refine cl_drawi 12 D135_12 (List.range 7) (by decide) (by kernel_rfl) ?_; unfold D135_12) | (refine cl_drawi 14 D135_14 (List.range 15) (by decide) (by kernel_rfl) ?_; unfold D135_14) | (refine cl_drawi 17 D135_17 (List.range 8) (by decide) (by kernel_rfl) ?_; unfold D135_17)); simp only [S, TY, reduceCtorEq, nq0, nq1, nq2, nq3, nq4, iq0, iq1, iq2, iq3, iq4, iq5, iq6, iq7, iq8, q0, q3, q4, q7]; (try (simp (disch := omega) only [W2, Int.cast_ofNat_Int]; (try simp only [S, TY, reduceCtorEq, nq0, nq1, nq2, nq3, nq4, iq0, iq1, iq2, iq3, iq4, iq5, iq6, iq7, iq8, q0, q3, q4, q7])))))
                refine sg.st h11 rfl rfl fun H12 h12 => ?_
                simp only [front_eq, fronts_nil, fronts_cons, List.getElem?_cons_zero, List.getElem?_cons_succ, List.eraseIdx_cons_zero, List.eraseIdx_cons_succ, List.cons_append, List.nil_append, putL_cons, putL_nil, List.set_cons_zero, List.set_cons_succ, Nat.reduceAdd] at h12
                have w12 := h12.li 0 rfl
                ((try simp only [S, TY, reduceCtorEq, nq0, nq1, nq2, nq3, nq4, iq0, iq1, iq2, iq3, iq4, iq5, iq6, iq7, iq8, q0, q3, q4, q7, w12]); (try (simp (disch := omega) only [W2, Int.cast_ofNat_Int]; (try simp only [S, TY, reduceCtorEq, nq0, nq1, nq2, nq3, nq4, iq0, iq1, iq2, iq3, iq4, iq5, iq6, iq7, iq8, q0, q3, q4, q7, w12]))); repeat ((first | (refine cl_drawi 4 D135_4 (List.range 7) (by decide) (by kernel_rfl) ?_; unfold D135_4) | (refine cl_drawi 6 D135_6 (List.range 10) (by decide) (by kernel_rfl) ?_; unfold D135_6) | (refine cl_drawi 12 D135_12 (List.range 7) (by decide) (by kernel_rfl) ?_; unfold D135_12) | (refine cl_drawi 14 D135_14 (List.range 15) (by decide) (by kernel_rfl) ?_; unfold D135_14) | (refine cl_drawi 17 D135_17 (List.range 8) (by decide) (by kernel_rfl) ?_; unfold D135_17)); simp only [S, TY, reduceCtorEq, nq0, nq1, nq2, nq3, nq4, iq0, iq1, iq2, iq3, iq4, iq5, iq6, iq7, iq8, q0, q3, q4, q7, w12]; (try (simp (disch := omega) only [W2, Int.cast_ofNat_Int]; (try simp only [S, TY, reduceCtorEq, nq0, nq1, nq2, nq3, nq4, iq0, iq1, iq2, iq3, iq4, iq5, iq6, iq7, iq8, q0, q3, q4, q7, w12])))))
                refine sg.st (h12.front 3) rfl rfl fun H13 h13 => ?_
                simp only [front_eq, fronts_nil, fronts_cons, List.getElem?_cons_zero, List.getElem?_cons_succ, List.eraseIdx_cons_zero, List.eraseIdx_cons_succ, List.cons_append, List.nil_append, putL_cons, putL_nil, List.set_cons_zero, List.set_cons_succ, Nat.reduceAdd] at h13
                try rw [show IntKind.i64.wrap (s.g + 1) = s.g + 1 by rw [wrap_id] <;> omega] at h13
                have w13 := h13.li 0 rfl
                ((try simp only [S, TY, reduceCtorEq, nq0, nq1, nq2, nq3, nq4, iq0, iq1, iq2, iq3, iq4, iq5, iq6, iq7, iq8, q0, q3, q4, q7, w13]); (try (simp (disch := omega) only [W2, Int.cast_ofNat_Int]; (try simp only [S, TY, reduceCtorEq, nq0, nq1, nq2, nq3, nq4, iq0, iq1, iq2, iq3, iq4, iq5, iq6, iq7, iq8, q0, q3, q4, q7, w13]))); repeat ((first | (refine cl_drawi 4 D135_4 (List.range 7) (by decide) (by kernel_rfl) ?_; unfold D135_4) | (refine cl_drawi 6 D135_6 (List.range 10) (by decide) (by kernel_rfl) ?_; unfold D135_6) | (refine cl_drawi 12 D135_12 (List.range 7) (by decide) (by kernel_rfl) ?_; unfold D135_12) | (refine cl_drawi 14 D135_14 (List.range 15) (by decide) (by kernel_rfl) ?_; unfold D135_14) | (refine cl_drawi 17 D135_17 (List.range 8) (by decide) (by kernel_rfl) ?_; unfold D135_17)); simp only [S, TY, reduceCtorEq, nq0, nq1, nq2, nq3, nq4, iq0, iq1, iq2, iq3, iq4, iq5, iq6, iq7, iq8, q0, q3, q4, q7, w13]; (try (simp (disch := omega) only [W2, Int.cast_ofNat_Int]; (try simp only [S, TY, reduceCtorEq, nq0, nq1, nq2, nq3, nq4, iq0, iq1, iq2, iq3, iq4, iq5, iq6, iq7, iq8, q0, q3, q4, q7, w13])))))
                refine fin_take (B := [_]) (dS_shut ⟨s.m, s.p, zn, s.g + 1, zq⟩ (h13.fronts [2, 2])) ⟨?_, rfl⟩
                simp [g2]
              · rw [if_neg (show ¬ xs = (s.g : Int) + 1 by omega)] at hres
                subst hres
                have w8 := h8.li 2 rfl
                ((try simp only [S, TY, reduceCtorEq, nq0, nq1, nq2, nq3, nq4, iq0, iq1, iq2, iq3, iq4, iq5, iq6, iq7, iq8, q0, q3, q4, q7, c8, d8, g4a, g4b, g5, w8]); (try (simp (disch := omega) only [W2, Int.cast_ofNat_Int]; (try simp only [S, TY, reduceCtorEq, nq0, nq1, nq2, nq3, nq4, iq0, iq1, iq2, iq3, iq4, iq5, iq6, iq7, iq8, q0, q3, q4, q7, c8, d8, g4a, g4b, g5, w8]))); repeat ((first | (refine cl_drawi 4 D135_4 (List.range 7) (by decide) (by kernel_rfl) ?_; unfold D135_4) | (refine cl_drawi 6 D135_6 (List.range 10) (by decide) (by kernel_rfl) ?_; unfold D135_6) | (refine cl_drawi 12 D135_12 (List.range 7) (by decide) (by kernel_rfl) ?_; unfold D135_12) | (refine cl_drawi 14 D135_14 (List.range 15) (by decide) (by kernel_rfl) ?_; unfold D135_14) | (refine cl_drawi 17 D135_17 (List.range 8) (by decide) (by kernel_rfl) ?_; unfold D135_17)); simp only [S, TY, reduceCtorEq, nq0, nq1, nq2, nq3, nq4, iq0, iq1, iq2, iq3, iq4, iq5, iq6, iq7, iq8, q0, q3, q4, q7, c8, d8, g4a, g4b, g5, w8]; (try (simp (disch := omega) only [W2, Int.cast_ofNat_Int]; (try simp only [S, TY, reduceCtorEq, nq0, nq1, nq2, nq3, nq4, iq0, iq1, iq2, iq3, iq4, iq5, iq6, iq7, iq8, q0, q3, q4, q7, c8, d8, g4a, g4b, g5, w8])))))
                refine sg.st (h8.front 3) rfl rfl fun H9 h9 => ?_
                simp only [front_eq, fronts_nil, fronts_cons, List.getElem?_cons_zero, List.getElem?_cons_succ, List.eraseIdx_cons_zero, List.eraseIdx_cons_succ, List.cons_append, List.nil_append, putL_cons, putL_nil, List.set_cons_zero, List.set_cons_succ, Nat.reduceAdd] at h9
                have w9 := h9.li 0 rfl
                ((try simp only [S, TY, reduceCtorEq, nq0, nq1, nq2, nq3, nq4, iq0, iq1, iq2, iq3, iq4, iq5, iq6, iq7, iq8, q0, q3, q4, q7, w9]); (try (simp (disch := omega) only [W2, Int.cast_ofNat_Int]; (try simp only [S, TY, reduceCtorEq, nq0, nq1, nq2, nq3, nq4, iq0, iq1, iq2, iq3, iq4, iq5, iq6, iq7, iq8, q0, q3, q4, q7, w9]))); repeat ((first | (refine cl_drawi 4 D135_4 (List.range 7) (by decide) (by kernel_rfl) ?_; unfold D135_4) | (refine cl_drawi 6 D135_6 (List.range 10) (by decide) (by kernel_rfl) ?_; unfold D135_6) | (refine cl_drawi 12 D135_12 (List.range 7) (by decide) (by kernel_rfl) ?_; unfold D135_12) | (refine cl_drawi 14 D135_14 (List.range 15) (by decide) (by kernel_rfl) ?_; unfold D135_14) | (refine cl_drawi 17 D135_17 (List.range 8) (by decide) (by kernel_rfl) ?_; unfold D135_17)); simp only [S, TY, reduceCtorEq, nq0, nq1, nq2, nq3, nq4, iq0, iq1, iq2, iq3, iq4, iq5, iq6, iq7, iq8, q0, q3, q4, q7, w9]; (try (simp (disch := omega) only [W2, Int.cast_ofNat_Int]; (try simp only [S, TY, reduceCtorEq, nq0, nq1, nq2, nq3, nq4, iq0, iq1, iq2, iq3, iq4, iq5, iq6, iq7, iq8, q0, q3, q4, q7, w9])))))
                refine fin_take (B := [_]) (dS_shut ⟨s.m, s.p, zn, s.g, zq⟩ (h9.fronts [1, 1])) ⟨?_, rfl⟩
                simp [g2, bs] <;> rfl
            · by_cases g5 : xs = (s.g + 1 : Int)
              · rw [if_pos (show xs = (s.g : Int) + 1 by omega)] at hres
                subst hres
                ((try simp only [S, TY, reduceCtorEq, nq0, nq1, nq2, nq3, nq4, iq0, iq1, iq2, iq3, iq4, iq5, iq6, iq7, iq8, q0, q3, q4, q7, c8, d8, g4a, g5]); (try (simp (disch := omega) only [W2, Int.cast_ofNat_Int]; (try simp only [S, TY, reduceCtorEq, nq0, nq1, nq2, nq3, nq4, iq0, iq1, iq2, iq3, iq4, iq5, iq6, iq7, iq8, q0, q3, q4, q7, c8, d8, g4a, g5]))); repeat ((first | (refine cl_drawi 4 D135_4 (List.range 7) (by decide) (by kernel_rfl) ?_; unfold D135_4) | (refine cl_drawi 6 D135_6 (List.range 10) (by decide) (by kernel_rfl) ?_; unfold D135_6) | (refine cl_drawi 12 D135_12 (List.range 7) (by decide) (by kernel_rfl) ?_; unfold D135_12) | (refine cl_drawi 14 D135_14 (List.range 15) (by decide) (by kernel_rfl) ?_; unfold D135_14) | (refine cl_drawi 17 D135_17 (List.range 8) (by decide) (by kernel_rfl) ?_; unfold D135_17)); simp only [S, TY, reduceCtorEq, nq0, nq1, nq2, nq3, nq4, iq0, iq1, iq2, iq3, iq4, iq5, iq6, iq7, iq8, q0, q3, q4, q7, c8, d8, g4a, g5]; (try (simp (disch := omega) only [W2, Int.cast_ofNat_Int]; (try simp only [S, TY, reduceCtorEq, nq0, nq1, nq2, nq3, nq4, iq0, iq1, iq2, iq3, iq4, iq5, iq6, iq7, iq8, q0, q3, q4, q7, c8, d8, g4a, g5])))))
                refine sg.st h8 rfl rfl fun H9 h9 => ?_
                simp only [front_eq, fronts_nil, fronts_cons, List.getElem?_cons_zero, List.getElem?_cons_succ, List.eraseIdx_cons_zero, List.eraseIdx_cons_succ, List.cons_append, List.nil_append, putL_cons, putL_nil, List.set_cons_zero, List.set_cons_succ, Nat.reduceAdd] at h9
                have d9 := h9.ci 4 rfl
                ((try simp only [S, TY, reduceCtorEq, nq0, nq1, nq2, nq3, nq4, iq0, iq1, iq2, iq3, iq4, iq5, iq6, iq7, iq8, q0, q3, q4, q7, d9]); (try (simp (disch := omega) only [W2, Int.cast_ofNat_Int]; (try simp only [S, TY, reduceCtorEq, nq0, nq1, nq2, nq3, nq4, iq0, iq1, iq2, iq3, iq4, iq5, iq6, iq7, iq8, q0, q3, q4, q7, d9]))); repeat ((first | (refine cl_drawi 4 D135_4 (List.range 7) (by decide) (by kernel_rfl) ?_; unfold D135_4) | (refine cl_drawi 6 D135_6 (List.range 10) (by decide) (by kernel_rfl) ?_; unfold D135_6) | (refine cl_drawi 12 D135_12 (List.range 7) (by decide) (by kernel_rfl) ?_; unfold D135_12) | (refine cl_drawi 14 D135_14 (List.range 15) (by decide) (by kernel_rfl) ?_; unfold D135_14) | (refine cl_drawi 17 D135_17 (List.range 8) (by decide) (by kernel_rfl) ?_; unfold D135_17)); simp only [S, TY, reduceCtorEq, nq0, nq1, nq2, nq3, nq4, iq0, iq1, iq2, iq3, iq4, iq5, iq6, iq7, iq8, q0, q3, q4, q7, d9]; (try (simp (disch := omega) only [W2, Int.cast_ofNat_Int]; (try simp only [S, TY, reduceCtorEq, nq0, nq1, nq2, nq3, nq4, iq0, iq1, iq2, iq3, iq4, iq5, iq6, iq7, iq8, q0, q3, q4, q7, d9])))))
                refine sg.st (h9.front 2) rfl rfl fun H11 h11 => ?_
                simp only [front_eq, fronts_nil, fronts_cons, List.getElem?_cons_zero, List.getElem?_cons_succ, List.eraseIdx_cons_zero, List.eraseIdx_cons_succ, List.cons_append, List.nil_append, putL_cons, putL_nil, List.set_cons_zero, List.set_cons_succ, Nat.reduceAdd] at h11
                ((try simp only [S, TY, reduceCtorEq, nq0, nq1, nq2, nq3, nq4, iq0, iq1, iq2, iq3, iq4, iq5, iq6, iq7, iq8, q0, q3, q4, q7]); (try (simp (disch := omega) only [W2, Int.cast_ofNat_Int]; (try simp only [S, TY, reduceCtorEq, nq0, nq1, nq2, nq3, nq4, iq0, iq1, iq2, iq3, iq4, iq5, iq6, iq7, iq8, q0, q3, q4, q7]))); repeat ((first | (refine cl_drawi 4 D135_4 (List.range 7) (by decide) (by kernel_rfl) ?_; unfold D135_4) | (refine cl_drawi 6 D135_6 (List.range 10) (by decide) (by kernel_rfl) ?_; unfold D135_6) | (refine cl_drawi 12 D135_12 (List.range 7) (by decide) (by kernel_rfl) ?_; unfold D135_12) | (refine cl_drawi 14 D135_14 (List.range 15) (by decide) (by kernel_rfl) ?_; unfold D135_14) | (refine cl_drawi 17 D135_17 (List.range 8) (by decide) (by kernel_rfl) ?_; unfold D135_17)); simp only [S, TY, reduceCtorEq, nq0, nq1, nq2, nq3, nq4, iq0, iq1, iq2, iq3, iq4, iq5, iq6, iq7, iq8, q0, q3, q4, q7]; (try (simp (disch := omega) only [W2, Int.cast_ofNat_Int]; (try simp only [S, TY, reduceCtorEq, nq0, nq1, nq2, nq3, nq4, iq0, iq1, iq2, iq3, iq4, iq5, iq6, iq7, iq8, q0, q3, q4, q7])))))
                refine sg.st h11 rfl rfl fun H12 h12 => ?_
                simp only [front_eq, fronts_nil, fronts_cons, List.getElem?_cons_zero, List.getElem?_cons_succ, List.eraseIdx_cons_zero, List.eraseIdx_cons_succ, List.cons_append, List.nil_append, putL_cons, putL_nil, List.set_cons_zero, List.set_cons_succ, Nat.reduceAdd] at h12
                have w12 := h12.li 0 rfl
                ((try simp only [S, TY, reduceCtorEq, nq0, nq1, nq2, nq3, nq4, iq0, iq1, iq2, iq3, iq4, iq5, iq6, iq7, iq8, q0, q3, q4, q7, w12]); (try (simp (disch := omega) only [W2, Int.cast_ofNat_Int]; (try simp only [S, TY, reduceCtorEq, nq0, nq1, nq2, nq3, nq4, iq0, iq1, iq2, iq3, iq4, iq5, iq6, iq7, iq8, q0, q3, q4, q7, w12]))); repeat ((first | (refine cl_drawi 4 D135_4 (List.range 7) (by decide) (by kernel_rfl) ?_; unfold D135_4) | (refine cl_drawi 6 D135_6 (List.range 10) (by decide) (by kernel_rfl) ?_; unfold D135_6) | (refine cl_drawi 12 D135_12 (List.range 7) (by decide) (by kernel_rfl) ?_; unfold D135_12) | (refine cl_drawi 14 D135_14 (List.range 15) (by decide) (by kernel_rfl) ?_; unfold D135_14) | (refine cl_drawi 17 D135_17 (List.range 8) (by decide) (by kernel_rfl) ?_; unfold D135_17)); simp only [S, TY, reduceCtorEq, nq0, nq1, nq2, nq3, nq4, iq0, iq1, iq2, iq3, iq4, iq5, iq6, iq7, iq8, q0, q3, q4, q7, w12]; (try (simp (disch := omega) only [W2, Int.cast_ofNat_Int]; (try simp only [S, TY, reduceCtorEq, nq0, nq1, nq2, nq3, nq4, iq0, iq1, iq2, iq3, iq4, iq5, iq6, iq7, iq8, q0, q3, q4, q7, w12])))))
                refine sg.st (h12.front 3) rfl rfl fun H13 h13 => ?_
                simp only [front_eq, fronts_nil, fronts_cons, List.getElem?_cons_zero, List.getElem?_cons_succ, List.eraseIdx_cons_zero, List.eraseIdx_cons_succ, List.cons_append, List.nil_append, putL_cons, putL_nil, List.set_cons_zero, List.set_cons_succ, Nat.reduceAdd] at h13
                try rw [show IntKind.i64.wrap (s.g + 1) = s.g + 1 by rw [wrap_id] <;> omega] at h13
                have w13 := h13.li 0 rfl
                ((try simp only [S, TY, reduceCtorEq, nq0, nq1, nq2, nq3, nq4, iq0, iq1, iq2, iq3, iq4, iq5, iq6, iq7, iq8, q0, q3, q4, q7, w13]); (try (simp (disch := omega) only [W2, Int.cast_ofNat_Int]; (try simp only [S, TY, reduceCtorEq, nq0, nq1, nq2, nq3, nq4, iq0, iq1, iq2, iq3, iq4, iq5, iq6, iq7, iq8, q0, q3, q4, q7, w13]))); repeat ((first | (refine cl_drawi 4 D135_4 (List.range 7) (by decide) (by kernel_rfl) ?_; unfold D135_4) | (refine cl_drawi 6 D135_6 (List.range 10) (by decide) (by kernel_rfl) ?_; unfold D135_6) | (refine cl_drawi 12 D135_12 (List.range 7) (by decide) (by kernel_rfl) ?_; unfold D135_12) | (refine cl_drawi 14 D135_14 (List.range 15) (by decide) (by kernel_rfl) ?_; unfold D135_14) | (refine cl_drawi 17 D135_17 (List.range 8) (by decide) (by kernel_rfl) ?_; unfold D135_17)); simp only [S, TY, reduceCtorEq, nq0, nq1, nq2, nq3, nq4, iq0, iq1, iq2, iq3, iq4, iq5, iq6, iq7, iq8, q0, q3, q4, q7, w13]; (try (simp (disch := omega) only [W2, Int.cast_ofNat_Int]; (try simp only [S, TY, reduceCtorEq, nq0, nq1, nq2, nq3, nq4, iq0, iq1, iq2, iq3, iq4, iq5, iq6, iq7, iq8, q0, q3, q4, q7, w13])))))
                refine fin_take (B := [_]) (dS_shut ⟨s.m, s.p, zn, s.g + 1, zq⟩ (h13.fronts [2, 2])) ⟨?_, rfl⟩
                simp [g2]
              · rw [if_neg (show ¬ xs = (s.g : Int) + 1 by omega)] at hres
                subst hres
                have w8 := h8.li 2 rfl
                ((try simp only [S, TY, reduceCtorEq, nq0, nq1, nq2, nq3, nq4, iq0, iq1, iq2, iq3, iq4, iq5, iq6, iq7, iq8, q0, q3, q4, q7, c8, d8, g4a, g5, w8]); (try (simp (disch := omega) only [W2, Int.cast_ofNat_Int]; (try simp only [S, TY, reduceCtorEq, nq0, nq1, nq2, nq3, nq4, iq0, iq1, iq2, iq3, iq4, iq5, iq6, iq7, iq8, q0, q3, q4, q7, c8, d8, g4a, g5, w8]))); repeat ((first | (refine cl_drawi 4 D135_4 (List.range 7) (by decide) (by kernel_rfl) ?_; unfold D135_4) | (refine cl_drawi 6 D135_6 (List.range 10) (by decide) (by kernel_rfl) ?_; unfold D135_6) | (refine cl_drawi 12 D135_12 (List.range 7) (by decide) (by kernel_rfl) ?_; unfold D135_12) | (refine cl_drawi 14 D135_14 (List.range 15) (by decide) (by kernel_rfl) ?_; unfold D135_14) | (refine cl_drawi 17 D135_17 (List.range 8) (by decide) (by kernel_rfl) ?_; unfold D135_17)); simp only [S, TY, reduceCtorEq, nq0, nq1, nq2, nq3, nq4, iq0, iq1, iq2, iq3, iq4, iq5, iq6, iq7, iq8, q0, q3, q4, q7, c8, d8, g4a, g5, w8]; (try (simp (disch := omega) only [W2, Int.cast_ofNat_Int]; (try simp only [S, TY, reduceCtorEq, nq0, nq1, nq2, nq3, nq4, iq0, iq1, iq2, iq3, iq4, iq5, iq6, iq7, iq8, q0, q3, q4, q7, c8, d8, g4a, g5, w8])))))
                refine sg.st (h8.front 3) rfl rfl fun H9 h9 => ?_
                simp only [front_eq, fronts_nil, fronts_cons, List.getElem?_cons_zero, List.getElem?_cons_succ, List.eraseIdx_cons_zero, List.eraseIdx_cons_succ, List.cons_append, List.nil_append, putL_cons, putL_nil, List.set_cons_zero, List.set_cons_succ, Nat.reduceAdd] at h9
                have w9 := h9.li 0 rfl
                ((try simp only [S, TY, reduceCtorEq, nq0, nq1, nq2, nq3, nq4, iq0, iq1, iq2, iq3, iq4, iq5, iq6, iq7, iq8, q0, q3, q4, q7, w9]); (try (simp (disch := omega) only [W2, Int.cast_ofNat_Int]; (try simp only [S, TY, reduceCtorEq, nq0, nq1, nq2, nq3, nq4, iq0, iq1, iq2, iq3, iq4, iq5, iq6, iq7, iq8, q0, q3, q4, q7, w9]))); repeat ((first | (refine cl_drawi 4 D135_4 (List.range 7) (by decide) (by kernel_rfl) ?_; unfold D135_4) | (refine cl_drawi 6 D135_6 (List.range 10) (by decide) (by kernel_rfl) ?_; unfold D135_6) | (refine cl_drawi 12 D135_12 (List.range 7) (by decide) (by kernel_rfl) ?_; unfold D135_12) | (refine cl_drawi 14 D135_14 (List.range 15) (by decide) (by kernel_rfl) ?_; unfold D135_14) | (refine cl_drawi 17 D135_17 (List.range 8) (by decide) (by kernel_rfl) ?_; unfold D135_17)); simp only [S, TY, reduceCtorEq, nq0, nq1, nq2, nq3, nq4, iq0, iq1, iq2, iq3, iq4, iq5, iq6, iq7, iq8, q0, q3, q4, q7, w9]; (try (simp (disch := omega) only [W2, Int.cast_ofNat_Int]; (try simp only [S, TY, reduceCtorEq, nq0, nq1, nq2, nq3, nq4, iq0, iq1, iq2, iq3, iq4, iq5, iq6, iq7, iq8, q0, q3, q4, q7, w9])))))
                refine fin_take (B := [_]) (dS_shut ⟨s.m, s.p, zn, s.g, zq⟩ (h9.fronts [1, 1])) ⟨?_, rfl⟩
                simp [g2, bs] <;> rfl
        · rw [if_neg (show ¬ Lt.p ⟨xm, xp, xa, xs, xb⟩ = s.m from g3)] at hres
          subst hres
          ((try simp only [S, TY, reduceCtorEq, nq0, nq1, nq2, nq3, nq4, iq0, iq1, iq2, iq3, iq4, iq5, iq6, iq7, iq8, c6, d6, f6, g3]); (try (simp (disch := omega) only [W2, Int.cast_ofNat_Int]; (try simp only [S, TY, reduceCtorEq, nq0, nq1, nq2, nq3, nq4, iq0, iq1, iq2, iq3, iq4, iq5, iq6, iq7, iq8, c6, d6, f6, g3]))); repeat ((first | (refine cl_drawi 4 D135_4 (List.range 7) (by decide) (by kernel_rfl) ?_; unfold D135_4) | (refine cl_drawi 6 D135_6 (List.range 10) (by decide) (by kernel_rfl) ?_; unfold D135_6) | (refine cl_drawi 12 D135_12 (List.range 7) (by decide) (by kernel_rfl) ?_; unfold D135_12) | (refine cl_drawi 14 D135_14 (List.range 15) (by decide) (by kernel_rfl) ?_; unfold D135_14) | (refine cl_drawi 17 D135_17 (List.range 8) (by decide) (by kernel_rfl) ?_; unfold D135_17)); simp only [S, TY, reduceCtorEq, nq0, nq1, nq2, nq3, nq4, iq0, iq1, iq2, iq3, iq4, iq5, iq6, iq7, iq8, c6, d6, f6, g3]; (try (simp (disch := omega) only [W2, Int.cast_ofNat_Int]; (try simp only [S, TY, reduceCtorEq, nq0, nq1, nq2, nq3, nq4, iq0, iq1, iq2, iq3, iq4, iq5, iq6, iq7, iq8, c6, d6, f6, g3])))))
          refine sg.st (h6.front 3) rfl rfl fun H7 h7 => ?_
          simp only [front_eq, fronts_nil, fronts_cons, List.getElem?_cons_zero, List.getElem?_cons_succ, List.eraseIdx_cons_zero, List.eraseIdx_cons_succ, List.cons_append, List.nil_append, putL_cons, putL_nil, List.set_cons_zero, List.set_cons_succ, Nat.reduceAdd] at h7
          have w7 := h7.li 0 rfl
          ((try simp only [S, TY, reduceCtorEq, nq0, nq1, nq2, nq3, nq4, iq0, iq1, iq2, iq3, iq4, iq5, iq6, iq7, iq8, w7]); (try (simp (disch := omega) only [W2, Int.cast_ofNat_Int]; (try simp only [S, TY, reduceCtorEq, nq0, nq1, nq2, nq3, nq4, iq0, iq1, iq2, iq3, iq4, iq5, iq6, iq7, iq8, w7]))); repeat ((first | (refine cl_drawi 4 D135_4 (List.range 7) (by decide) (by kernel_rfl) ?_; unfold D135_4) | (refine cl_drawi 6 D135_6 (List.range 10) (by decide) (by kernel_rfl) ?_; unfold D135_6) | (refine cl_drawi 12 D135_12 (List.range 7) (by decide) (by kernel_rfl) ?_; unfold D135_12) | (refine cl_drawi 14 D135_14 (List.range 15) (by decide) (by kernel_rfl) ?_; unfold D135_14) | (refine cl_drawi 17 D135_17 (List.range 8) (by decide) (by kernel_rfl) ?_; unfold D135_17)); simp only [S, TY, reduceCtorEq, nq0, nq1, nq2, nq3, nq4, iq0, iq1, iq2, iq3, iq4, iq5, iq6, iq7, iq8, w7]; (try (simp (disch := omega) only [W2, Int.cast_ofNat_Int]; (try simp only [S, TY, reduceCtorEq, nq0, nq1, nq2, nq3, nq4, iq0, iq1, iq2, iq3, iq4, iq5, iq6, iq7, iq8, w7])))))
          refine fin_take (B := [_]) (dS_shut ⟨s.m, s.p, s.n, s.g, s.q⟩ (h7.fronts [1, 1])) ⟨?_, rfl⟩
          simp [g2, bs] <;> rfl
  · rw [if_neg (show ¬ Lt.ok ⟨xm, xp, xa, xs, xb⟩ = true from hx)] at hres
    have hx' : right xm xp xa xs xb.length = false := by rw [← Bool.not_eq_true]; exact hx
    subst hres
    ((try simp only [S, TY, reduceCtorEq, nq0, nq1, nq2, nq3, nq4, iq0, iq1, iq2, iq3, iq4, iq5, iq6, iq7, iq8, hx']); (try (simp (disch := omega) only [W2, Int.cast_ofNat_Int]; (try simp only [S, TY, reduceCtorEq, nq0, nq1, nq2, nq3, nq4, iq0, iq1, iq2, iq3, iq4, iq5, iq6, iq7, iq8, hx']))); repeat ((first | (refine cl_drawi 4 D135_4 (List.range 7) (by decide) (by kernel_rfl) ?_; unfold D135_4) | (refine cl_drawi 6 D135_6 (List.range 10) (by decide) (by kernel_rfl) ?_; unfold D135_6) | (refine cl_drawi 12 D135_12 (List.range 7) (by decide) (by kernel_rfl) ?_; unfold D135_12) | (refine cl_drawi 14 D135_14 (List.range 15) (by decide) (by kernel_rfl) ?_; unfold D135_14) | (refine cl_drawi 17 D135_17 (List.range 8) (by decide) (by kernel_rfl) ?_; unfold D135_17)); simp only [S, TY, reduceCtorEq, nq0, nq1, nq2, nq3, nq4, iq0, iq1, iq2, iq3, iq4, iq5, iq6, iq7, iq8, hx']; (try (simp (disch := omega) only [W2, Int.cast_ofNat_Int]; (try simp only [S, TY, reduceCtorEq, nq0, nq1, nq2, nq3, nq4, iq0, iq1, iq2, iq3, iq4, iq5, iq6, iq7, iq8, hx'])))))
    refine sg.st h3 rfl rfl fun H5 h5 => ?_
    simp only [front_eq, fronts_nil, fronts_cons, List.getElem?_cons_zero, List.getElem?_cons_succ, List.eraseIdx_cons_zero, List.eraseIdx_cons_succ, List.cons_append, List.nil_append, putL_cons, putL_nil, List.set_cons_zero, List.set_cons_succ, Nat.reduceAdd] at h5
    have w5 := h5.li 0 rfl
    ((try simp only [S, TY, reduceCtorEq, nq0, nq1, nq2, nq3, nq4, iq0, iq1, iq2, iq3, iq4, iq5, iq6, iq7, iq8, w5]); (try (simp (disch := omega) only [W2, Int.cast_ofNat_Int]; (try simp only [S, TY, reduceCtorEq, nq0, nq1, nq2, nq3, nq4, iq0, iq1, iq2, iq3, iq4, iq5, iq6, iq7, iq8, w5]))); repeat ((first | (refine cl_drawi 4 D135_4 (List.range 7) (by decide) (by kernel_rfl) ?_; unfold D135_4) | (refine cl_drawi 6 D135_6 (List.range 10) (by decide) (by kernel_rfl) ?_; unfold D135_6) | (refine cl_drawi 12 D135_12 (List.range 7) (by decide) (by kernel_rfl) ?_; unfold D135_12) | (refine cl_drawi 14 D135_14 (List.range 15) (by decide) (by kernel_rfl) ?_; unfold D135_14) | (refine cl_drawi 17 D135_17 (List.range 8) (by decide) (by kernel_rfl) ?_; unfold D135_17)); simp only [S, TY, reduceCtorEq, nq0, nq1, nq2, nq3, nq4, iq0, iq1, iq2, iq3, iq4, iq5, iq6, iq7, iq8, w5]; (try (simp (disch := omega) only [W2, Int.cast_ofNat_Int]; (try simp only [S, TY, reduceCtorEq, nq0, nq1, nq2, nq3, nq4, iq0, iq1, iq2, iq3, iq4, iq5, iq6, iq7, iq8, w5])))))
    exact fin_take (B := [_]) (show sg G [dS a s, _, _] _ from h5.front 2) ⟨rfl, rfl⟩
end Go.Proofs.Ytanhmbdcdbcfmaa.SeR
