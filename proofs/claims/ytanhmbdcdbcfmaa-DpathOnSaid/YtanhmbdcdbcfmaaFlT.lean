/- Tables of flows: a table made; what it tells of a key; its entries. -/
import Derived.Test.YtanhmbdcdbcfmaaFl
set_option linter.unusedVariables false
set_option linter.unusedSimpArgs false
set_option maxRecDepth 10000
set_option maxHeartbeats 4000000
namespace Go.Proofs.Ytanhmbdcdbcfmaa.FlT
open Nat renaming reduceEqDiff → nq0, reduceAdd → nq1, reduceLeDiff → nq2, reduceBEq → nq3, reduceMul → nq4
open Int renaming reduceBEq → iq0, reduceEq → iq1, reduceLT → iq2, reduceLE → iq3, reduceAdd → iq4, reduceSub → iq5, reduceMul → iq6, reduceToNat → iq7, cast_ofNat_Int → iq8
open Go Go.Sl Go.Proofs Go.Proofs.Ytanhmbdcdbcfmaa.So Go.Proofs.Ytanhmbdcdbcfmaa.SoI Go.Proofs.Ytanhmbdcdbcfmaa.SoR Go.Proofs.Ytanhmbdcdbcfmaa.SoM Go.Proofs.Ytanhmbdcdbcfmaa.SoS Go.Proofs.Ytanhmbdcdbcfmaa.Fl
theorem TY : aggN Try.prog 3 = some none ∧
  aggN Try.prog 22 = some none ∧
  aggN Try.prog 29 = some none ∧
  aggN Try.prog 194 = some (some 4) ∧
  aggN Try.prog 196 = some (some 11) ∧
  aggN Try.prog 198 = some (some 2) ∧
  aggN Try.prog 200 = some none ∧
  aggN Try.prog 210 = some (some 5) ∧
  aggN Try.prog 306 = some none ∧
  apI Try.prog 22 = some (196, 11, 88) ∧
  bIs Try.prog 194 = true ∧
  bIs Try.prog 196 = true ∧
  bIs Try.prog 198 = true ∧
  bIs Try.prog 210 = true ∧
  csz Try.prog 3 = some 1 ∧
  csz Try.prog 22 = some 1 ∧
  csz Try.prog 29 = some 1 ∧
  csz Try.prog 194 = some 4 ∧
  csz Try.prog 196 = some 11 ∧
  csz Try.prog 198 = some 2 ∧
  csz Try.prog 200 = some 1 ∧
  csz Try.prog 210 = some 5 ∧
  csz Try.prog 306 = some 1 ∧
  eqF Try.prog 194 = some [.i, .i, .i, .i] ∧
  eqF Try.prog 196 = some [.i, .i, .i, .i, .i, .i, .i, .i, .i, .i, .i] ∧
  eqF Try.prog 210 = some [.i, .i, .i, .i, .i] ∧
  fIs Try.prog 196 7 = true ∧
  fIs Try.prog 198 1 = true ∧
  fOff Try.prog 196 7 = 7 ∧
  fOff Try.prog 198 1 = 1 ∧
  fTy Try.prog 196 7 = 194 ∧
  fTy Try.prog 198 1 = 22 ∧
  fnIs Try.prog 200 = true ∧
  fnIs Try.prog 306 = true ∧
  goes Try.prog 96 = true ∧
  goes Try.prog 97 = true ∧
  goes Try.prog 98 = true ∧
  goes Try.prog 192 = true ∧
  goes Try.prog 193 = true ∧
  goes Try.prog 194 = true ∧
  inIs Try.prog 3 = some .i64 ∧
  plcs Try.prog 194 = [(0, 1), (1, 1), (2, 1), (3, 1)] ∧
  plcs Try.prog 196 = [(0, 1), (1, 1), (2, 1), (3, 1), (4, 1), (5, 1), (6, 1), (7, 4)] ∧
  plcs Try.prog 198 = [(0, 1), (1, 1)] ∧
  plcs Try.prog 210 = [(0, 1), (1, 1), (2, 1), (3, 1), (4, 1)] ∧
  ptIs Try.prog 29 = true ∧
  slEl Try.prog 22 = 196 ∧
  slIs Try.prog 22 = true ∧
  slSz Try.prog 22 = 11 ∧
  zcs Try.prog 194 = [.int .i64 0, .int .i64 0, .int .i64 0, .int .i64 0] ∧
  zcs Try.prog 196 = [.int .i64 0, .int .i64 0, .int .u64 0, .int .i64 0, .int .i64 0, .int .i64 0, .int .i64 0, .int .i64 0, .int .i64 0, .int .i64 0, .int .i64 0] ∧
  zcs Try.prog 198 = [.slice none 0 0, .slice none 0 0] ∧
  zcs Try.prog 210 = [.int .i64 0, .int .u64 0, .int .i64 0, .int .i64 0, .int .i64 0] ∧
  zro Try.prog 3 = some (.int .i64 0) ∧
  zro Try.prog 22 = some (.slice none 0 0) ∧
  zro Try.prog 29 = some (.pointer none) ∧
  zro Try.prog 194 = some (.agg #[.int .i64 0, .int .i64 0, .int .i64 0, .int .i64 0]) ∧
  zro Try.prog 196 = some (.agg #[.int .i64 0, .int .i64 0, .int .u64 0, .int .i64 0, .int .i64 0, .int .i64 0, .int .i64 0, .int .i64 0, .int .i64 0, .int .i64 0, .int .i64 0]) ∧
  zro Try.prog 198 = some (.agg #[.slice none 0 0, .slice none 0 0]) ∧
  zro Try.prog 200 = some (.nilFunc) ∧
  zro Try.prog 210 = some (.agg #[.int .i64 0, .int .u64 0, .int .i64 0, .int .i64 0, .int .i64 0]) ∧
  zro Try.prog 306 = some (.nilFunc) :=
  ⟨by kernel_rfl, by kernel_rfl, by kernel_rfl, by kernel_rfl, by kernel_rfl, by kernel_rfl, by kernel_rfl, by kernel_rfl, by kernel_rfl, by kernel_rfl, by kernel_rfl, by kernel_rfl, by kernel_rfl, by kernel_rfl, by kernel_rfl, by kernel_rfl, by kernel_rfl, by kernel_rfl, by kernel_rfl, by kernel_rfl, by kernel_rfl, by kernel_rfl, by kernel_rfl, by kernel_rfl, by kernel_rfl, by kernel_rfl, by kernel_rfl, by kernel_rfl, by kernel_rfl, by kernel_rfl, by kernel_rfl, by kernel_rfl, by kernel_rfl, by kernel_rfl, by kernel_rfl, by kernel_rfl, by kernel_rfl, by kernel_rfl, by kernel_rfl, by kernel_rfl, by kernel_rfl, by kernel_rfl, by kernel_rfl, by kernel_rfl, by kernel_rfl, by kernel_rfl, by kernel_rfl, by kernel_rfl, by kernel_rfl, by kernel_rfl, by kernel_rfl, by kernel_rfl, by kernel_rfl, by kernel_rfl, by kernel_rfl, by kernel_rfl, by kernel_rfl, by kernel_rfl, by kernel_rfl, by kernel_rfl, by kernel_rfl, by kernel_rfl⟩
abbrev ens (G : Hp) (v : Value) (l : List En) : Prop := rds G 11 v (l.flatMap En.l)
theorem en_one (l : List En) : ∀ v ∈ l.flatMap En.l, v.oneCell' = true := by
  intro v hv
  obtain ⟨x, hx, hv⟩ := List.mem_flatMap.1 hv
  simp only [List.mem_cons, List.not_mem_nil, or_false] at hv
  rcases hv with rfl | rfl | rfl | rfl | rfl | rfl | rfl | rfl | rfl | rfl | rfl <;> rfl
theorem rds.none_ {R : Hp} {sz n c : Nat} {xs : List Value} (h : rds R sz (.slice none n c) xs) : xs = [] := by
  obtain ⟨a, n', c', e, h2, h3, h4⟩ := h
  cases e
  rcases h4 with h4 | ⟨b, off, h4, -⟩
  · exact h4
  · cases h4
theorem clone_ok {G : Hp} {v : Value} {l : List En} (hv : ens G v l) (hl : l.length ≤ 100000) :
    Con Try.prog G 96 [v] [] (fun r B => B = [own 196 11 r (l.flatMap En.l)]) := by
  refine Con.intro Try.func96 rfl (Nat.le_of_ble_eq_true (by kernel_rfl)) (by kernel_rfl) Try.results96 ?_
  intro H hH
  obtain ⟨a, n, c, rfl, e1, e2⟩ := hv.slice
  cases a with
  | none =>
    have h0 := rds.none_ hv
    rw [h0]
    ((try simp only [S, TY, reduceCtorEq, nq0, nq1, nq2, nq3, nq4, iq0, iq1, iq2, iq3, iq4, iq5, iq6, iq7, iq8]); (try (simp (disch := omega) only [W2, Int.cast_ofNat_Int]; (try simp only [S, TY, reduceCtorEq, nq0, nq1, nq2, nq3, nq4, iq0, iq1, iq2, iq3, iq4, iq5, iq6, iq7, iq8]))))
    exact fin_ret (hH.nil_ 196 11) rfl
  | some a =>
    ((try simp only [S, TY, reduceCtorEq, nq0, nq1, nq2, nq3, nq4, iq0, iq1, iq2, iq3, iq4, iq5, iq6, iq7, iq8]); (try (simp (disch := omega) only [W2, Int.cast_ofNat_Int]; (try simp only [S, TY, reduceCtorEq, nq0, nq1, nq2, nq3, nq4, iq0, iq1, iq2, iq3, iq4, iq5, iq6, iq7, iq8]))))
    intro b hb hg
    have h1 := hH.newsl (e := 196) (sz := 11) (n := 0) (xs := []) hb hg rfl
    ((try simp only [S, TY, reduceCtorEq, nq0, nq1, nq2, nq3, nq4, iq0, iq1, iq2, iq3, iq4, iq5, iq6, iq7, iq8]); (try (simp (disch := omega) only [W2, Int.cast_ofNat_Int]; (try simp only [S, TY, reduceCtorEq, nq0, nq1, nq2, nq3, nq4, iq0, iq1, iq2, iq3, iq4, iq5, iq6, iq7, iq8]))))
    refine append_sl (show apI Try.prog 22 = some (196, 11, 88) from by kernel_rfl) (show slIs Try.prog 22 = true from by kernel_rfl) h1 (h1.ro hv) (en_one _) (by rw [flat_len En.len, List.length_nil]; omega) fun v H2 h2 => ?_
    ((try simp only [S, TY, reduceCtorEq, nq0, nq1, nq2, nq3, nq4, iq0, iq1, iq2, iq3, iq4, iq5, iq6, iq7, iq8]); (try (simp (disch := omega) only [W2, Int.cast_ofNat_Int]; (try simp only [S, TY, reduceCtorEq, nq0, nq1, nq2, nq3, nq4, iq0, iq1, iq2, iq3, iq4, iq5, iq6, iq7, iq8]))))
    exact fin_ret h2 (by simp only [List.nil_append])
/-- The place of the first one that a function takes; the function has one thing of its own. -/
theorem idx_ok {G : Hp} {X : Asn} {cap : Value} {k : FuncId} (hk : goes Try.prog k = true) {v : Value} {l : List En} (hv : ens G v l) (hll : l.length ≤ 100000) (p : En → Bool) (f : ∀ x, Con Try.prog G k [x.v, cap] [X] (fun r B => r = .bool (p x) ∧ B = [X])) :
    Con Try.prog G 192 [v, .func (.func k) #[] #[cap]] [X] (fun r B => ((r = .int .i64 (-1) ∧ l.find? p = none) ∨ ∃ (j : Nat) (hj : j < l.length), r = .int .i64 j ∧ l.find? p = some l[j]) ∧ B = [X]) := by
  obtain ⟨a, n, c, rfl, e1, e2⟩ := hv.slice
  rw [flat_len En.len] at e1
  obtain rfl : l.length = n := by omega
  clear e1
  refine Con.intro Try.func192 rfl (Nat.le_of_ble_eq_true (by kernel_rfl)) (by kernel_rfl) Try.results192 ?_
  intro H h
  ((try simp only [S, TY, reduceCtorEq, nq0, nq1, nq2, nq3, nq4, iq0, iq1, iq2, iq3, iq4, iq5, iq6, iq7, iq8]); (try (simp (disch := omega) only [W2, Int.cast_ofNat_Int]; (try simp only [S, TY, reduceCtorEq, nq0, nq1, nq2, nq3, nq4, iq0, iq1, iq2, iq3, iq4, iq5, iq6, iq7, iq8]))))
  refine cl_loop (fun i e H => i ≤ l.length ∧ e 0 = .slice a l.length c ∧ e 1 = .func (.func k) #[] #[cap] ∧ e 7 = .int .i64 l.length ∧ e 8 = .int .i64 i ∧ (l.take i).find? p = none ∧ sg G [X] H) (fun i => l.length - i) 0
    ⟨by omega, rfl, rfl, rfl, rfl, by simp, h⟩ ?_
  clear h
  rintro i e H ⟨q1, q2, q3, q4, q5, q6, h⟩
  by_cases g1 : (i : Int) < l.length
  · obtain ⟨b, off, hl, rfl, hc, hld⟩ := hv.el En.len (i := i) (by omega) (by omega)
    have g0 : (0 : Int) ≤ i ∧ (i : Int) < l.length := ⟨by omega, g1⟩
    have el := h.rold hld
    have hs : l.take (i + 1) = l.take i ++ [l[i]] := by rw [List.take_add_one, List.getElem?_eq_getElem hl]; rfl
    clear hc
    ((try simp only [S, TY, reduceCtorEq, nq0, nq1, nq2, nq3, nq4, iq0, iq1, iq2, iq3, iq4, iq5, iq6, iq7, iq8, q2, q3, q4, q5, g1, g0, el, hk]); (try (simp (disch := omega) only [W2, Int.cast_ofNat_Int]; (try simp only [S, TY, reduceCtorEq, nq0, nq1, nq2, nq3, nq4, iq0, iq1, iq2, iq3, iq4, iq5, iq6, iq7, iq8, q2, q3, q4, q5, g1, g0, el, hk]))))
    refine (f l[i]).at_ h [0] _ rfl (fun r B H' hr h' => ?_)
    obtain ⟨rfl, rfl⟩ := hr
    cases hp : p l[i] with
    | true =>
      ((try simp only [S, TY, reduceCtorEq, nq0, nq1, nq2, nq3, nq4, iq0, iq1, iq2, iq3, iq4, iq5, iq6, iq7, iq8, q2, q3, q4, q5, hp]); (try (simp (disch := omega) only [W2, Int.cast_ofNat_Int]; (try simp only [S, TY, reduceCtorEq, nq0, nq1, nq2, nq3, nq4, iq0, iq1, iq2, iq3, iq4, iq5, iq6, iq7, iq8, q2, q3, q4, q5, hp]))))
      refine fin_take (B := [_]) h' ⟨.inr ⟨i, hl, rfl, ?_⟩, rfl⟩
      have : l = l.take i ++ (l[i] :: l.drop (i + 1)) := by rw [← List.drop_eq_getElem_cons hl, List.take_append_drop]
      conv => lhs; rw [this]
      rw [List.find?_append, q6, List.find?_cons_of_pos hp]; rfl
    | false =>
      ((try simp only [S, TY, reduceCtorEq, nq0, nq1, nq2, nq3, nq4, iq0, iq1, iq2, iq3, iq4, iq5, iq6, iq7, iq8, q2, q3, q4, q5, hp]); (try (simp (disch := omega) only [W2, Int.cast_ofNat_Int]; (try simp only [S, TY, reduceCtorEq, nq0, nq1, nq2, nq3, nq4, iq0, iq1, iq2, iq3, iq4, iq5, iq6, iq7, iq8, q2, q3, q4, q5, hp]))))
      refine .go (i + 1) (by omega) ⟨by omega, q2, q3, q4, rfl, ?_, h'⟩
      rw [hs, List.find?_append, q6, List.find?_cons_of_neg (by rw [hp]; decide)]; rfl
  · ((try simp only [S, TY, reduceCtorEq, nq0, nq1, nq2, nq3, nq4, iq0, iq1, iq2, iq3, iq4, iq5, iq6, iq7, iq8, q2, q3, q4, q5, g1]); (try (simp (disch := omega) only [W2, Int.cast_ofNat_Int]; (try simp only [S, TY, reduceCtorEq, nq0, nq1, nq2, nq3, nq4, iq0, iq1, iq2, iq3, iq4, iq5, iq6, iq7, iq8, q2, q3, q4, q5, g1]))))
    refine fin_take (B := [_]) h ⟨.inl ⟨rfl, ?_⟩, rfl⟩
    rwa [List.take_of_length_le (by omega)] at q6
/-- A table of entries. -/
def tb (p : Nat) (l : List En) : Asn := fun H => ∃ u v l', Srt kk l' ∧ SE kk l l' ∧ seps [ob p (.cells #[u, v] 198 (0, 0)), own 196 11 u (l.flatMap En.l), own 196 11 v (l'.flatMap En.l)] H
theorem tb_open {G H : Hp} {p : Nat} {l : List En} {L : List Asn} (h : sg G (tb p l :: L) H) : ∃ u v l', Srt kk l' ∧ SE kk l l' ∧ sg G (ob p (.cells #[u, v] 198 (0, 0)) :: own 196 11 u (l.flatMap En.l) :: own 196 11 v (l'.flatMap En.l) :: L) H := by
  obtain ⟨hd, H1, H2, rfl, hd2, ⟨u, v, l', o1, o2, ha⟩, h2⟩ := h
  exact ⟨u, v, l', o1, o2, hd, seps_append (l := [_, _, _]).2 ⟨H1, H2, rfl, hd2, ha, h2⟩⟩
theorem tb_shut {G H : Hp} {p : Nat} {u v : Value} {l l' : List En} {L : List Asn} (o1 : Srt kk l') (o2 : SE kk l l') (h : sg G (ob p (.cells #[u, v] 198 (0, 0)) :: own 196 11 u (l.flatMap En.l) :: own 196 11 v (l'.flatMap En.l) :: L) H) : sg G (tb p l :: L) H :=
  h.shut [_, _, _] fun H hd ha => ⟨u, v, l', o1, o2, ha⟩
def NewR (l : List En) (r : Value) (B : List Asn) : Prop := if l.length ≤ 256 then ∃ p, r = .tuple #[.pointer (some ⟨p, 0, none⟩), .int .i64 0] ∧ B = [tb p l] else r = .tuple #[.pointer none, .int .i64 3] ∧ B = []
theorem New_ok {G : Hp} {v : Value} {l : List En} (hk : goes Try.prog 98 = true) (hv : ens G v l) (hll : l.length ≤ 100000) : Con Try.prog G 17 [v] [] (NewR l) := by
  obtain ⟨a, n, c, rfl, e1, e2⟩ := hv.slice
  rw [flat_len En.len] at e1
  obtain rfl : l.length = n := by omega
  clear e1
  refine Con.intro Try.func17 rfl (Nat.le_of_ble_eq_true (by kernel_rfl)) (by kernel_rfl) Try.results17 ?_
  intro H h
  by_cases g1 : (256 : Int) < l.length
  · ((try simp only [S, TY, reduceCtorEq, nq0, nq1, nq2, nq3, nq4, iq0, iq1, iq2, iq3, iq4, iq5, iq6, iq7, iq8, g1]); (try (simp (disch := omega) only [W2, Int.cast_ofNat_Int]; (try simp only [S, TY, reduceCtorEq, nq0, nq1, nq2, nq3, nq4, iq0, iq1, iq2, iq3, iq4, iq5, iq6, iq7, iq8, g1]))))
    exact fin_take (B := []) h (by unfold NewR; rw [if_neg (by omega)]; exact ⟨rfl, rfl⟩)
  · ((try simp only [S, TY, reduceCtorEq, nq0, nq1, nq2, nq3, nq4, iq0, iq1, iq2, iq3, iq4, iq5, iq6, iq7, iq8, g1]); (try (simp (disch := omega) only [W2, Int.cast_ofNat_Int]; (try simp only [S, TY, reduceCtorEq, nq0, nq1, nq2, nq3, nq4, iq0, iq1, iq2, iq3, iq4, iq5, iq6, iq7, iq8, g1]))))
    refine (clone_ok hv (by omega)).at_ h [] _ rfl (fun r B H2 hr h2 => ?_)
    subst hr
    ((try simp only [S, TY, reduceCtorEq, nq0, nq1, nq2, nq3, nq4, iq0, iq1, iq2, iq3, iq4, iq5, iq6, iq7, iq8]); (try (simp (disch := omega) only [W2, Int.cast_ofNat_Int]; (try simp only [S, TY, reduceCtorEq, nq0, nq1, nq2, nq3, nq4, iq0, iq1, iq2, iq3, iq4, iq5, iq6, iq7, iq8]))))
    refine (clone_ok hv (by omega)).at_ h2 [] _ rfl (fun r B H3 hr h3 => ?_)
    subst hr
    obtain ⟨ua, un, uc, rfl, hun, _⟩ := h3.sl 0 rfl Rd_own
    obtain ⟨wa, wn, wc, rfl, hwn, _⟩ := h3.sl 1 rfl Rd_own
    rw [flat_len En.len] at hun hwn
    obtain rfl : l.length = un := by omega
    ((try simp only [S, TY, reduceCtorEq, nq0, nq1, nq2, nq3, nq4, iq0, iq1, iq2, iq3, iq4, iq5, iq6, iq7, iq8]); (try (simp (disch := omega) only [W2, Int.cast_ofNat_Int]; (try simp only [S, TY, reduceCtorEq, nq0, nq1, nq2, nq3, nq4, iq0, iq1, iq2, iq3, iq4, iq5, iq6, iq7, iq8]))))
    intro p hp hg
    have h4 := h3.new hp hg (.cells #[.slice wa wn wc, .slice ua l.length uc] 198 (0, 0))
    have c1 := h4.c0 1
    simp only [List.getElem?_toArray, List.getElem?_cons_succ, List.getElem?_cons_zero] at c1
    ((try simp only [S, TY, reduceCtorEq, nq0, nq1, nq2, nq3, nq4, iq0, iq1, iq2, iq3, iq4, iq5, iq6, iq7, iq8, c1]); (try (simp (disch := omega) only [W2, Int.cast_ofNat_Int]; (try simp only [S, TY, reduceCtorEq, nq0, nq1, nq2, nq3, nq4, iq0, iq1, iq2, iq3, iq4, iq5, iq6, iq7, iq8, c1]))))
    refine (sort_ok hk rfl (by omega)).at_ h4 [1] _ rfl (fun r B H5 hr h5 => ?_)
    obtain ⟨l', o1, o2, rfl⟩ := hr
    ((try simp only [S, TY, reduceCtorEq, nq0, nq1, nq2, nq3, nq4, iq0, iq1, iq2, iq3, iq4, iq5, iq6, iq7, iq8]); (try (simp (disch := omega) only [W2, Int.cast_ofNat_Int]; (try simp only [S, TY, reduceCtorEq, nq0, nq1, nq2, nq3, nq4, iq0, iq1, iq2, iq3, iq4, iq5, iq6, iq7, iq8]))))
    exact fin_take (B := [_]) (tb_shut o1 o2 (h5.fronts [1, 1, 0])) (by unfold NewR; rw [if_pos (by omega)]; exact ⟨p, rfl, rfl⟩)
structure Ac where
  kind : Int
  port : Int
  to : Int
  gen : Int
  deriving DecidableEq
abbrev Ac.l (x : Ac) : List Value := [.int .i64 x.kind, .int .i64 x.port, .int .i64 x.to, .int .i64 x.gen]
abbrev Ac.v (x : Ac) : Value := .agg x.l.toArray
def act (x : En) : Ac := ⟨x.kind, x.aport, x.to, x.gen⟩
/-- What a table tells of a key. -/
def lookT (k : Ky) (l : List En) : Ac × Bool := match best kk (fits k) none l with | some x => (act x, true) | none => (⟨0, 0, 0, 0⟩, false)
/-- An entry's action, read. -/
theorem rdAct {R : Hp} {A : Option Addr} {n c j : Nat} {l : List En} (h : rds R 11 (.slice A n c) (l.flatMap En.l)) (hj : j < l.length) :
    ∃ b off, A = some ⟨b, off, none⟩ ∧ j < n ∧ ldl R ⟨b, off + j * 11 + 7, none⟩ 0 4 = some (act l[j]).l := by
  obtain ⟨b, off, e, hn, -⟩ := rdI h hj
  obtain ⟨b', off', hl, e', hc, -⟩ := h.el En.len hn (by decide)
  rw [e] at e'
  cases e'
  refine ⟨b, off, e, hn, ?_⟩
  have := ldl_of (R := R) (b := b) (off := off + j * 11 + 7) (xs := (act l[j]).l) (fun i hi => by
    have := hc (7 + i) (by simp only [List.length_cons, List.length_nil] at hi; omega)
    rw [show off + j * 11 + 7 + i = off + j * 11 + (7 + i) by omega, this]
    simp only [List.length_cons, List.length_nil] at hi
    obtain rfl | rfl | rfl | rfl : i = 0 ∨ i = 1 ∨ i = 2 ∨ i = 3 := by omega
    all_goals rfl) 4 0 (by simp)
  simpa using this
theorem look1_ok {G : Hp} (k : Ky) (q : Nat) (x : En) : Con Try.prog G 193 [x.v, .pointer (some ⟨q, 0, none⟩)] [ob q (.cells k.l.toArray 210 (0, 0))] (fun r B => r = .bool (fits k x) ∧ B = [ob q (.cells k.l.toArray 210 (0, 0))]) := by
  obtain ⟨x1, x2, x3, x4, x5, x6, x7, x8, x9, x10, x11⟩ := x
  obtain ⟨k1, k2, k3, k4, k5⟩ := k
  refine Con.intro Try.func193 rfl (Nat.le_of_ble_eq_true (by kernel_rfl)) (by kernel_rfl) Try.results193 ?_
  intro H h
  have fl := h.li 0 rfl
  ((try simp only [S, TY, reduceCtorEq, nq0, nq1, nq2, nq3, nq4, iq0, iq1, iq2, iq3, iq4, iq5, iq6, iq7, iq8, fl]); (try (simp (disch := omega) only [W2, Int.cast_ofNat_Int]; (try simp only [S, TY, reduceCtorEq, nq0, nq1, nq2, nq3, nq4, iq0, iq1, iq2, iq3, iq4, iq5, iq6, iq7, iq8, fl]))))
  repeat' (((first
      | ((with_reducible show CallsH _ _ 194 _ _ _); first | (refine (Fits_ok ⟨_, _, _, _, _, _, _, _, _, _, _⟩ ⟨_, _, _, _, _⟩).at_ h [] _ rfl (fun r B H' hr h' => ?_); obtain ⟨rfl, rfl⟩ := hr; skip))
      | ((with_reducible show fin _ _ _); first | (exact fin_take (B := [_]) (h.front 1) ⟨rfl, rfl⟩))
      | ((with_reducible show New _ _ _); first | (refine New_sl h 11 rfl (fun b H' h' => ?_); skip) | (refine New_qsl h 11 rfl (fun b => rfl) (fun b H' h' => ?_); skip) | (refine New_ob h (fun b H' h' => ?_); skip) | (refine New_qob h (fun b H' h' => ?_); skip))
      | ((with_reducible show St _ _); first | (refine sg.st (h.front 0) rfl rfl (fun H' h' => ?_); skip) | (refine sg.st (h.front 1) rfl rfl (fun H' h' => ?_); skip) | (refine sg.st (h.front 2) rfl rfl (fun H' h' => ?_); skip) | (refine sg.st (h.front 3) rfl rfl (fun H' h' => ?_); skip) | (refine sg.st (h.front 4) rfl rfl (fun H' h' => ?_); skip) | (refine sg.st (h.front 5) rfl rfl (fun H' h' => ?_); skip) | (refine sg.st (h.front 6) rfl rfl (fun H' h' => ?_); skip) | (refine sg.st (h.front 7) rfl rfl (fun H' h' => ?_); skip))
      | ((with_reducible show Gate _ _ _); refine Gate.intro (fun g => ?_) (fun g => ?_) <;> (try subst g))
      ) <;> ((try ((try simp only [row, En.l, Ky.l, front_eq] at h'); (try simp only [front_eq, fronts_nil, fronts_cons, List.getElem?_cons_zero, List.getElem?_cons_succ, List.eraseIdx_cons_zero, List.eraseIdx_cons_succ, List.cons_append, List.nil_append, putL_cons, putL_nil, List.set_cons_zero, List.set_cons_succ, Nat.reduceAdd] at h'); clear h; have h := h'; clear h'; (try have fc := h.ci 0 rfl); (try have fl := h.li 0 rfl); (try have fc := h.ci 1 rfl); (try have fl := h.li 1 rfl); (try have fc := h.ci 2 rfl); (try have fl := h.li 2 rfl); (try have fc := h.ci 3 rfl); (try have fl := h.li 3 rfl); (try have fc := h.ci 4 rfl); (try have fl := h.li 4 rfl); (try have fc := h.ci 5 rfl); (try have fl := h.li 5 rfl); (try have fc := h.ci 6 rfl); (try have fl := h.li 6 rfl); (try have fc := h.ci 7 rfl); (try have fl := h.li 7 rfl))); ((try simp only [S, TY, reduceCtorEq, nq0, nq1, nq2, nq3, nq4, iq0, iq1, iq2, iq3, iq4, iq5, iq6, iq7, iq8, *]); (try (simp (disch := omega) only [W2, Int.cast_ofNat_Int]; (try simp only [S, TY, reduceCtorEq, nq0, nq1, nq2, nq3, nq4, iq0, iq1, iq2, iq3, iq4, iq5, iq6, iq7, iq8, *])))))))
theorem Look_nil {G : Hp} (k : Ky) : Con Try.prog G 173 [.pointer none, k.v] [] (fun r B => r = .tuple #[(⟨0, 0, 0, 0⟩ : Ac).v, .bool false] ∧ B = []) := by
  obtain ⟨k1, k2, k3, k4, k5⟩ := k
  refine Con.intro Try.func173 rfl (Nat.le_of_ble_eq_true (by kernel_rfl)) (by kernel_rfl) Try.results173 ?_
  intro H h
  ((try simp only [S, TY, reduceCtorEq, nq0, nq1, nq2, nq3, nq4, iq0, iq1, iq2, iq3, iq4, iq5, iq6, iq7, iq8]); (try (simp (disch := omega) only [W2, Int.cast_ofNat_Int]; (try simp only [S, TY, reduceCtorEq, nq0, nq1, nq2, nq3, nq4, iq0, iq1, iq2, iq3, iq4, iq5, iq6, iq7, iq8]))))
  repeat' (((first
      | ((with_reducible show fin _ _ _); first | (exact fin_take (B := []) h ⟨rfl, rfl⟩))
      | ((with_reducible show New _ _ _); first | (refine New_sl h 11 rfl (fun b H' h' => ?_); skip) | (refine New_qsl h 11 rfl (fun b => rfl) (fun b H' h' => ?_); skip) | (refine New_ob h (fun b H' h' => ?_); skip) | (refine New_qob h (fun b H' h' => ?_); skip))
      | ((with_reducible show St _ _); first | (refine sg.st (h.front 0) rfl rfl (fun H' h' => ?_); skip) | (refine sg.st (h.front 1) rfl rfl (fun H' h' => ?_); skip) | (refine sg.st (h.front 2) rfl rfl (fun H' h' => ?_); skip) | (refine sg.st (h.front 3) rfl rfl (fun H' h' => ?_); skip) | (refine sg.st (h.front 4) rfl rfl (fun H' h' => ?_); skip) | (refine sg.st (h.front 5) rfl rfl (fun H' h' => ?_); skip) | (refine sg.st (h.front 6) rfl rfl (fun H' h' => ?_); skip) | (refine sg.st (h.front 7) rfl rfl (fun H' h' => ?_); skip))
      | ((with_reducible show Gate _ _ _); refine Gate.intro (fun g => ?_) (fun g => ?_) <;> (try subst g))
      ) <;> ((try ((try simp only [row, En.l, Ky.l, front_eq] at h'); (try simp only [front_eq, fronts_nil, fronts_cons, List.getElem?_cons_zero, List.getElem?_cons_succ, List.eraseIdx_cons_zero, List.eraseIdx_cons_succ, List.cons_append, List.nil_append, putL_cons, putL_nil, List.set_cons_zero, List.set_cons_succ, Nat.reduceAdd] at h'); clear h; have h := h'; clear h'; (try have fc := h.ci 0 rfl); (try have fl := h.li 0 rfl); (try have fc := h.ci 1 rfl); (try have fl := h.li 1 rfl); (try have fc := h.ci 2 rfl); (try have fl := h.li 2 rfl); (try have fc := h.ci 3 rfl); (try have fl := h.li 3 rfl); (try have fc := h.ci 4 rfl); (try have fl := h.li 4 rfl); (try have fc := h.ci 5 rfl); (try have fl := h.li 5 rfl); (try have fc := h.ci 6 rfl); (try have fl := h.li 6 rfl); (try have fc := h.ci 7 rfl); (try have fl := h.li 7 rfl))); ((try simp only [S, TY, reduceCtorEq, nq0, nq1, nq2, nq3, nq4, iq0, iq1, iq2, iq3, iq4, iq5, iq6, iq7, iq8, *]); (try (simp (disch := omega) only [W2, Int.cast_ofNat_Int]; (try simp only [S, TY, reduceCtorEq, nq0, nq1, nq2, nq3, nq4, iq0, iq1, iq2, iq3, iq4, iq5, iq6, iq7, iq8, *])))))))
theorem Look_ok {G : Hp} {p : Nat} {l : List En} (hk : goes Try.prog 193 = true) (k : Ky) (hll : l.length ≤ 100000) : Con Try.prog G 173 [.pointer (some ⟨p, 0, none⟩), k.v] [tb p l]
    (fun r B => r = .tuple #[(lookT k l).1.v, .bool (lookT k l).2] ∧ B = [tb p l]) := by
  refine Con.intro Try.func173 rfl (Nat.le_of_ble_eq_true (by kernel_rfl)) (by kernel_rfl) Try.results173 ?_
  intro H h
  obtain ⟨u, v, l', o1, o2, h⟩ := tb_open h
  have hlen := o2.len
  obtain ⟨ua, un, uc, rfl, hun, _⟩ := h.sl 1 rfl Rd_own
  obtain ⟨wa, wn, wc, rfl, hwn, _⟩ := h.sl 2 rfl Rd_own
  rw [flat_len En.len] at hun hwn
  obtain rfl : l'.length = wn := by omega
  have hb := best_find (p := fits k) o2 o1
  ((try simp only [S, TY, reduceCtorEq, nq0, nq1, nq2, nq3, nq4, iq0, iq1, iq2, iq3, iq4, iq5, iq6, iq7, iq8]); (try (simp (disch := omega) only [W2, Int.cast_ofNat_Int]; (try simp only [S, TY, reduceCtorEq, nq0, nq1, nq2, nq3, nq4, iq0, iq1, iq2, iq3, iq4, iq5, iq6, iq7, iq8]))))
  iterate 4 (all_goals (try ((first
      | ((with_reducible show CallsH _ _ 192 _ _ _); skip; fail)
      | ((with_reducible show New _ _ _); first | (refine New_sl h 11 rfl (fun b H' h' => ?_); skip) | (refine New_qsl h 11 rfl (fun b => rfl) (fun b H' h' => ?_); skip) | (refine New_ob h (fun b H' h' => ?_); skip) | (refine New_qob h (fun b H' h' => ?_); skip))
      | ((with_reducible show St _ _); first | (refine sg.st (h.front 0) rfl rfl (fun H' h' => ?_); skip) | (refine sg.st (h.front 1) rfl rfl (fun H' h' => ?_); skip) | (refine sg.st (h.front 2) rfl rfl (fun H' h' => ?_); skip) | (refine sg.st (h.front 3) rfl rfl (fun H' h' => ?_); skip) | (refine sg.st (h.front 4) rfl rfl (fun H' h' => ?_); skip) | (refine sg.st (h.front 5) rfl rfl (fun H' h' => ?_); skip) | (refine sg.st (h.front 6) rfl rfl (fun H' h' => ?_); skip) | (refine sg.st (h.front 7) rfl rfl (fun H' h' => ?_); skip))
      | ((with_reducible show Gate _ _ _); refine Gate.intro (fun g => ?_) (fun g => ?_) <;> (try subst g))
      ) <;> ((try ((try simp only [row, En.l, Ky.l, front_eq] at h'); (try simp only [front_eq, fronts_nil, fronts_cons, List.getElem?_cons_zero, List.getElem?_cons_succ, List.eraseIdx_cons_zero, List.eraseIdx_cons_succ, List.cons_append, List.nil_append, putL_cons, putL_nil, List.set_cons_zero, List.set_cons_succ, Nat.reduceAdd] at h'); clear h; have h := h'; clear h'; (try have fc := h.ci 0 rfl); (try have fl := h.li 0 rfl); (try have fc := h.ci 1 rfl); (try have fl := h.li 1 rfl); (try have fc := h.ci 2 rfl); (try have fl := h.li 2 rfl); (try have fc := h.ci 3 rfl); (try have fl := h.li 3 rfl); (try have fc := h.ci 4 rfl); (try have fl := h.li 4 rfl); (try have fc := h.ci 5 rfl); (try have fl := h.li 5 rfl); (try have fc := h.ci 6 rfl); (try have fl := h.li 6 rfl); (try have fc := h.ci 7 rfl); (try have fl := h.li 7 rfl))); ((try simp only [S, TY, reduceCtorEq, nq0, nq1, nq2, nq3, nq4, iq0, iq1, iq2, iq3, iq4, iq5, iq6, iq7, iq8, hk, *]); (try (simp (disch := omega) only [W2, Int.cast_ofNat_Int]; (try simp only [S, TY, reduceCtorEq, nq0, nq1, nq2, nq3, nq4, iq0, iq1, iq2, iq3, iq4, iq5, iq6, iq7, iq8, hk, *]))))))))
  refine Con.lend_at [ob _ (.cells k.l.toArray 210 (0, 0))] [own 196 11 _ (l'.flatMap En.l)] h [1, 3] rfl (fun F hF hs => idx_ok hk (seps_own hs 0 rfl).left (by omega) (fits k) (fun x => look1_ok k _ x)) (fun r B H' hr h' => ?_)
  clear h
  obtain ⟨hr, rfl⟩ := hr
  simp only [front_eq, fronts_nil, fronts_cons, List.getElem?_cons_zero, List.getElem?_cons_succ, List.eraseIdx_cons_zero, List.eraseIdx_cons_succ, List.cons_append, List.nil_append, putL_cons, putL_nil, List.set_cons_zero, List.set_cons_succ, Nat.reduceAdd] at h'
  have h := h'
  clear h'
  rcases hr with ⟨rfl, hn⟩ | ⟨j, hj, rfl, hf⟩
  · rw [hn] at hb
    have hlook : lookT k l = (⟨0, 0, 0, 0⟩, false) := by unfold lookT; rw [← hb]
    rw [hlook]
    ((try simp only [S, TY, reduceCtorEq, nq0, nq1, nq2, nq3, nq4, iq0, iq1, iq2, iq3, iq4, iq5, iq6, iq7, iq8]); (try (simp (disch := omega) only [W2, Int.cast_ofNat_Int]; (try simp only [S, TY, reduceCtorEq, nq0, nq1, nq2, nq3, nq4, iq0, iq1, iq2, iq3, iq4, iq5, iq6, iq7, iq8]))))
    repeat' (((first
        | ((with_reducible show fin _ _ _); first | (exact fin_take (B := [_]) (tb_shut o1 o2 (h.fronts [3, 3, 2])) ⟨rfl, rfl⟩))
        | ((with_reducible show New _ _ _); first | (refine New_sl h 11 rfl (fun b H' h' => ?_); skip) | (refine New_qsl h 11 rfl (fun b => rfl) (fun b H' h' => ?_); skip) | (refine New_ob h (fun b H' h' => ?_); skip) | (refine New_qob h (fun b H' h' => ?_); skip))
        | ((with_reducible show St _ _); first | (refine sg.st (h.front 0) rfl rfl (fun H' h' => ?_); skip) | (refine sg.st (h.front 1) rfl rfl (fun H' h' => ?_); skip) | (refine sg.st (h.front 2) rfl rfl (fun H' h' => ?_); skip) | (refine sg.st (h.front 3) rfl rfl (fun H' h' => ?_); skip) | (refine sg.st (h.front 4) rfl rfl (fun H' h' => ?_); skip) | (refine sg.st (h.front 5) rfl rfl (fun H' h' => ?_); skip) | (refine sg.st (h.front 6) rfl rfl (fun H' h' => ?_); skip) | (refine sg.st (h.front 7) rfl rfl (fun H' h' => ?_); skip))
        | ((with_reducible show Gate _ _ _); refine Gate.intro (fun g => ?_) (fun g => ?_) <;> (try subst g))
        ) <;> ((try ((try simp only [row, En.l, Ky.l, front_eq] at h'); (try simp only [front_eq, fronts_nil, fronts_cons, List.getElem?_cons_zero, List.getElem?_cons_succ, List.eraseIdx_cons_zero, List.eraseIdx_cons_succ, List.cons_append, List.nil_append, putL_cons, putL_nil, List.set_cons_zero, List.set_cons_succ, Nat.reduceAdd] at h'); clear h; have h := h'; clear h'; (try have fc := h.ci 0 rfl); (try have fl := h.li 0 rfl); (try have fc := h.ci 1 rfl); (try have fl := h.li 1 rfl); (try have fc := h.ci 2 rfl); (try have fl := h.li 2 rfl); (try have fc := h.ci 3 rfl); (try have fl := h.li 3 rfl); (try have fc := h.ci 4 rfl); (try have fl := h.li 4 rfl); (try have fc := h.ci 5 rfl); (try have fl := h.li 5 rfl); (try have fc := h.ci 6 rfl); (try have fl := h.li 6 rfl); (try have fc := h.ci 7 rfl); (try have fl := h.li 7 rfl))); ((try simp only [S, TY, reduceCtorEq, nq0, nq1, nq2, nq3, nq4, iq0, iq1, iq2, iq3, iq4, iq5, iq6, iq7, iq8, *]); (try (simp (disch := omega) only [W2, Int.cast_ofNat_Int]; (try simp only [S, TY, reduceCtorEq, nq0, nq1, nq2, nq3, nq4, iq0, iq1, iq2, iq3, iq4, iq5, iq6, iq7, iq8, *])))))))
  · rw [hf] at hb
    have hlook : lookT k l = (act l'[j], true) := by unfold lookT; rw [← hb]
    rw [hlook]
    have h0 : ¬ ((j : Int) < 0) := by omega
    obtain ⟨bl, off, rfl, hjn, el⟩ := rdAct (h.rdsi 1 rfl Rd_own) hj
    have b1 : (0 : Int) ≤ (j : Nat) ∧ ((j : Nat) : Int) < l'.length := by omega
    have fc := h.ci 3 rfl
    ((try simp only [S, TY, reduceCtorEq, nq0, nq1, nq2, nq3, nq4, iq0, iq1, iq2, iq3, iq4, iq5, iq6, iq7, iq8, h0, b1, el, fc]); (try (simp (disch := omega) only [W2, Int.cast_ofNat_Int]; (try simp only [S, TY, reduceCtorEq, nq0, nq1, nq2, nq3, nq4, iq0, iq1, iq2, iq3, iq4, iq5, iq6, iq7, iq8, h0, b1, el, fc]))))
    repeat' (((first
        | ((with_reducible show fin _ _ _); first | (exact fin_take (B := [_]) (tb_shut o1 o2 (h.fronts [3, 3, 2])) ⟨rfl, rfl⟩))
        | ((with_reducible show New _ _ _); first | (refine New_sl h 11 rfl (fun b H' h' => ?_); skip) | (refine New_qsl h 11 rfl (fun b => rfl) (fun b H' h' => ?_); skip) | (refine New_ob h (fun b H' h' => ?_); skip) | (refine New_qob h (fun b H' h' => ?_); skip))
        | ((with_reducible show St _ _); first | (refine sg.st (h.front 0) rfl rfl (fun H' h' => ?_); skip) | (refine sg.st (h.front 1) rfl rfl (fun H' h' => ?_); skip) | (refine sg.st (h.front 2) rfl rfl (fun H' h' => ?_); skip) | (refine sg.st (h.front 3) rfl rfl (fun H' h' => ?_); skip) | (refine sg.st (h.front 4) rfl rfl (fun H' h' => ?_); skip) | (refine sg.st (h.front 5) rfl rfl (fun H' h' => ?_); skip) | (refine sg.st (h.front 6) rfl rfl (fun H' h' => ?_); skip) | (refine sg.st (h.front 7) rfl rfl (fun H' h' => ?_); skip))
        | ((with_reducible show Gate _ _ _); refine Gate.intro (fun g => ?_) (fun g => ?_) <;> (try subst g))
        ) <;> ((try ((try simp only [row, En.l, Ky.l, front_eq] at h'); (try simp only [front_eq, fronts_nil, fronts_cons, List.getElem?_cons_zero, List.getElem?_cons_succ, List.eraseIdx_cons_zero, List.eraseIdx_cons_succ, List.cons_append, List.nil_append, putL_cons, putL_nil, List.set_cons_zero, List.set_cons_succ, Nat.reduceAdd] at h'); clear h; have h := h'; clear h'; (try have fc := h.ci 0 rfl); (try have fl := h.li 0 rfl); (try have fc := h.ci 1 rfl); (try have fl := h.li 1 rfl); (try have fc := h.ci 2 rfl); (try have fl := h.li 2 rfl); (try have fc := h.ci 3 rfl); (try have fl := h.li 3 rfl); (try have fc := h.ci 4 rfl); (try have fl := h.li 4 rfl); (try have fc := h.ci 5 rfl); (try have fl := h.li 5 rfl); (try have fc := h.ci 6 rfl); (try have fl := h.li 6 rfl); (try have fc := h.ci 7 rfl); (try have fl := h.li 7 rfl); (try (have el := (rdAct (h.rdsi 2 rfl Rd_own) hj))))); ((try simp only [S, TY, reduceCtorEq, nq0, nq1, nq2, nq3, nq4, iq0, iq1, iq2, iq3, iq4, iq5, iq6, iq7, iq8, h0, b1, el, *]); (try (simp (disch := omega) only [W2, Int.cast_ofNat_Int]; (try simp only [S, TY, reduceCtorEq, nq0, nq1, nq2, nq3, nq4, iq0, iq1, iq2, iq3, iq4, iq5, iq6, iq7, iq8, h0, b1, el, *])))))))
end Go.Proofs.Ytanhmbdcdbcfmaa.FlT
