/- Entries of a table, sorted in place: slices.SortStableFunc. -/
import Derived.Test.YtanhmbdcdbcfmaaSoN
set_option linter.unusedVariables false
set_option linter.unusedSimpArgs false
set_option maxRecDepth 10000
set_option maxHeartbeats 8000000
namespace Go.Proofs.Ytanhmbdcdbcfmaa.SoS
open Nat renaming reduceEqDiff → nq0, reduceAdd → nq1, reduceLeDiff → nq2, reduceBEq → nq3, reduceMul → nq4
open Int renaming reduceBEq → iq0, reduceEq → iq1, reduceLT → iq2, reduceLE → iq3, reduceAdd → iq4, reduceSub → iq5, reduceMul → iq6, reduceToNat → iq7, cast_ofNat_Int → iq8
open Go Go.Sl Go.Proofs Go.Proofs.Ytanhmbdcdbcfmaa.So Go.Proofs.Ytanhmbdcdbcfmaa.SoI Go.Proofs.Ytanhmbdcdbcfmaa.SoR Go.Proofs.Ytanhmbdcdbcfmaa.SoM Go.Proofs.Ytanhmbdcdbcfmaa.SoN
theorem TY : aggN Try.prog 3 = some none ∧
  aggN Try.prog 22 = some none ∧
  aggN Try.prog 196 = some (some 11) ∧
  aggN Try.prog 200 = some none ∧
  apI Try.prog 22 = some (196, 11, 88) ∧
  bIs Try.prog 196 = true ∧
  csz Try.prog 3 = some 1 ∧
  csz Try.prog 22 = some 1 ∧
  csz Try.prog 196 = some 11 ∧
  csz Try.prog 200 = some 1 ∧
  eqF Try.prog 196 = some [.i, .i, .i, .i, .i, .i, .i, .i, .i, .i, .i] ∧
  fnIs Try.prog 200 = true ∧
  goes Try.prog 169 = true ∧
  goes Try.prog 190 = true ∧
  goes Try.prog 191 = true ∧
  inIs Try.prog 3 = some .i64 ∧
  plcs Try.prog 196 = [(0, 1), (1, 1), (2, 1), (3, 1), (4, 1), (5, 1), (6, 1), (7, 4)] ∧
  slEl Try.prog 22 = 196 ∧
  slIs Try.prog 22 = true ∧
  slSz Try.prog 22 = 11 ∧
  zcs Try.prog 196 = [.int .i64 0, .int .i64 0, .int .u64 0, .int .i64 0, .int .i64 0, .int .i64 0, .int .i64 0, .int .i64 0, .int .i64 0, .int .i64 0, .int .i64 0] ∧
  zro Try.prog 3 = some (.int .i64 0) ∧
  zro Try.prog 22 = some (.slice none 0 0) ∧
  zro Try.prog 196 = some (.agg #[.int .i64 0, .int .i64 0, .int .u64 0, .int .i64 0, .int .i64 0, .int .i64 0, .int .i64 0, .int .i64 0, .int .i64 0, .int .i64 0, .int .i64 0]) ∧
  zro Try.prog 200 = some (.nilFunc) :=
  ⟨by kernel_rfl, by kernel_rfl, by kernel_rfl, by kernel_rfl, by kernel_rfl, by kernel_rfl, by kernel_rfl, by kernel_rfl, by kernel_rfl, by kernel_rfl, by kernel_rfl, by kernel_rfl, by kernel_rfl, by kernel_rfl, by kernel_rfl, by kernel_rfl, by kernel_rfl, by kernel_rfl, by kernel_rfl, by kernel_rfl, by kernel_rfl, by kernel_rfl, by kernel_rfl, by kernel_rfl, by kernel_rfl⟩
theorem stable_ok {G : Hp} {A : Option Addr} {n c : Nat} {l : List En} (hk : goes Try.prog 98 = true) (hl : l.length = n) (hn : n ≤ 10000) :
    Con Try.prog G 169 [.slice A n c, .int .i64 n, lessF] [ow A n c l] (fun r B => ∃ l', Srt kk l' ∧ SE kk l l' ∧ B = [ow A n c l']) := by
  refine Con.intro Try.func169 rfl (Nat.le_of_ble_eq_true (by kernel_rfl)) (by kernel_rfl) Try.results169 ?_
  intro H h
  ((try simp only [S, TY, reduceCtorEq, nq0, nq1, nq2, nq3, nq4, iq0, iq1, iq2, iq3, iq4, iq5, iq6, iq7, iq8]); (try (simp (disch := omega) only [W2, Int.cast_ofNat_Int]; (try simp only [S, TY, reduceCtorEq, nq0, nq1, nq2, nq3, nq4, iq0, iq1, iq2, iq3, iq4, iq5, iq6, iq7, iq8]))))
  refine cl_loop (fun z e H => e 0 = .slice A n c ∧ e 1 = .int .i64 n ∧ e 2 = lessF ∧ e 6 = .int .i64 20 ∧ ∃ d r, n - d.length = z ∧ e 7 = .int .i64 d.length ∧ e 8 = .int .i64 (d.length + 20 : Nat) ∧ d.length + r.length = n ∧ Pre kk 20 d ∧ SE kk l (d ++ r) ∧ sg G [ow A n c (d ++ r)] H) (fun z : Nat => z) n
    ⟨rfl, rfl, rfl, rfl, [], l, by simp, rfl, rfl, by simpa using hl, Pre.nil, SE.refl _, by simpa using h⟩ ?_
  clear h
  rintro z e H ⟨q0, q1, q2, q6, d, r, rfl, q7, q8, l1, o1, o2, h⟩
  by_cases g1 : ((d.length + 20 : Nat) : Int) ≤ n
  · have w1 : IntKind.i64.wrap (((d.length + 20 : Nat) : Int) + 20) = ((d.length + 20 + 20 : Nat) : Int) := by rw [wrap_id] <;> omega
    obtain ⟨s, r, rfl, l2⟩ : ∃ s r', r = s ++ r' ∧ s.length = 20 := ⟨r.take 20, r.drop 20, by simp, by rw [List.length_take]; omega⟩
    simp only [List.length_append] at l1
    ((try simp only [S, TY, reduceCtorEq, nq0, nq1, nq2, nq3, nq4, iq0, iq1, iq2, iq3, iq4, iq5, iq6, iq7, iq8, q0, q1, q2, q6, q7, q8, g1, w1]); (try (simp (disch := omega) only [W2, Int.cast_ofNat_Int]; (try simp only [S, TY, reduceCtorEq, nq0, nq1, nq2, nq3, nq4, iq0, iq1, iq2, iq3, iq4, iq5, iq6, iq7, iq8, q0, q1, q2, q6, q7, q8, g1, w1]))))
    refine (ins_ok (a := d.length) (b := d.length + 20) (p := d) (s := s) (q := r) hk rfl (by omega) (by omega)).at_ (sgc h (l' := d ++ s ++ r) (by simp only [List.append_assoc])) [0] _ rfl (fun v B H' hr h' => ?_)
    obtain ⟨s', o3, o4, rfl⟩ := hr
    have l3 := o4.len
    ((try simp only [S, TY, reduceCtorEq, nq0, nq1, nq2, nq3, nq4, iq0, iq1, iq2, iq3, iq4, iq5, iq6, iq7, iq8, q0, q1, q2, q6, q7, q8, g1, w1]); (try (simp (disch := omega) only [W2, Int.cast_ofNat_Int]; (try simp only [S, TY, reduceCtorEq, nq0, nq1, nq2, nq3, nq4, iq0, iq1, iq2, iq3, iq4, iq5, iq6, iq7, iq8, q0, q1, q2, q6, q7, q8, g1, w1]))))
    have hlen : (d ++ s').length = d.length + 20 := by simp only [List.length_append]; omega
    refine .go (n - (d ++ s').length) (by simp only [List.length_append]; omega) ⟨q0, q1, q2, q6, d ++ s', r, rfl, by rw [hlen]; rfl, by rw [hlen]; rfl, by rw [hlen]; omega, o1.snoc o3 (by omega), o2.trans ?_, sgc h' (by simp only [List.append_assoc])⟩
    simpa [List.append_assoc] using (SE.refl d).app (o4.app (SE.refl r))
  · ((try simp only [S, TY, reduceCtorEq, nq0, nq1, nq2, nq3, nq4, iq0, iq1, iq2, iq3, iq4, iq5, iq6, iq7, iq8, q0, q1, q2, q6, q7, q8, g1]); (try (simp (disch := omega) only [W2, Int.cast_ofNat_Int]; (try simp only [S, TY, reduceCtorEq, nq0, nq1, nq2, nq3, nq4, iq0, iq1, iq2, iq3, iq4, iq5, iq6, iq7, iq8, q0, q1, q2, q6, q7, q8, g1]))))
    refine (ins_ok (a := d.length) (b := n) (p := d) (s := r) (q := []) hk rfl (by omega) (by omega)).at_ (sgc h (l' := d ++ r ++ []) (by simp only [List.append_nil])) [0] _ rfl (fun v B H' hr h' => ?_)
    obtain ⟨r', o3, o4, rfl⟩ := hr
    have l3 := o4.len
    have o5 := o1 r' (.one o3 (by omega))
    have o6 : SE kk l (d ++ r') := o2.trans ((SE.refl d).app o4)
    obtain ⟨x, hx⟩ : ∃ x, d ++ r' = x := ⟨_, rfl⟩
    have l4 : x.length = n := by rw [← hx]; simp; omega
    replace h := sgc h' (l' := x) (by rw [← hx]; simp only [List.append_nil])
    clear h'
    rw [hx] at o5 o6
    clear hx o1 o2 o3 o4 l3 l1 q7 q8 g1
    ((try simp only [S, TY, reduceCtorEq, nq0, nq1, nq2, nq3, nq4, iq0, iq1, iq2, iq3, iq4, iq5, iq6, iq7, iq8, q0, q1, q2, q6]); (try (simp (disch := omega) only [W2, Int.cast_ofNat_Int]; (try simp only [S, TY, reduceCtorEq, nq0, nq1, nq2, nq3, nq4, iq0, iq1, iq2, iq3, iq4, iq5, iq6, iq7, iq8, q0, q1, q2, q6]))))
    refine cl_loop (fun z e H => e 0 = .slice A n c ∧ e 1 = .int .i64 n ∧ e 2 = lessF ∧ ∃ (k : Nat) (x : List En), z = 40000 - k ∧ (1 ≤ k ∧ k ≤ 40000) ∧ e 6 = .int .i64 k ∧ x.length = n ∧ Blk kk k x ∧ SE kk l x ∧ sg G [ow A n c x] H) (fun z : Nat => z) 39980
      ⟨q0, q1, q2, 20, x, rfl, by omega, q6, l4, o5, o6, h⟩ ?_
    clear h q0 q1 q2 q6 o5 o6 l4
    rintro z e H ⟨q0, q1, q2, k, x, rfl, hkk, q6, l4, o5, o6, h⟩
    by_cases g1 : (k : Int) < n
    · have w1 : IntKind.i64.wrap (2 * (k : Int)) = ((2 * k : Nat) : Int) := by rw [wrap_id] <;> omega
      have w1' : IntKind.i64.wrap ((k : Int) * 2) = ((2 * k : Nat) : Int) := by rw [wrap_id] <;> omega
      ((try simp only [S, TY, reduceCtorEq, nq0, nq1, nq2, nq3, nq4, iq0, iq1, iq2, iq3, iq4, iq5, iq6, iq7, iq8, q0, q1, q2, q6, g1, w1]); (try (simp (disch := omega) only [W2, Int.cast_ofNat_Int]; (try simp only [S, TY, reduceCtorEq, nq0, nq1, nq2, nq3, nq4, iq0, iq1, iq2, iq3, iq4, iq5, iq6, iq7, iq8, q0, q1, q2, q6, g1, w1]))))
      refine cl_loop (fun z e H => e 0 = .slice A n c ∧ e 1 = .int .i64 n ∧ e 2 = lessF ∧ e 6 = .int .i64 k ∧ ∃ d r, n - d.length = z ∧ e 7 = .int .i64 d.length ∧ e 8 = .int .i64 (d.length + 2 * k : Nat) ∧ d.length + r.length = n ∧ Pre kk (2 * k) d ∧ Blk kk k r ∧ SE kk l (d ++ r) ∧ sg G [ow A n c (d ++ r)] H) (fun z : Nat => z) n
        ⟨q0, q1, q2, q6, [], x, by simp, rfl, by rw [show ([] : List En).length + 2 * k = 2 * k by simp]; rfl, by simpa using l4, Pre.nil, o5, o6, h⟩ ?_
      clear h q0 q1 q2 q6 o5 o6 l4
      rintro z e H ⟨q0, q1, q2, q6, d, r, rfl, q7, q8, l1, o1, o2, o3, h⟩
      have w2 : IntKind.i64.wrap ((d.length : Int) + (k : Int)) = ((d.length + k : Nat) : Int) := by rw [wrap_id] <;> omega
      by_cases g2 : ((d.length + 2 * k : Nat) : Int) ≤ n
      · have w3 : IntKind.i64.wrap (((d.length + 2 * k : Nat) : Int) + ((2 * k : Nat) : Int)) = ((d.length + 2 * k + 2 * k : Nat) : Int) := by rw [wrap_id] <;> omega
        obtain ⟨s, r, rfl, l2, o4, o2⟩ := o2.cut (by omega)
        simp only [List.length_append] at l1
        obtain ⟨t, r, rfl, l3, o5, o2⟩ := o2.cut (by omega)
        simp only [List.length_append] at l1
        ((try simp only [S, TY, reduceCtorEq, nq0, nq1, nq2, nq3, nq4, iq0, iq1, iq2, iq3, iq4, iq5, iq6, iq7, iq8, q0, q1, q2, q6, q7, q8, g2, w1, w2, w3]); (try (simp (disch := omega) only [W2, Int.cast_ofNat_Int]; (try simp only [S, TY, reduceCtorEq, nq0, nq1, nq2, nq3, nq4, iq0, iq1, iq2, iq3, iq4, iq5, iq6, iq7, iq8, q0, q1, q2, q6, q7, q8, g2, w1, w2, w3]))))
        refine (sym_ok hk n (a := d.length) (m := d.length + k) (b := d.length + 2 * k) (p := d) (s := s) (t := t) (q := r) (by omega) rfl rfl (by omega) (by omega) (by omega) (by omega) (by omega) o4 o5).at_ (sgc h (l' := d ++ s ++ t ++ r) (by simp only [List.append_assoc])) [0] _ rfl (fun v B H' hr h' => ?_)
        obtain ⟨u, o6, o7, rfl⟩ := hr
        have l5 := o7.len
        simp only [List.length_append] at l5
        ((try simp only [S, TY, reduceCtorEq, nq0, nq1, nq2, nq3, nq4, iq0, iq1, iq2, iq3, iq4, iq5, iq6, iq7, iq8, q0, q1, q2, q6, q7, q8, g2, w1, w2, w3]); (try (simp (disch := omega) only [W2, Int.cast_ofNat_Int]; (try simp only [S, TY, reduceCtorEq, nq0, nq1, nq2, nq3, nq4, iq0, iq1, iq2, iq3, iq4, iq5, iq6, iq7, iq8, q0, q1, q2, q6, q7, q8, g2, w1, w2, w3]))))
        have hlen : (d ++ u).length = d.length + 2 * k := by simp only [List.length_append]; omega
        refine .go (n - (d ++ u).length) (by simp only [List.length_append]; omega) ⟨q0, q1, q2, q6, d ++ u, r, rfl, by rw [hlen]; rfl, by rw [hlen]; rfl, by rw [hlen]; omega, o1.snoc o6 (by omega), o2, o3.trans ?_, sgc h' (by simp only [List.append_assoc])⟩
        simpa [List.append_assoc] using (SE.refl d).app (o7.app (SE.refl r))
      · by_cases g3 : ((d.length + k : Nat) : Int) < n
        · obtain ⟨s, r, rfl, l2, o4, o2⟩ := o2.cut (by omega)
          simp only [List.length_append] at l1
          have o5 := o2.sorted (by omega)
          ((try simp only [S, TY, reduceCtorEq, nq0, nq1, nq2, nq3, nq4, iq0, iq1, iq2, iq3, iq4, iq5, iq6, iq7, iq8, q0, q1, q2, q6, q7, q8, g2, g3, w1, w2]); (try (simp (disch := omega) only [W2, Int.cast_ofNat_Int]; (try simp only [S, TY, reduceCtorEq, nq0, nq1, nq2, nq3, nq4, iq0, iq1, iq2, iq3, iq4, iq5, iq6, iq7, iq8, q0, q1, q2, q6, q7, q8, g2, g3, w1, w2]))))
          refine (sym_ok hk n (a := d.length) (m := d.length + k) (b := n) (p := d) (s := s) (t := r) (q := []) (by omega) rfl rfl (by omega) (by omega) (by omega) (by omega) (by omega) o4 o5).at_ (sgc h (l' := d ++ s ++ r ++ []) (by simp only [List.append_assoc, List.append_nil])) [0] _ rfl (fun v B H' hr h' => ?_)
          obtain ⟨u, o6, o7, rfl⟩ := hr
          have l5 := o7.len
          simp only [List.length_append] at l5
          ((try simp only [S, TY, reduceCtorEq, nq0, nq1, nq2, nq3, nq4, iq0, iq1, iq2, iq3, iq4, iq5, iq6, iq7, iq8, q0, q1, q2, q6, q7, q8, g2, g3, w1, w1', w2]); (try (simp (disch := omega) only [W2, Int.cast_ofNat_Int]; (try simp only [S, TY, reduceCtorEq, nq0, nq1, nq2, nq3, nq4, iq0, iq1, iq2, iq3, iq4, iq5, iq6, iq7, iq8, q0, q1, q2, q6, q7, q8, g2, g3, w1, w1', w2]))))
          refine .go (40000 - 2 * k) (by show 40000 - 2 * k < 40000 - k; omega) ⟨q0, q1, q2, 2 * k, d ++ u, rfl, by omega, rfl, by simp; omega, o1 u (.one o6 (by omega)), o3.trans ((SE.refl d).app o7), sgc h' (by simp only [List.append_assoc, List.append_nil])⟩
        · ((try simp only [S, TY, reduceCtorEq, nq0, nq1, nq2, nq3, nq4, iq0, iq1, iq2, iq3, iq4, iq5, iq6, iq7, iq8, q0, q1, q2, q6, q7, q8, g2, g3, w1, w1', w2]); (try (simp (disch := omega) only [W2, Int.cast_ofNat_Int]; (try simp only [S, TY, reduceCtorEq, nq0, nq1, nq2, nq3, nq4, iq0, iq1, iq2, iq3, iq4, iq5, iq6, iq7, iq8, q0, q1, q2, q6, q7, q8, g2, g3, w1, w1', w2]))))
          refine .go (40000 - 2 * k) (by show 40000 - 2 * k < 40000 - k; omega) ⟨q0, q1, q2, 2 * k, d ++ r, rfl, by omega, rfl, by simp; omega, o1 r (.one (o2.sorted (by omega)) (by omega)), o3, h⟩
    · ((try simp only [S, TY, reduceCtorEq, nq0, nq1, nq2, nq3, nq4, iq0, iq1, iq2, iq3, iq4, iq5, iq6, iq7, iq8, q0, q1, q2, q6, g1]); (try (simp (disch := omega) only [W2, Int.cast_ofNat_Int]; (try simp only [S, TY, reduceCtorEq, nq0, nq1, nq2, nq3, nq4, iq0, iq1, iq2, iq3, iq4, iq5, iq6, iq7, iq8, q0, q1, q2, q6, g1]))))
      exact fin_take (B := [_]) h ⟨x, o5.sorted (by omega), o6, rfl⟩
theorem sort_ok {G : Hp} {A : Option Addr} {n c : Nat} {l : List En} (hk : goes Try.prog 98 = true) (hl : l.length = n) (hn : n ≤ 10000) :
    Con Try.prog G 97 [.slice A n c, lessF] [ow A n c l] (fun r B => ∃ l', Srt kk l' ∧ SE kk l l' ∧ B = [ow A n c l']) := by
  refine Con.intro Try.func97 rfl (Nat.le_of_ble_eq_true (by kernel_rfl)) (by kernel_rfl) Try.results97 ?_
  intro H h
  ((try simp only [S, TY, reduceCtorEq, nq0, nq1, nq2, nq3, nq4, iq0, iq1, iq2, iq3, iq4, iq5, iq6, iq7, iq8]); (try (simp (disch := omega) only [W2, Int.cast_ofNat_Int]; (try simp only [S, TY, reduceCtorEq, nq0, nq1, nq2, nq3, nq4, iq0, iq1, iq2, iq3, iq4, iq5, iq6, iq7, iq8]))))
  refine (stable_ok hk hl hn).at_ h [0] _ rfl (fun r B H' hr h' => ?_)
  obtain ⟨l', o1, o2, rfl⟩ := hr
  ((try simp only [S, TY, reduceCtorEq, nq0, nq1, nq2, nq3, nq4, iq0, iq1, iq2, iq3, iq4, iq5, iq6, iq7, iq8]); (try (simp (disch := omega) only [W2, Int.cast_ofNat_Int]; (try simp only [S, TY, reduceCtorEq, nq0, nq1, nq2, nq3, nq4, iq0, iq1, iq2, iq3, iq4, iq5, iq6, iq7, iq8]))))
  exact fin_take (B := [_]) h' ⟨l', o1, o2, rfl⟩
end Go.Proofs.Ytanhmbdcdbcfmaa.SoS
