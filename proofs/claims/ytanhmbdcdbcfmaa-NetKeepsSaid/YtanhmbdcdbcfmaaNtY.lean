/- Nets: none is made: the law. -/
import Derived.Test.YtanhmbdcdbcfmaaNtA
set_option linter.unusedVariables false
set_option linter.unusedSimpArgs false
set_option maxRecDepth 10000
set_option maxHeartbeats 4000000
namespace Go.Proofs.Ytanhmbdcdbcfmaa.NtY
open Nat renaming reduceEqDiff → nq0, reduceAdd → nq1, reduceLeDiff → nq2, reduceBEq → nq3, reduceMul → nq4
open Int renaming reduceBEq → iq0, reduceEq → iq1, reduceLT → iq2, reduceLE → iq3, reduceAdd → iq4, reduceSub → iq5, reduceMul → iq6, reduceToNat → iq7, cast_ofNat_Int → iq8
open Go Go.Sl Go.Proofs Go.Proofs.Ytanhmbdcdbcfmaa.NtP Go.Proofs.Ytanhmbdcdbcfmaa.Nt Go.Proofs.Ytanhmbdcdbcfmaa.NtK Go.Proofs.Ytanhmbdcdbcfmaa.NtD Go.Proofs.Ytanhmbdcdbcfmaa.NtL Go.Proofs.Ytanhmbdcdbcfmaa.NtA
theorem TY : aggN Try.prog 3 = some none ∧
  aggN Try.prog 5 = some none ∧
  aggN Try.prog 30 = some none ∧
  aggN Try.prog 108 = some none ∧
  aggN Try.prog 138 = some none ∧
  aggN Try.prog 140 = some none ∧
  aggN Try.prog 144 = some none ∧
  aggN Try.prog 148 = some none ∧
  aggN Try.prog 150 = some (some 3) ∧
  aggN Try.prog 152 = some (some 3) ∧
  aggN Try.prog 160 = some (some 3) ∧
  apI Try.prog 138 = some (150, 3, 40) ∧
  apI Try.prog 144 = some (160, 3, 32) ∧
  apI Try.prog 148 = some (152, 3, 40) ∧
  bIs Try.prog 150 = true ∧
  bIs Try.prog 152 = true ∧
  bIs Try.prog 160 = true ∧
  csz Try.prog 3 = some 1 ∧
  csz Try.prog 5 = some 1 ∧
  csz Try.prog 30 = some 1 ∧
  csz Try.prog 108 = some 1 ∧
  csz Try.prog 138 = some 1 ∧
  csz Try.prog 140 = some 1 ∧
  csz Try.prog 144 = some 1 ∧
  csz Try.prog 148 = some 1 ∧
  csz Try.prog 150 = some 3 ∧
  csz Try.prog 152 = some 3 ∧
  csz Try.prog 160 = some 3 ∧
  eqF Try.prog 160 = some [.i, .i, .s] ∧
  fIs Try.prog 150 0 = true ∧
  fIs Try.prog 150 1 = true ∧
  fIs Try.prog 150 2 = true ∧
  fOff Try.prog 150 0 = 0 ∧
  fOff Try.prog 150 1 = 1 ∧
  fOff Try.prog 150 2 = 2 ∧
  fTy Try.prog 150 0 = 5 ∧
  fTy Try.prog 150 1 = 148 ∧
  fTy Try.prog 150 2 = 3 ∧
  goes Try.prog 70 = true ∧
  goes Try.prog 71 = true ∧
  goes Try.prog 72 = true ∧
  goes Try.prog 74 = true ∧
  goes Try.prog 75 = true ∧
  goes Try.prog 76 = true ∧
  goes Try.prog 77 = true ∧
  goes Try.prog 78 = true ∧
  goes Try.prog 80 = true ∧
  goes Try.prog 81 = true ∧
  goes Try.prog 82 = true ∧
  inIs Try.prog 3 = some .i64 ∧
  inIs Try.prog 5 = some .u8 ∧
  inIs Try.prog 30 = some .i64 ∧
  inIs Try.prog 108 = some .u16 ∧
  plcs Try.prog 150 = [(0, 1), (1, 1), (2, 1)] ∧
  plcs Try.prog 152 = [(0, 1), (1, 1), (2, 1)] ∧
  plcs Try.prog 160 = [(0, 1), (1, 1), (2, 1)] ∧
  ptIs Try.prog 140 = true ∧
  slEl Try.prog 138 = 150 ∧
  slEl Try.prog 144 = 160 ∧
  slEl Try.prog 148 = 152 ∧
  slIs Try.prog 138 = true ∧
  slIs Try.prog 144 = true ∧
  slIs Try.prog 148 = true ∧
  slSz Try.prog 138 = 3 ∧
  slSz Try.prog 144 = 3 ∧
  slSz Try.prog 148 = 3 ∧
  zcs Try.prog 150 = [.int .u8 0, .slice none 0 0, .int .i64 0] ∧
  zcs Try.prog 152 = [.int .i64 0, .int .i64 0, .slice none 0 0] ∧
  zcs Try.prog 160 = [.int .i64 0, .int .i64 0, .string ByteArray.empty] ∧
  zro Try.prog 3 = some (.int .i64 0) ∧
  zro Try.prog 5 = some (.int .u8 0) ∧
  zro Try.prog 30 = some (.int .i64 0) ∧
  zro Try.prog 108 = some (.int .u16 0) ∧
  zro Try.prog 138 = some (.slice none 0 0) ∧
  zro Try.prog 140 = some (.pointer none) ∧
  zro Try.prog 144 = some (.slice none 0 0) ∧
  zro Try.prog 148 = some (.slice none 0 0) ∧
  zro Try.prog 150 = some (.agg #[.int .u8 0, .slice none 0 0, .int .i64 0]) ∧
  zro Try.prog 152 = some (.agg #[.int .i64 0, .int .i64 0, .slice none 0 0]) ∧
  zro Try.prog 160 = some (.agg #[.int .i64 0, .int .i64 0, .string ByteArray.empty]) :=
  ⟨by kernel_rfl, by kernel_rfl, by kernel_rfl, by kernel_rfl, by kernel_rfl, by kernel_rfl, by kernel_rfl, by kernel_rfl, by kernel_rfl, by kernel_rfl, by kernel_rfl, by kernel_rfl, by kernel_rfl, by kernel_rfl, by kernel_rfl, by kernel_rfl, by kernel_rfl, by kernel_rfl, by kernel_rfl, by kernel_rfl, by kernel_rfl, by kernel_rfl, by kernel_rfl, by kernel_rfl, by kernel_rfl, by kernel_rfl, by kernel_rfl, by kernel_rfl, by kernel_rfl, by kernel_rfl, by kernel_rfl, by kernel_rfl, by kernel_rfl, by kernel_rfl, by kernel_rfl, by kernel_rfl, by kernel_rfl, by kernel_rfl, by kernel_rfl, by kernel_rfl, by kernel_rfl, by kernel_rfl, by kernel_rfl, by kernel_rfl, by kernel_rfl, by kernel_rfl, by kernel_rfl, by kernel_rfl, by kernel_rfl, by kernel_rfl, by kernel_rfl, by kernel_rfl, by kernel_rfl, by kernel_rfl, by kernel_rfl, by kernel_rfl, by kernel_rfl, by kernel_rfl, by kernel_rfl, by kernel_rfl, by kernel_rfl, by kernel_rfl, by kernel_rfl, by kernel_rfl, by kernel_rfl, by kernel_rfl, by kernel_rfl, by kernel_rfl, by kernel_rfl, by kernel_rfl, by kernel_rfl, by kernel_rfl, by kernel_rfl, by kernel_rfl, by kernel_rfl, by kernel_rfl, by kernel_rfl, by kernel_rfl, by kernel_rfl, by kernel_rfl⟩
def D12_53 : List Note := Go.Sl.nn [0, 0, 0, 1, 3, 0, 0, 0, 1, 0, 0]
theorem put1_facts (n : Nt) (x : It) : ((n.put1 x).1.l.length : Int) + (n.put1 x).1.lost = n.l.length + n.lost + 1 ∧ (n.put1 x).1.l.length = n.l.length + (if (n.put1 x).2 = true then 1 else 0) ∧ (n.put1 x).1.room = n.room ∧ n.l <+: (n.put1 x).1.l := by
  unfold Nt.put1
  split
  · refine ⟨?_, by simp, rfl, List.prefix_append _ _⟩
    simp only [List.length_append, List.length_cons, List.length_nil]
    omega
  · refine ⟨?_, by simp, rfl, List.prefix_rfl⟩
    show (n.l.length : Int) + (n.lost + 1) = _
    omega
theorem fold_facts : ∀ (l : List It) (a : Nt × Nat), (((l.foldl pstep a).1.l.length : Int) + (l.foldl pstep a).1.lost = a.1.l.length + a.1.lost + l.length) ∧ ((l.foldl pstep a).1.l.length + a.2 = a.1.l.length + (l.foldl pstep a).2) ∧ (l.foldl pstep a).1.room = a.1.room ∧ a.1.l <+: (l.foldl pstep a).1.l
  | [], a => ⟨by simp, by simp, rfl, List.prefix_rfl⟩
  | x :: l, a => by
    obtain ⟨h1, h2, h3, h4⟩ := fold_facts l (pstep a x)
    obtain ⟨k1, k2, k3, k4⟩ := put1_facts a.1 x
    rw [List.foldl_cons, List.length_cons]
    unfold pstep at h1 h2 h3 h4 ⊢
    simp only at h1 h2 h3 h4 ⊢
    refine ⟨by omega, ?_, by rw [h3, k3], k4.trans h4⟩
    split at k2
    · rename_i g; rw [if_pos g] at h2 ⊢; omega
    · rename_i g; rw [if_neg g] at h2 ⊢; omega
theorem puts_facts (n : Nt) (l : List It) : (((n.puts l).1.l.length : Int) + (n.puts l).1.lost = n.l.length + n.lost + l.length) ∧ ((n.puts l).1.l.length = n.l.length + (n.puts l).2) ∧ (n.puts l).1.room = n.room ∧ n.l <+: (n.puts l).1.l := by
  have := fold_facts l (n, 0)
  simpa [Nt.puts] using this
theorem drop_len {n : Nt} {i : Int} (h : n.has i) : (n.drop i).l.length + 1 = n.l.length ∧ (n.drop i).room = n.room ∧ (n.drop i).lost = n.lost := by
  unfold Nt.drop
  rw [if_pos h]
  have h1 := h.1
  have h2 := h.2
  have := List.length_eraseIdx_of_lt (l := n.l) (i := i.toNat) (by omega)
  exact ⟨by show (n.l.eraseIdx i.toNat).length + 1 = _; omega, rfl, rfl⟩
theorem dbl_len (n : Nt) (i : Int) : (n.dbl i).1.room = n.room ∧ (n.dbl i).1.lost = n.lost ∧ (n.dbl i).1.l.length = n.l.length + (if (n.dbl i).2 = 0 then 1 else 0) := by
  unfold Nt.dbl
  split
  · split
    · exact ⟨rfl, rfl, rfl⟩
    · exact ⟨rfl, rfl, by simp⟩
  · exact ⟨rfl, rfl, rfl⟩
/-- What is told of a net along the acts. -/
structure Inv (i : Nat) (size : Int) (put taken : Nat) (m : Nt) : Prop where
  w : m.wf (100 * i)
  r : m.room = size
  s : (m.l.length : Int) + taken + m.lost = put
  p : put ≤ 101 * i
  t : taken ≤ i
theorem keepsLaw {G : Hp} (rn : Nat) (hrn : rn < 65536) {v w : Value} {l : List AT.den} {ml : List (It × Value)} (hv : Acts G v l) (hw0 : rds G 3 w (ml.flatMap ic)) (hb0 : blobs (ml.map (·.2)) (ml.map (·.1.b)) G) :
    Con Try.prog G 12 [.int .u16 (rn : Nat), v, w] [] (fun r B => r = .bool true ∧ B = []) := by
  have hv0 := hv
  have hw1 := hw0
  obtain ⟨a, n, c, rfl, e1, e2⟩ := hv.shape (by decide)
  obtain ⟨wa, wn, wc, rfl, f1, _⟩ := hw0.slice
  rw [flat_len ic_len] at f1
  obtain rfl : wn = ml.length := by omega
  obtain ⟨sz, hsz⟩ : ∃ z : Nat, rn % 4097 = z := ⟨_, rfl⟩
  have gt : (rn : Int).tmod 4097 = (sz : Int) := by rw [← hsz]; rfl
  have hsz2 : sz ≤ 4096 := by omega
  have n4097 : ¬ (4097 : Int) = 0 := by decide
  refine Con.intro Try.func12 rfl (Nat.le_of_ble_eq_true (by kernel_rfl)) (by kernel_rfl) Try.results12 ?_
  intro H hH
  ((try simp only [S, TY, reduceCtorEq, nq0, nq1, nq2, nq3, nq4, iq0, iq1, iq2, iq3, iq4, iq5, iq6, iq7, iq8]); (try (simp (disch := omega) only [W2, Int.cast_ofNat_Int]; (try simp only [S, TY, reduceCtorEq, nq0, nq1, nq2, nq3, nq4, iq0, iq1, iq2, iq3, iq4, iq5, iq6, iq7, iq8]))); repeat ((first | (refine cl_drawi 53 D12_53 (List.range 11) (by decide) (by kernel_rfl) ?_; unfold D12_53)); simp only [S, TY, reduceCtorEq, nq0, nq1, nq2, nq3, nq4, iq0, iq1, iq2, iq3, iq4, iq5, iq6, iq7, iq8]; (try (simp (disch := omega) only [W2, Int.cast_ofNat_Int]; (try simp only [S, TY, reduceCtorEq, nq0, nq1, nq2, nq3, nq4, iq0, iq1, iq2, iq3, iq4, iq5, iq6, iq7, iq8])))))
  refine (fits hv0).at_ hH [] _ rfl fun r B H1 hr h1 => ?_
  obtain ⟨ok, rfl, rfl, hok⟩ := hr
  ((try simp only [S, TY, reduceCtorEq, nq0, nq1, nq2, nq3, nq4, iq0, iq1, iq2, iq3, iq4, iq5, iq6, iq7, iq8]); (try (simp (disch := omega) only [W2, Int.cast_ofNat_Int]; (try simp only [S, TY, reduceCtorEq, nq0, nq1, nq2, nq3, nq4, iq0, iq1, iq2, iq3, iq4, iq5, iq6, iq7, iq8]))); repeat ((first | (refine cl_drawi 53 D12_53 (List.range 11) (by decide) (by kernel_rfl) ?_; unfold D12_53)); simp only [S, TY, reduceCtorEq, nq0, nq1, nq2, nq3, nq4, iq0, iq1, iq2, iq3, iq4, iq5, iq6, iq7, iq8]; (try (simp (disch := omega) only [W2, Int.cast_ofNat_Int]; (try simp only [S, TY, reduceCtorEq, nq0, nq1, nq2, nq3, nq4, iq0, iq1, iq2, iq3, iq4, iq5, iq6, iq7, iq8])))))
  intro k2 hk2 hg2
  have h2 := h1.newsl (e := 150) (sz := 3) (n := 1) (xs := actl 0 (.slice wa ml.length wc) 0) hk2 hg2 rfl
  ((try simp only [S, TY, reduceCtorEq, nq0, nq1, nq2, nq3, nq4, iq0, iq1, iq2, iq3, iq4, iq5, iq6, iq7, iq8]); (try (simp (disch := omega) only [W2, Int.cast_ofNat_Int]; (try simp only [S, TY, reduceCtorEq, nq0, nq1, nq2, nq3, nq4, iq0, iq1, iq2, iq3, iq4, iq5, iq6, iq7, iq8]))); repeat ((first | (refine cl_drawi 53 D12_53 (List.range 11) (by decide) (by kernel_rfl) ?_; unfold D12_53)); simp only [S, TY, reduceCtorEq, nq0, nq1, nq2, nq3, nq4, iq0, iq1, iq2, iq3, iq4, iq5, iq6, iq7, iq8]; (try (simp (disch := omega) only [W2, Int.cast_ofNat_Int]; (try simp only [S, TY, reduceCtorEq, nq0, nq1, nq2, nq3, nq4, iq0, iq1, iq2, iq3, iq4, iq5, iq6, iq7, iq8])))))
  refine Con.lend_at [] [own 150 3 (.slice (some ⟨k2, 0, none⟩) 1 1) (actl 0 (.slice wa ml.length wc) 0)] h2 [0] rfl
    (fun F hF hs => fitsQ (len := fun _ : Unit => ml.length) (Q := fun cs _ => cs = actl 0 (.slice wa ml.length wc) 0) (l := [()])
      (fun cs x h => ⟨0, _, ml, 0, h, hw1.mono (un_le_r hF), hb0.mono (un_le_r hF), rfl⟩)
      ⟨[actl 0 (.slice wa ml.length wc) 0], (seps_own hs 0 rfl).left, rfl, by simp, fun i c x hc hx => by cases i with | zero => simpa using hc.symm | succ i => simp at hc⟩) fun r B H3 hr h3 => ?_
  obtain ⟨ok2, rfl, rfl, hok2⟩ := hr
  simp only [front_eq, fronts_nil, fronts_cons, List.getElem?_cons_zero, List.getElem?_cons_succ, List.eraseIdx_cons_zero, List.eraseIdx_cons_succ, List.cons_append, List.nil_append, putL_cons, putL_nil, List.set_cons_zero, List.set_cons_succ, Nat.reduceAdd] at h3
  ((try simp only [S, TY, reduceCtorEq, nq0, nq1, nq2, nq3, nq4, iq0, iq1, iq2, iq3, iq4, iq5, iq6, iq7, iq8, n4097, gt]); (try (simp (disch := omega) only [W2, Int.cast_ofNat_Int]; (try simp only [S, TY, reduceCtorEq, nq0, nq1, nq2, nq3, nq4, iq0, iq1, iq2, iq3, iq4, iq5, iq6, iq7, iq8, n4097, gt]))); repeat ((first | (refine cl_drawi 53 D12_53 (List.range 11) (by decide) (by kernel_rfl) ?_; unfold D12_53)); simp only [S, TY, reduceCtorEq, nq0, nq1, nq2, nq3, nq4, iq0, iq1, iq2, iq3, iq4, iq5, iq6, iq7, iq8, n4097, gt]; (try (simp (disch := omega) only [W2, Int.cast_ofNat_Int]; (try simp only [S, TY, reduceCtorEq, nq0, nq1, nq2, nq3, nq4, iq0, iq1, iq2, iq3, iq4, iq5, iq6, iq7, iq8, n4097, gt])))))
  refine (New_ok (sz : Int) (by omega)).at_ h3 [] _ rfl fun r B H4 hr h4 => ?_
  obtain ⟨p, rfl, rfl⟩ := hr
  simp only [front_eq, fronts_nil, fronts_cons, List.getElem?_cons_zero, List.getElem?_cons_succ, List.eraseIdx_cons_zero, List.eraseIdx_cons_succ, List.cons_append, List.nil_append, putL_cons, putL_nil, List.set_cons_zero, List.set_cons_succ, Nat.reduceAdd] at h4
  cases ok with
  | false =>
    ((try simp only [S, TY, reduceCtorEq, nq0, nq1, nq2, nq3, nq4, iq0, iq1, iq2, iq3, iq4, iq5, iq6, iq7, iq8]); (try (simp (disch := omega) only [W2, Int.cast_ofNat_Int]; (try simp only [S, TY, reduceCtorEq, nq0, nq1, nq2, nq3, nq4, iq0, iq1, iq2, iq3, iq4, iq5, iq6, iq7, iq8]))); repeat ((first | (refine cl_drawi 53 D12_53 (List.range 11) (by decide) (by kernel_rfl) ?_; unfold D12_53)); simp only [S, TY, reduceCtorEq, nq0, nq1, nq2, nq3, nq4, iq0, iq1, iq2, iq3, iq4, iq5, iq6, iq7, iq8]; (try (simp (disch := omega) only [W2, Int.cast_ofNat_Int]; (try simp only [S, TY, reduceCtorEq, nq0, nq1, nq2, nq3, nq4, iq0, iq1, iq2, iq3, iq4, iq5, iq6, iq7, iq8])))))
    refine alive.at_ h4 [] _ rfl fun r B H5 hr h5 => ?_
    obtain ⟨rfl, rfl⟩ := hr
    ((try simp only [S, TY, reduceCtorEq, nq0, nq1, nq2, nq3, nq4, iq0, iq1, iq2, iq3, iq4, iq5, iq6, iq7, iq8]); (try (simp (disch := omega) only [W2, Int.cast_ofNat_Int]; (try simp only [S, TY, reduceCtorEq, nq0, nq1, nq2, nq3, nq4, iq0, iq1, iq2, iq3, iq4, iq5, iq6, iq7, iq8]))); repeat ((first | (refine cl_drawi 53 D12_53 (List.range 11) (by decide) (by kernel_rfl) ?_; unfold D12_53)); simp only [S, TY, reduceCtorEq, nq0, nq1, nq2, nq3, nq4, iq0, iq1, iq2, iq3, iq4, iq5, iq6, iq7, iq8]; (try (simp (disch := omega) only [W2, Int.cast_ofNat_Int]; (try simp only [S, TY, reduceCtorEq, nq0, nq1, nq2, nq3, nq4, iq0, iq1, iq2, iq3, iq4, iq5, iq6, iq7, iq8])))))
    exact fin_take (B := []) h5 ⟨rfl, rfl⟩
  | true =>
  cases ok2 with
  | false =>
    ((try simp only [S, TY, reduceCtorEq, nq0, nq1, nq2, nq3, nq4, iq0, iq1, iq2, iq3, iq4, iq5, iq6, iq7, iq8]); (try (simp (disch := omega) only [W2, Int.cast_ofNat_Int]; (try simp only [S, TY, reduceCtorEq, nq0, nq1, nq2, nq3, nq4, iq0, iq1, iq2, iq3, iq4, iq5, iq6, iq7, iq8]))); repeat ((first | (refine cl_drawi 53 D12_53 (List.range 11) (by decide) (by kernel_rfl) ?_; unfold D12_53)); simp only [S, TY, reduceCtorEq, nq0, nq1, nq2, nq3, nq4, iq0, iq1, iq2, iq3, iq4, iq5, iq6, iq7, iq8]; (try (simp (disch := omega) only [W2, Int.cast_ofNat_Int]; (try simp only [S, TY, reduceCtorEq, nq0, nq1, nq2, nq3, nq4, iq0, iq1, iq2, iq3, iq4, iq5, iq6, iq7, iq8])))))
    refine alive.at_ h4 [] _ rfl fun r B H5 hr h5 => ?_
    obtain ⟨rfl, rfl⟩ := hr
    ((try simp only [S, TY, reduceCtorEq, nq0, nq1, nq2, nq3, nq4, iq0, iq1, iq2, iq3, iq4, iq5, iq6, iq7, iq8]); (try (simp (disch := omega) only [W2, Int.cast_ofNat_Int]; (try simp only [S, TY, reduceCtorEq, nq0, nq1, nq2, nq3, nq4, iq0, iq1, iq2, iq3, iq4, iq5, iq6, iq7, iq8]))); repeat ((first | (refine cl_drawi 53 D12_53 (List.range 11) (by decide) (by kernel_rfl) ?_; unfold D12_53)); simp only [S, TY, reduceCtorEq, nq0, nq1, nq2, nq3, nq4, iq0, iq1, iq2, iq3, iq4, iq5, iq6, iq7, iq8]; (try (simp (disch := omega) only [W2, Int.cast_ofNat_Int]; (try simp only [S, TY, reduceCtorEq, nq0, nq1, nq2, nq3, nq4, iq0, iq1, iq2, iq3, iq4, iq5, iq6, iq7, iq8])))))
    exact fin_take (B := []) h5 ⟨rfl, rfl⟩
  | true =>
  have hn := (hok rfl).1
  have hm := (hok rfl).2
  have hml := (hok2 rfl).2 () (by simp)
  ((try simp only [S, TY, reduceCtorEq, nq0, nq1, nq2, nq3, nq4, iq0, iq1, iq2, iq3, iq4, iq5, iq6, iq7, iq8]); (try (simp (disch := omega) only [W2, Int.cast_ofNat_Int]; (try simp only [S, TY, reduceCtorEq, nq0, nq1, nq2, nq3, nq4, iq0, iq1, iq2, iq3, iq4, iq5, iq6, iq7, iq8]))); repeat ((first | (refine cl_drawi 53 D12_53 (List.range 11) (by decide) (by kernel_rfl) ?_; unfold D12_53)); simp only [S, TY, reduceCtorEq, nq0, nq1, nq2, nq3, nq4, iq0, iq1, iq2, iq3, iq4, iq5, iq6, iq7, iq8]; (try (simp (disch := omega) only [W2, Int.cast_ofNat_Int]; (try simp only [S, TY, reduceCtorEq, nq0, nq1, nq2, nq3, nq4, iq0, iq1, iq2, iq3, iq4, iq5, iq6, iq7, iq8])))))
  refine cl_loop (fun i e H => i ≤ n ∧ e 1 = .slice a n c ∧ e 2 = .slice wa ml.length wc ∧ e 9 = .int .i64 (sz : Nat) ∧ e 10 = .pointer (some ⟨p, 0, none⟩) ∧ e 14 = .int .i64 (i : Nat) ∧ ∃ (put taken : Nat) (m : Nt), e 12 = .int .i64 (put : Nat) ∧ e 13 = .int .i64 (taken : Nat) ∧ Inv i sz put taken m ∧ sg G [nN p m] H) (fun i : Nat => n - i) 0
    ⟨by omega, rfl, rfl, rfl, rfl, rfl, 0, 0, ⟨[], sz, 0⟩, rfl, rfl, ⟨wf_new (by omega), rfl, by simp, by omega, by omega⟩, ⟨h4.1, seps_take (B := [_]) h4.2⟩⟩ ?_
  clear h1 h2 h3 h4
  rintro i e H ⟨qi, q1, q2, q9, q10, q14, put, taken, m, q12, q13, hI, h⟩
  by_cases g1 : (i : Int) < n
  · obtain ⟨b, off, cs, hl, rfl, hQ, _, hc, _⟩ := hv0.at (by decide) (i := i) (by omega)
    have hyl := hm _ (List.getElem_mem hl)
    obtain ⟨k, w', yl, at_, rfl, hr0, hb1, hy⟩ := act_l hQ
    obtain ⟨ya, yn, yc, rfl, f2, _⟩ := hr0.slice
    rw [flat_len ic_len] at f2
    obtain rfl : yn = yl.length := by omega
    have g0 : (0 : Int) ≤ i ∧ (i : Int) < n := ⟨by omega, g1⟩
    have dd0 := hc 0 (by decide)
    have dd1 := hc 1 (by decide)
    have dd2 := hc 2 (by decide)
    simp only [List.getElem?_cons_zero, List.getElem?_cons_succ, Nat.add_zero] at dd0 dd1 dd2
    have d0 := h.roc dd0
    have d1 := h.roc dd1
    have d2 := h.roc dd2
    have n9 : ¬ (9 : Int) = 0 := by decide
    by_cases g4 : k.tmod 9 = 4
    · ((try simp only [S, TY, reduceCtorEq, nq0, nq1, nq2, nq3, nq4, iq0, iq1, iq2, iq3, iq4, iq5, iq6, iq7, iq8, q1, q2, q9, q10, q12, q13, q14, g1, g0, d0, d1, d2, n9, g4]); (try (simp (disch := omega) only [W2, Int.cast_ofNat_Int]; (try simp only [S, TY, reduceCtorEq, nq0, nq1, nq2, nq3, nq4, iq0, iq1, iq2, iq3, iq4, iq5, iq6, iq7, iq8, q1, q2, q9, q10, q12, q13, q14, g1, g0, d0, d1, d2, n9, g4]))); repeat ((first | (refine cl_drawi 53 D12_53 (List.range 11) (by decide) (by kernel_rfl) ?_; unfold D12_53)); simp only [S, TY, reduceCtorEq, nq0, nq1, nq2, nq3, nq4, iq0, iq1, iq2, iq3, iq4, iq5, iq6, iq7, iq8, q1, q2, q9, q10, q12, q13, q14, g1, g0, d0, d1, d2, n9, g4]; (try (simp (disch := omega) only [W2, Int.cast_ofNat_Int]; (try simp only [S, TY, reduceCtorEq, nq0, nq1, nq2, nq3, nq4, iq0, iq1, iq2, iq3, iq4, iq5, iq6, iq7, iq8, q1, q2, q9, q10, q12, q13, q14, g1, g0, d0, d1, d2, n9, g4])))))
      refine (Take_ok hI.w at_).at_ h [0] _ rfl fun r B H2 hr h2 => ?_
      unfold TakeR at hr
      by_cases g : m.has at_
      · rw [if_pos g] at hr
        obtain ⟨u, rfl, rfl⟩ := hr
        obtain ⟨ua, un, uc, rfl, _, _⟩ := h2.sl 0 rfl Rd_own
        obtain ⟨z1, z2, z3⟩ := drop_len g
        have hw' := wf_drop hI.w at_
        obtain ⟨m', hm'⟩ : ∃ z, m.drop at_ = z := ⟨_, rfl⟩
        rw [hm'] at h2 z1 z2 z3 hw'
        have hI' : Inv (i + 1) sz put (taken + 1) m' := ⟨hw'.mono (by omega), by rw [z2]; exact hI.r, by have := hI.s; omega, by have := hI.p; omega, by have := hI.t; omega⟩
        simp only [front_eq, fronts_nil, fronts_cons, List.getElem?_cons_zero, List.getElem?_cons_succ, List.eraseIdx_cons_zero, List.eraseIdx_cons_succ, List.cons_append, List.nil_append, putL_cons, putL_nil, List.set_cons_zero, List.set_cons_succ, Nat.reduceAdd] at h2
        ((try simp only [S, TY, reduceCtorEq, nq0, nq1, nq2, nq3, nq4, iq0, iq1, iq2, iq3, iq4, iq5, iq6, iq7, iq8, q1, q2, q9, q10, q12, q13, q14]); (try (simp (disch := omega) only [W2, Int.cast_ofNat_Int]; (try simp only [S, TY, reduceCtorEq, nq0, nq1, nq2, nq3, nq4, iq0, iq1, iq2, iq3, iq4, iq5, iq6, iq7, iq8, q1, q2, q9, q10, q12, q13, q14]))); repeat ((first | (refine cl_drawi 53 D12_53 (List.range 11) (by decide) (by kernel_rfl) ?_; unfold D12_53)); simp only [S, TY, reduceCtorEq, nq0, nq1, nq2, nq3, nq4, iq0, iq1, iq2, iq3, iq4, iq5, iq6, iq7, iq8, q1, q2, q9, q10, q12, q13, q14]; (try (simp (disch := omega) only [W2, Int.cast_ofNat_Int]; (try simp only [S, TY, reduceCtorEq, nq0, nq1, nq2, nq3, nq4, iq0, iq1, iq2, iq3, iq4, iq5, iq6, iq7, iq8, q1, q2, q9, q10, q12, q13, q14])))))
        intro k3 hk3 hg3
        have h3 := h2.new hk3 hg3 (.cells (il 0 0 (.slice none 0 0)).toArray 152 (0, 0))
        ((try simp only [S, TY, reduceCtorEq, nq0, nq1, nq2, nq3, nq4, iq0, iq1, iq2, iq3, iq4, iq5, iq6, iq7, iq8, q1, q2, q9, q10, q12, q13, q14]); (try (simp (disch := omega) only [W2, Int.cast_ofNat_Int]; (try simp only [S, TY, reduceCtorEq, nq0, nq1, nq2, nq3, nq4, iq0, iq1, iq2, iq3, iq4, iq5, iq6, iq7, iq8, q1, q2, q9, q10, q12, q13, q14]))); repeat ((first | (refine cl_drawi 53 D12_53 (List.range 11) (by decide) (by kernel_rfl) ?_; unfold D12_53)); simp only [S, TY, reduceCtorEq, nq0, nq1, nq2, nq3, nq4, iq0, iq1, iq2, iq3, iq4, iq5, iq6, iq7, iq8, q1, q2, q9, q10, q12, q13, q14]; (try (simp (disch := omega) only [W2, Int.cast_ofNat_Int]; (try simp only [S, TY, reduceCtorEq, nq0, nq1, nq2, nq3, nq4, iq0, iq1, iq2, iq3, iq4, iq5, iq6, iq7, iq8, q1, q2, q9, q10, q12, q13, q14])))))
        refine sg.st h3 rfl rfl fun H4 h4 => ?_
        simp only [front_eq, fronts_nil, fronts_cons, List.getElem?_cons_zero, List.getElem?_cons_succ, List.eraseIdx_cons_zero, List.eraseIdx_cons_succ, List.cons_append, List.nil_append, putL_cons, putL_nil, List.set_cons_zero, List.set_cons_succ, Nat.reduceAdd] at h4
        have k5' := hI.t
        ((try simp only [S, TY, reduceCtorEq, nq0, nq1, nq2, nq3, nq4, iq0, iq1, iq2, iq3, iq4, iq5, iq6, iq7, iq8, q1, q2, q9, q10, q12, q13, q14]); (try (simp (disch := omega) only [W2, Int.cast_ofNat_Int]; (try simp only [S, TY, reduceCtorEq, nq0, nq1, nq2, nq3, nq4, iq0, iq1, iq2, iq3, iq4, iq5, iq6, iq7, iq8, q1, q2, q9, q10, q12, q13, q14]))); repeat ((first | (refine cl_drawi 53 D12_53 (List.range 11) (by decide) (by kernel_rfl) ?_; unfold D12_53)); simp only [S, TY, reduceCtorEq, nq0, nq1, nq2, nq3, nq4, iq0, iq1, iq2, iq3, iq4, iq5, iq6, iq7, iq8, q1, q2, q9, q10, q12, q13, q14]; (try (simp (disch := omega) only [W2, Int.cast_ofNat_Int]; (try simp only [S, TY, reduceCtorEq, nq0, nq1, nq2, nq3, nq4, iq0, iq1, iq2, iq3, iq4, iq5, iq6, iq7, iq8, q1, q2, q9, q10, q12, q13, q14])))))
        refine Len_ok.at_ h4 [2] _ rfl fun r B H11 hr h11 => ?_
        obtain ⟨rfl, rfl⟩ := hr
        simp only [front_eq, fronts_nil, fronts_cons, List.getElem?_cons_zero, List.getElem?_cons_succ, List.eraseIdx_cons_zero, List.eraseIdx_cons_succ, List.cons_append, List.nil_append, putL_cons, putL_nil, List.set_cons_zero, List.set_cons_succ, Nat.reduceAdd] at h11
        have k1 : ¬ ((m'.l.length : Nat) : Int) < 0 := by omega
        have k2 : ¬ (sz : Int) < ((m'.l.length : Nat) : Int) := by have := hI'.w.l; have := hI'.r; omega
        have k3 : ((m'.l.length : Nat) : Int) + ((taken : Int) + 1) + m'.lost = (put : Int) := by have := hI'.s; omega
        have k4 := hI'.p
        have k5 := hI'.t
        have k6 := hI'.w.t
        have k7 := hI'.w.l
        have k8 := hI'.w.r
        have gi : IntKind.i64.wrap ((i : Int) + 1) = (i : Int) + 1 := by rw [wrap_id] <;> omega
        ((try simp only [S, TY, reduceCtorEq, nq0, nq1, nq2, nq3, nq4, iq0, iq1, iq2, iq3, iq4, iq5, iq6, iq7, iq8, q1, q9, q10, q14, q12, q13, k1]); (try (simp (disch := omega) only [W2, Int.cast_ofNat_Int]; (try simp only [S, TY, reduceCtorEq, nq0, nq1, nq2, nq3, nq4, iq0, iq1, iq2, iq3, iq4, iq5, iq6, iq7, iq8, q1, q9, q10, q14, q12, q13, k1]))); repeat ((first | (refine cl_drawi 53 D12_53 (List.range 11) (by decide) (by kernel_rfl) ?_; unfold D12_53)); simp only [S, TY, reduceCtorEq, nq0, nq1, nq2, nq3, nq4, iq0, iq1, iq2, iq3, iq4, iq5, iq6, iq7, iq8, q1, q9, q10, q14, q12, q13, k1]; (try (simp (disch := omega) only [W2, Int.cast_ofNat_Int]; (try simp only [S, TY, reduceCtorEq, nq0, nq1, nq2, nq3, nq4, iq0, iq1, iq2, iq3, iq4, iq5, iq6, iq7, iq8, q1, q9, q10, q14, q12, q13, k1])))))
        refine Len_ok.at_ h11 [0] _ rfl fun r B H12 hr h12 => ?_
        obtain ⟨rfl, rfl⟩ := hr
        simp only [front_eq, fronts_nil, fronts_cons, List.getElem?_cons_zero, List.getElem?_cons_succ, List.eraseIdx_cons_zero, List.eraseIdx_cons_succ, List.cons_append, List.nil_append, putL_cons, putL_nil, List.set_cons_zero, List.set_cons_succ, Nat.reduceAdd] at h12
        ((try simp only [S, TY, reduceCtorEq, nq0, nq1, nq2, nq3, nq4, iq0, iq1, iq2, iq3, iq4, iq5, iq6, iq7, iq8, q1, q9, q10, q14, q12, q13, k1, k2]); (try (simp (disch := omega) only [W2, Int.cast_ofNat_Int]; (try simp only [S, TY, reduceCtorEq, nq0, nq1, nq2, nq3, nq4, iq0, iq1, iq2, iq3, iq4, iq5, iq6, iq7, iq8, q1, q9, q10, q14, q12, q13, k1, k2]))); repeat ((first | (refine cl_drawi 53 D12_53 (List.range 11) (by decide) (by kernel_rfl) ?_; unfold D12_53)); simp only [S, TY, reduceCtorEq, nq0, nq1, nq2, nq3, nq4, iq0, iq1, iq2, iq3, iq4, iq5, iq6, iq7, iq8, q1, q9, q10, q14, q12, q13, k1, k2]; (try (simp (disch := omega) only [W2, Int.cast_ofNat_Int]; (try simp only [S, TY, reduceCtorEq, nq0, nq1, nq2, nq3, nq4, iq0, iq1, iq2, iq3, iq4, iq5, iq6, iq7, iq8, q1, q9, q10, q14, q12, q13, k1, k2])))))
        refine Len_ok.at_ h12 [0] _ rfl fun r B H13 hr h13 => ?_
        obtain ⟨rfl, rfl⟩ := hr
        simp only [front_eq, fronts_nil, fronts_cons, List.getElem?_cons_zero, List.getElem?_cons_succ, List.eraseIdx_cons_zero, List.eraseIdx_cons_succ, List.cons_append, List.nil_append, putL_cons, putL_nil, List.set_cons_zero, List.set_cons_succ, Nat.reduceAdd] at h13
        ((try simp only [S, TY, reduceCtorEq, nq0, nq1, nq2, nq3, nq4, iq0, iq1, iq2, iq3, iq4, iq5, iq6, iq7, iq8, q1, q9, q10, q14, q12, q13, k1, k2]); (try (simp (disch := omega) only [W2, Int.cast_ofNat_Int]; (try simp only [S, TY, reduceCtorEq, nq0, nq1, nq2, nq3, nq4, iq0, iq1, iq2, iq3, iq4, iq5, iq6, iq7, iq8, q1, q9, q10, q14, q12, q13, k1, k2]))); repeat ((first | (refine cl_drawi 53 D12_53 (List.range 11) (by decide) (by kernel_rfl) ?_; unfold D12_53)); simp only [S, TY, reduceCtorEq, nq0, nq1, nq2, nq3, nq4, iq0, iq1, iq2, iq3, iq4, iq5, iq6, iq7, iq8, q1, q9, q10, q14, q12, q13, k1, k2]; (try (simp (disch := omega) only [W2, Int.cast_ofNat_Int]; (try simp only [S, TY, reduceCtorEq, nq0, nq1, nq2, nq3, nq4, iq0, iq1, iq2, iq3, iq4, iq5, iq6, iq7, iq8, q1, q9, q10, q14, q12, q13, k1, k2])))))
        refine Lost_ok.at_ h13 [0] _ rfl fun r B H14 hr h14 => ?_
        obtain ⟨rfl, rfl⟩ := hr
        simp only [front_eq, fronts_nil, fronts_cons, List.getElem?_cons_zero, List.getElem?_cons_succ, List.eraseIdx_cons_zero, List.eraseIdx_cons_succ, List.cons_append, List.nil_append, putL_cons, putL_nil, List.set_cons_zero, List.set_cons_succ, Nat.reduceAdd] at h14
        ((try simp only [S, TY, reduceCtorEq, nq0, nq1, nq2, nq3, nq4, iq0, iq1, iq2, iq3, iq4, iq5, iq6, iq7, iq8, q1, q9, q10, q14, q12, q13, k1, k2, k3, gi]); (try (simp (disch := omega) only [W2, Int.cast_ofNat_Int]; (try simp only [S, TY, reduceCtorEq, nq0, nq1, nq2, nq3, nq4, iq0, iq1, iq2, iq3, iq4, iq5, iq6, iq7, iq8, q1, q9, q10, q14, q12, q13, k1, k2, k3, gi]))); repeat ((first | (refine cl_drawi 53 D12_53 (List.range 11) (by decide) (by kernel_rfl) ?_; unfold D12_53)); simp only [S, TY, reduceCtorEq, nq0, nq1, nq2, nq3, nq4, iq0, iq1, iq2, iq3, iq4, iq5, iq6, iq7, iq8, q1, q9, q10, q14, q12, q13, k1, k2, k3, gi]; (try (simp (disch := omega) only [W2, Int.cast_ofNat_Int]; (try simp only [S, TY, reduceCtorEq, nq0, nq1, nq2, nq3, nq4, iq0, iq1, iq2, iq3, iq4, iq5, iq6, iq7, iq8, q1, q9, q10, q14, q12, q13, k1, k2, k3, gi])))))
        refine .go (i + 1) (by omega) ⟨by omega, q1, q2, q9, q10, rfl, put, taken + 1, m', q12, rfl, hI', ⟨h14.1, seps_take (B := [_]) h14.2⟩⟩
      · rw [if_neg g] at hr
        obtain ⟨rfl, rfl⟩ := hr
        obtain ⟨m', rfl⟩ : ∃ z, z = m := ⟨_, rfl⟩
        have hI' : Inv (i + 1) sz put taken m' := ⟨hI.w.mono (by omega), hI.r, hI.s, by have := hI.p; omega, by have := hI.t; omega⟩
        simp only [front_eq, fronts_nil, fronts_cons, List.getElem?_cons_zero, List.getElem?_cons_succ, List.eraseIdx_cons_zero, List.eraseIdx_cons_succ, List.cons_append, List.nil_append, putL_cons, putL_nil, List.set_cons_zero, List.set_cons_succ, Nat.reduceAdd] at h2
        ((try simp only [S, TY, reduceCtorEq, nq0, nq1, nq2, nq3, nq4, iq0, iq1, iq2, iq3, iq4, iq5, iq6, iq7, iq8, q1, q2, q9, q10, q12, q13, q14]); (try (simp (disch := omega) only [W2, Int.cast_ofNat_Int]; (try simp only [S, TY, reduceCtorEq, nq0, nq1, nq2, nq3, nq4, iq0, iq1, iq2, iq3, iq4, iq5, iq6, iq7, iq8, q1, q2, q9, q10, q12, q13, q14]))); repeat ((first | (refine cl_drawi 53 D12_53 (List.range 11) (by decide) (by kernel_rfl) ?_; unfold D12_53)); simp only [S, TY, reduceCtorEq, nq0, nq1, nq2, nq3, nq4, iq0, iq1, iq2, iq3, iq4, iq5, iq6, iq7, iq8, q1, q2, q9, q10, q12, q13, q14]; (try (simp (disch := omega) only [W2, Int.cast_ofNat_Int]; (try simp only [S, TY, reduceCtorEq, nq0, nq1, nq2, nq3, nq4, iq0, iq1, iq2, iq3, iq4, iq5, iq6, iq7, iq8, q1, q2, q9, q10, q12, q13, q14])))))
        intro k3 hk3 hg3
        have h3 := h2.new hk3 hg3 (.cells (il 0 0 (.slice none 0 0)).toArray 152 (0, 0))
        ((try simp only [S, TY, reduceCtorEq, nq0, nq1, nq2, nq3, nq4, iq0, iq1, iq2, iq3, iq4, iq5, iq6, iq7, iq8, q1, q2, q9, q10, q12, q13, q14]); (try (simp (disch := omega) only [W2, Int.cast_ofNat_Int]; (try simp only [S, TY, reduceCtorEq, nq0, nq1, nq2, nq3, nq4, iq0, iq1, iq2, iq3, iq4, iq5, iq6, iq7, iq8, q1, q2, q9, q10, q12, q13, q14]))); repeat ((first | (refine cl_drawi 53 D12_53 (List.range 11) (by decide) (by kernel_rfl) ?_; unfold D12_53)); simp only [S, TY, reduceCtorEq, nq0, nq1, nq2, nq3, nq4, iq0, iq1, iq2, iq3, iq4, iq5, iq6, iq7, iq8, q1, q2, q9, q10, q12, q13, q14]; (try (simp (disch := omega) only [W2, Int.cast_ofNat_Int]; (try simp only [S, TY, reduceCtorEq, nq0, nq1, nq2, nq3, nq4, iq0, iq1, iq2, iq3, iq4, iq5, iq6, iq7, iq8, q1, q2, q9, q10, q12, q13, q14])))))
        refine sg.st h3 rfl rfl fun H4 h4 => ?_
        simp only [front_eq, fronts_nil, fronts_cons, List.getElem?_cons_zero, List.getElem?_cons_succ, List.eraseIdx_cons_zero, List.eraseIdx_cons_succ, List.cons_append, List.nil_append, putL_cons, putL_nil, List.set_cons_zero, List.set_cons_succ, Nat.reduceAdd] at h4
        ((try simp only [S, TY, reduceCtorEq, nq0, nq1, nq2, nq3, nq4, iq0, iq1, iq2, iq3, iq4, iq5, iq6, iq7, iq8, q1, q2, q9, q10, q12, q13, q14]); (try (simp (disch := omega) only [W2, Int.cast_ofNat_Int]; (try simp only [S, TY, reduceCtorEq, nq0, nq1, nq2, nq3, nq4, iq0, iq1, iq2, iq3, iq4, iq5, iq6, iq7, iq8, q1, q2, q9, q10, q12, q13, q14]))); repeat ((first | (refine cl_drawi 53 D12_53 (List.range 11) (by decide) (by kernel_rfl) ?_; unfold D12_53)); simp only [S, TY, reduceCtorEq, nq0, nq1, nq2, nq3, nq4, iq0, iq1, iq2, iq3, iq4, iq5, iq6, iq7, iq8, q1, q2, q9, q10, q12, q13, q14]; (try (simp (disch := omega) only [W2, Int.cast_ofNat_Int]; (try simp only [S, TY, reduceCtorEq, nq0, nq1, nq2, nq3, nq4, iq0, iq1, iq2, iq3, iq4, iq5, iq6, iq7, iq8, q1, q2, q9, q10, q12, q13, q14])))))
        refine Len_ok.at_ h4 [1] _ rfl fun r B H11 hr h11 => ?_
        obtain ⟨rfl, rfl⟩ := hr
        simp only [front_eq, fronts_nil, fronts_cons, List.getElem?_cons_zero, List.getElem?_cons_succ, List.eraseIdx_cons_zero, List.eraseIdx_cons_succ, List.cons_append, List.nil_append, putL_cons, putL_nil, List.set_cons_zero, List.set_cons_succ, Nat.reduceAdd] at h11
        have k1 : ¬ ((m'.l.length : Nat) : Int) < 0 := by omega
        have k2 : ¬ (sz : Int) < ((m'.l.length : Nat) : Int) := by have := hI'.w.l; have := hI'.r; omega
        have k3 : ((m'.l.length : Nat) : Int) + ((taken : Int)) + m'.lost = (put : Int) := by have := hI'.s; omega
        have k4 := hI'.p
        have k5 := hI'.t
        have k6 := hI'.w.t
        have k7 := hI'.w.l
        have k8 := hI'.w.r
        have gi : IntKind.i64.wrap ((i : Int) + 1) = (i : Int) + 1 := by rw [wrap_id] <;> omega
        ((try simp only [S, TY, reduceCtorEq, nq0, nq1, nq2, nq3, nq4, iq0, iq1, iq2, iq3, iq4, iq5, iq6, iq7, iq8, q1, q9, q10, q14, q12, q13, k1]); (try (simp (disch := omega) only [W2, Int.cast_ofNat_Int]; (try simp only [S, TY, reduceCtorEq, nq0, nq1, nq2, nq3, nq4, iq0, iq1, iq2, iq3, iq4, iq5, iq6, iq7, iq8, q1, q9, q10, q14, q12, q13, k1]))); repeat ((first | (refine cl_drawi 53 D12_53 (List.range 11) (by decide) (by kernel_rfl) ?_; unfold D12_53)); simp only [S, TY, reduceCtorEq, nq0, nq1, nq2, nq3, nq4, iq0, iq1, iq2, iq3, iq4, iq5, iq6, iq7, iq8, q1, q9, q10, q14, q12, q13, k1]; (try (simp (disch := omega) only [W2, Int.cast_ofNat_Int]; (try simp only [S, TY, reduceCtorEq, nq0, nq1, nq2, nq3, nq4, iq0, iq1, iq2, iq3, iq4, iq5, iq6, iq7, iq8, q1, q9, q10, q14, q12, q13, k1])))))
        refine Len_ok.at_ h11 [0] _ rfl fun r B H12 hr h12 => ?_
        obtain ⟨rfl, rfl⟩ := hr
        simp only [front_eq, fronts_nil, fronts_cons, List.getElem?_cons_zero, List.getElem?_cons_succ, List.eraseIdx_cons_zero, List.eraseIdx_cons_succ, List.cons_append, List.nil_append, putL_cons, putL_nil, List.set_cons_zero, List.set_cons_succ, Nat.reduceAdd] at h12
        ((try simp only [S, TY, reduceCtorEq, nq0, nq1, nq2, nq3, nq4, iq0, iq1, iq2, iq3, iq4, iq5, iq6, iq7, iq8, q1, q9, q10, q14, q12, q13, k1, k2]); (try (simp (disch := omega) only [W2, Int.cast_ofNat_Int]; (try simp only [S, TY, reduceCtorEq, nq0, nq1, nq2, nq3, nq4, iq0, iq1, iq2, iq3, iq4, iq5, iq6, iq7, iq8, q1, q9, q10, q14, q12, q13, k1, k2]))); repeat ((first | (refine cl_drawi 53 D12_53 (List.range 11) (by decide) (by kernel_rfl) ?_; unfold D12_53)); simp only [S, TY, reduceCtorEq, nq0, nq1, nq2, nq3, nq4, iq0, iq1, iq2, iq3, iq4, iq5, iq6, iq7, iq8, q1, q9, q10, q14, q12, q13, k1, k2]; (try (simp (disch := omega) only [W2, Int.cast_ofNat_Int]; (try simp only [S, TY, reduceCtorEq, nq0, nq1, nq2, nq3, nq4, iq0, iq1, iq2, iq3, iq4, iq5, iq6, iq7, iq8, q1, q9, q10, q14, q12, q13, k1, k2])))))
        refine Len_ok.at_ h12 [0] _ rfl fun r B H13 hr h13 => ?_
        obtain ⟨rfl, rfl⟩ := hr
        simp only [front_eq, fronts_nil, fronts_cons, List.getElem?_cons_zero, List.getElem?_cons_succ, List.eraseIdx_cons_zero, List.eraseIdx_cons_succ, List.cons_append, List.nil_append, putL_cons, putL_nil, List.set_cons_zero, List.set_cons_succ, Nat.reduceAdd] at h13
        ((try simp only [S, TY, reduceCtorEq, nq0, nq1, nq2, nq3, nq4, iq0, iq1, iq2, iq3, iq4, iq5, iq6, iq7, iq8, q1, q9, q10, q14, q12, q13, k1, k2]); (try (simp (disch := omega) only [W2, Int.cast_ofNat_Int]; (try simp only [S, TY, reduceCtorEq, nq0, nq1, nq2, nq3, nq4, iq0, iq1, iq2, iq3, iq4, iq5, iq6, iq7, iq8, q1, q9, q10, q14, q12, q13, k1, k2]))); repeat ((first | (refine cl_drawi 53 D12_53 (List.range 11) (by decide) (by kernel_rfl) ?_; unfold D12_53)); simp only [S, TY, reduceCtorEq, nq0, nq1, nq2, nq3, nq4, iq0, iq1, iq2, iq3, iq4, iq5, iq6, iq7, iq8, q1, q9, q10, q14, q12, q13, k1, k2]; (try (simp (disch := omega) only [W2, Int.cast_ofNat_Int]; (try simp only [S, TY, reduceCtorEq, nq0, nq1, nq2, nq3, nq4, iq0, iq1, iq2, iq3, iq4, iq5, iq6, iq7, iq8, q1, q9, q10, q14, q12, q13, k1, k2])))))
        refine Lost_ok.at_ h13 [0] _ rfl fun r B H14 hr h14 => ?_
        obtain ⟨rfl, rfl⟩ := hr
        simp only [front_eq, fronts_nil, fronts_cons, List.getElem?_cons_zero, List.getElem?_cons_succ, List.eraseIdx_cons_zero, List.eraseIdx_cons_succ, List.cons_append, List.nil_append, putL_cons, putL_nil, List.set_cons_zero, List.set_cons_succ, Nat.reduceAdd] at h14
        ((try simp only [S, TY, reduceCtorEq, nq0, nq1, nq2, nq3, nq4, iq0, iq1, iq2, iq3, iq4, iq5, iq6, iq7, iq8, q1, q9, q10, q14, q12, q13, k1, k2, k3, gi]); (try (simp (disch := omega) only [W2, Int.cast_ofNat_Int]; (try simp only [S, TY, reduceCtorEq, nq0, nq1, nq2, nq3, nq4, iq0, iq1, iq2, iq3, iq4, iq5, iq6, iq7, iq8, q1, q9, q10, q14, q12, q13, k1, k2, k3, gi]))); repeat ((first | (refine cl_drawi 53 D12_53 (List.range 11) (by decide) (by kernel_rfl) ?_; unfold D12_53)); simp only [S, TY, reduceCtorEq, nq0, nq1, nq2, nq3, nq4, iq0, iq1, iq2, iq3, iq4, iq5, iq6, iq7, iq8, q1, q9, q10, q14, q12, q13, k1, k2, k3, gi]; (try (simp (disch := omega) only [W2, Int.cast_ofNat_Int]; (try simp only [S, TY, reduceCtorEq, nq0, nq1, nq2, nq3, nq4, iq0, iq1, iq2, iq3, iq4, iq5, iq6, iq7, iq8, q1, q9, q10, q14, q12, q13, k1, k2, k3, gi])))))
        refine .go (i + 1) (by omega) ⟨by omega, q1, q2, q9, q10, rfl, put, taken, m', q12, q13, hI', ⟨h14.1, seps_take (B := [_]) h14.2⟩⟩
    · by_cases g5 : k.tmod 9 = 5
      · ((try simp only [S, TY, reduceCtorEq, nq0, nq1, nq2, nq3, nq4, iq0, iq1, iq2, iq3, iq4, iq5, iq6, iq7, iq8, q1, q2, q9, q10, q12, q13, q14, g1, g0, d0, d1, d2, n9, g4, g5]); (try (simp (disch := omega) only [W2, Int.cast_ofNat_Int]; (try simp only [S, TY, reduceCtorEq, nq0, nq1, nq2, nq3, nq4, iq0, iq1, iq2, iq3, iq4, iq5, iq6, iq7, iq8, q1, q2, q9, q10, q12, q13, q14, g1, g0, d0, d1, d2, n9, g4, g5]))); repeat ((first | (refine cl_drawi 53 D12_53 (List.range 11) (by decide) (by kernel_rfl) ?_; unfold D12_53)); simp only [S, TY, reduceCtorEq, nq0, nq1, nq2, nq3, nq4, iq0, iq1, iq2, iq3, iq4, iq5, iq6, iq7, iq8, q1, q2, q9, q10, q12, q13, q14, g1, g0, d0, d1, d2, n9, g4, g5]; (try (simp (disch := omega) only [W2, Int.cast_ofNat_Int]; (try simp only [S, TY, reduceCtorEq, nq0, nq1, nq2, nq3, nq4, iq0, iq1, iq2, iq3, iq4, iq5, iq6, iq7, iq8, q1, q2, q9, q10, q12, q13, q14, g1, g0, d0, d1, d2, n9, g4, g5])))))
        refine (Take_ok hI.w at_).at_ h [0] _ rfl fun r B H2 hr h2 => ?_
        unfold TakeR at hr
        by_cases g : m.has at_
        · rw [if_pos g] at hr
          obtain ⟨u, rfl, rfl⟩ := hr
          obtain ⟨ua, un, uc, rfl, _, _⟩ := h2.sl 0 rfl Rd_own
          obtain ⟨z1, z2, z3⟩ := drop_len g
          have hw' := wf_drop hI.w at_
          obtain ⟨m', hm'⟩ : ∃ z, m.drop at_ = z := ⟨_, rfl⟩
          rw [hm'] at h2 z1 z2 z3 hw'
          have hI' : Inv (i + 1) sz put (taken + 1) m' := ⟨hw'.mono (by omega), by rw [z2]; exact hI.r, by have := hI.s; omega, by have := hI.p; omega, by have := hI.t; omega⟩
          simp only [front_eq, fronts_nil, fronts_cons, List.getElem?_cons_zero, List.getElem?_cons_succ, List.eraseIdx_cons_zero, List.eraseIdx_cons_succ, List.cons_append, List.nil_append, putL_cons, putL_nil, List.set_cons_zero, List.set_cons_succ, Nat.reduceAdd] at h2
          ((try simp only [S, TY, reduceCtorEq, nq0, nq1, nq2, nq3, nq4, iq0, iq1, iq2, iq3, iq4, iq5, iq6, iq7, iq8, q1, q2, q9, q10, q12, q13, q14]); (try (simp (disch := omega) only [W2, Int.cast_ofNat_Int]; (try simp only [S, TY, reduceCtorEq, nq0, nq1, nq2, nq3, nq4, iq0, iq1, iq2, iq3, iq4, iq5, iq6, iq7, iq8, q1, q2, q9, q10, q12, q13, q14]))); repeat ((first | (refine cl_drawi 53 D12_53 (List.range 11) (by decide) (by kernel_rfl) ?_; unfold D12_53)); simp only [S, TY, reduceCtorEq, nq0, nq1, nq2, nq3, nq4, iq0, iq1, iq2, iq3, iq4, iq5, iq6, iq7, iq8, q1, q2, q9, q10, q12, q13, q14]; (try (simp (disch := omega) only [W2, Int.cast_ofNat_Int]; (try simp only [S, TY, reduceCtorEq, nq0, nq1, nq2, nq3, nq4, iq0, iq1, iq2, iq3, iq4, iq5, iq6, iq7, iq8, q1, q2, q9, q10, q12, q13, q14])))))
          intro k3 hk3 hg3
          have h3 := h2.new hk3 hg3 (.cells (il 0 0 (.slice none 0 0)).toArray 152 (0, 0))
          ((try simp only [S, TY, reduceCtorEq, nq0, nq1, nq2, nq3, nq4, iq0, iq1, iq2, iq3, iq4, iq5, iq6, iq7, iq8, q1, q2, q9, q10, q12, q13, q14]); (try (simp (disch := omega) only [W2, Int.cast_ofNat_Int]; (try simp only [S, TY, reduceCtorEq, nq0, nq1, nq2, nq3, nq4, iq0, iq1, iq2, iq3, iq4, iq5, iq6, iq7, iq8, q1, q2, q9, q10, q12, q13, q14]))); repeat ((first | (refine cl_drawi 53 D12_53 (List.range 11) (by decide) (by kernel_rfl) ?_; unfold D12_53)); simp only [S, TY, reduceCtorEq, nq0, nq1, nq2, nq3, nq4, iq0, iq1, iq2, iq3, iq4, iq5, iq6, iq7, iq8, q1, q2, q9, q10, q12, q13, q14]; (try (simp (disch := omega) only [W2, Int.cast_ofNat_Int]; (try simp only [S, TY, reduceCtorEq, nq0, nq1, nq2, nq3, nq4, iq0, iq1, iq2, iq3, iq4, iq5, iq6, iq7, iq8, q1, q2, q9, q10, q12, q13, q14])))))
          refine sg.st h3 rfl rfl fun H4 h4 => ?_
          simp only [front_eq, fronts_nil, fronts_cons, List.getElem?_cons_zero, List.getElem?_cons_succ, List.eraseIdx_cons_zero, List.eraseIdx_cons_succ, List.cons_append, List.nil_append, putL_cons, putL_nil, List.set_cons_zero, List.set_cons_succ, Nat.reduceAdd] at h4
          have k5' := hI.t
          ((try simp only [S, TY, reduceCtorEq, nq0, nq1, nq2, nq3, nq4, iq0, iq1, iq2, iq3, iq4, iq5, iq6, iq7, iq8, q1, q2, q9, q10, q12, q13, q14]); (try (simp (disch := omega) only [W2, Int.cast_ofNat_Int]; (try simp only [S, TY, reduceCtorEq, nq0, nq1, nq2, nq3, nq4, iq0, iq1, iq2, iq3, iq4, iq5, iq6, iq7, iq8, q1, q2, q9, q10, q12, q13, q14]))); repeat ((first | (refine cl_drawi 53 D12_53 (List.range 11) (by decide) (by kernel_rfl) ?_; unfold D12_53)); simp only [S, TY, reduceCtorEq, nq0, nq1, nq2, nq3, nq4, iq0, iq1, iq2, iq3, iq4, iq5, iq6, iq7, iq8, q1, q2, q9, q10, q12, q13, q14]; (try (simp (disch := omega) only [W2, Int.cast_ofNat_Int]; (try simp only [S, TY, reduceCtorEq, nq0, nq1, nq2, nq3, nq4, iq0, iq1, iq2, iq3, iq4, iq5, iq6, iq7, iq8, q1, q2, q9, q10, q12, q13, q14])))))
          refine Len_ok.at_ h4 [2] _ rfl fun r B H11 hr h11 => ?_
          obtain ⟨rfl, rfl⟩ := hr
          simp only [front_eq, fronts_nil, fronts_cons, List.getElem?_cons_zero, List.getElem?_cons_succ, List.eraseIdx_cons_zero, List.eraseIdx_cons_succ, List.cons_append, List.nil_append, putL_cons, putL_nil, List.set_cons_zero, List.set_cons_succ, Nat.reduceAdd] at h11
          have k1 : ¬ ((m'.l.length : Nat) : Int) < 0 := by omega
          have k2 : ¬ (sz : Int) < ((m'.l.length : Nat) : Int) := by have := hI'.w.l; have := hI'.r; omega
          have k3 : ((m'.l.length : Nat) : Int) + ((taken : Int) + 1) + m'.lost = (put : Int) := by have := hI'.s; omega
          have k4 := hI'.p
          have k5 := hI'.t
          have k6 := hI'.w.t
          have k7 := hI'.w.l
          have k8 := hI'.w.r
          have gi : IntKind.i64.wrap ((i : Int) + 1) = (i : Int) + 1 := by rw [wrap_id] <;> omega
          ((try simp only [S, TY, reduceCtorEq, nq0, nq1, nq2, nq3, nq4, iq0, iq1, iq2, iq3, iq4, iq5, iq6, iq7, iq8, q1, q9, q10, q14, q12, q13, k1]); (try (simp (disch := omega) only [W2, Int.cast_ofNat_Int]; (try simp only [S, TY, reduceCtorEq, nq0, nq1, nq2, nq3, nq4, iq0, iq1, iq2, iq3, iq4, iq5, iq6, iq7, iq8, q1, q9, q10, q14, q12, q13, k1]))); repeat ((first | (refine cl_drawi 53 D12_53 (List.range 11) (by decide) (by kernel_rfl) ?_; unfold D12_53)); simp only [S, TY, reduceCtorEq, nq0, nq1, nq2, nq3, nq4, iq0, iq1, iq2, iq3, iq4, iq5, iq6, iq7, iq8, q1, q9, q10, q14, q12, q13, k1]; (try (simp (disch := omega) only [W2, Int.cast_ofNat_Int]; (try simp only [S, TY, reduceCtorEq, nq0, nq1, nq2, nq3, nq4, iq0, iq1, iq2, iq3, iq4, iq5, iq6, iq7, iq8, q1, q9, q10, q14, q12, q13, k1])))))
          refine Len_ok.at_ h11 [0] _ rfl fun r B H12 hr h12 => ?_
          obtain ⟨rfl, rfl⟩ := hr
          simp only [front_eq, fronts_nil, fronts_cons, List.getElem?_cons_zero, List.getElem?_cons_succ, List.eraseIdx_cons_zero, List.eraseIdx_cons_succ, List.cons_append, List.nil_append, putL_cons, putL_nil, List.set_cons_zero, List.set_cons_succ, Nat.reduceAdd] at h12
          ((try simp only [S, TY, reduceCtorEq, nq0, nq1, nq2, nq3, nq4, iq0, iq1, iq2, iq3, iq4, iq5, iq6, iq7, iq8, q1, q9, q10, q14, q12, q13, k1, k2]); (try (simp (disch := omega) only [W2, Int.cast_ofNat_Int]; (try simp only [S, TY, reduceCtorEq, nq0, nq1, nq2, nq3, nq4, iq0, iq1, iq2, iq3, iq4, iq5, iq6, iq7, iq8, q1, q9, q10, q14, q12, q13, k1, k2]))); repeat ((first | (refine cl_drawi 53 D12_53 (List.range 11) (by decide) (by kernel_rfl) ?_; unfold D12_53)); simp only [S, TY, reduceCtorEq, nq0, nq1, nq2, nq3, nq4, iq0, iq1, iq2, iq3, iq4, iq5, iq6, iq7, iq8, q1, q9, q10, q14, q12, q13, k1, k2]; (try (simp (disch := omega) only [W2, Int.cast_ofNat_Int]; (try simp only [S, TY, reduceCtorEq, nq0, nq1, nq2, nq3, nq4, iq0, iq1, iq2, iq3, iq4, iq5, iq6, iq7, iq8, q1, q9, q10, q14, q12, q13, k1, k2])))))
          refine Len_ok.at_ h12 [0] _ rfl fun r B H13 hr h13 => ?_
          obtain ⟨rfl, rfl⟩ := hr
          simp only [front_eq, fronts_nil, fronts_cons, List.getElem?_cons_zero, List.getElem?_cons_succ, List.eraseIdx_cons_zero, List.eraseIdx_cons_succ, List.cons_append, List.nil_append, putL_cons, putL_nil, List.set_cons_zero, List.set_cons_succ, Nat.reduceAdd] at h13
          ((try simp only [S, TY, reduceCtorEq, nq0, nq1, nq2, nq3, nq4, iq0, iq1, iq2, iq3, iq4, iq5, iq6, iq7, iq8, q1, q9, q10, q14, q12, q13, k1, k2]); (try (simp (disch := omega) only [W2, Int.cast_ofNat_Int]; (try simp only [S, TY, reduceCtorEq, nq0, nq1, nq2, nq3, nq4, iq0, iq1, iq2, iq3, iq4, iq5, iq6, iq7, iq8, q1, q9, q10, q14, q12, q13, k1, k2]))); repeat ((first | (refine cl_drawi 53 D12_53 (List.range 11) (by decide) (by kernel_rfl) ?_; unfold D12_53)); simp only [S, TY, reduceCtorEq, nq0, nq1, nq2, nq3, nq4, iq0, iq1, iq2, iq3, iq4, iq5, iq6, iq7, iq8, q1, q9, q10, q14, q12, q13, k1, k2]; (try (simp (disch := omega) only [W2, Int.cast_ofNat_Int]; (try simp only [S, TY, reduceCtorEq, nq0, nq1, nq2, nq3, nq4, iq0, iq1, iq2, iq3, iq4, iq5, iq6, iq7, iq8, q1, q9, q10, q14, q12, q13, k1, k2])))))
          refine Lost_ok.at_ h13 [0] _ rfl fun r B H14 hr h14 => ?_
          obtain ⟨rfl, rfl⟩ := hr
          simp only [front_eq, fronts_nil, fronts_cons, List.getElem?_cons_zero, List.getElem?_cons_succ, List.eraseIdx_cons_zero, List.eraseIdx_cons_succ, List.cons_append, List.nil_append, putL_cons, putL_nil, List.set_cons_zero, List.set_cons_succ, Nat.reduceAdd] at h14
          ((try simp only [S, TY, reduceCtorEq, nq0, nq1, nq2, nq3, nq4, iq0, iq1, iq2, iq3, iq4, iq5, iq6, iq7, iq8, q1, q9, q10, q14, q12, q13, k1, k2, k3, gi]); (try (simp (disch := omega) only [W2, Int.cast_ofNat_Int]; (try simp only [S, TY, reduceCtorEq, nq0, nq1, nq2, nq3, nq4, iq0, iq1, iq2, iq3, iq4, iq5, iq6, iq7, iq8, q1, q9, q10, q14, q12, q13, k1, k2, k3, gi]))); repeat ((first | (refine cl_drawi 53 D12_53 (List.range 11) (by decide) (by kernel_rfl) ?_; unfold D12_53)); simp only [S, TY, reduceCtorEq, nq0, nq1, nq2, nq3, nq4, iq0, iq1, iq2, iq3, iq4, iq5, iq6, iq7, iq8, q1, q9, q10, q14, q12, q13, k1, k2, k3, gi]; (try (simp (disch := omega) only [W2, Int.cast_ofNat_Int]; (try simp only [S, TY, reduceCtorEq, nq0, nq1, nq2, nq3, nq4, iq0, iq1, iq2, iq3, iq4, iq5, iq6, iq7, iq8, q1, q9, q10, q14, q12, q13, k1, k2, k3, gi])))))
          refine .go (i + 1) (by omega) ⟨by omega, q1, q2, q9, q10, rfl, put, taken + 1, m', q12, rfl, hI', ⟨h14.1, seps_take (B := [_]) h14.2⟩⟩
        · rw [if_neg g] at hr
          obtain ⟨rfl, rfl⟩ := hr
          obtain ⟨m', rfl⟩ : ∃ z, z = m := ⟨_, rfl⟩
          have hI' : Inv (i + 1) sz put taken m' := ⟨hI.w.mono (by omega), hI.r, hI.s, by have := hI.p; omega, by have := hI.t; omega⟩
          simp only [front_eq, fronts_nil, fronts_cons, List.getElem?_cons_zero, List.getElem?_cons_succ, List.eraseIdx_cons_zero, List.eraseIdx_cons_succ, List.cons_append, List.nil_append, putL_cons, putL_nil, List.set_cons_zero, List.set_cons_succ, Nat.reduceAdd] at h2
          ((try simp only [S, TY, reduceCtorEq, nq0, nq1, nq2, nq3, nq4, iq0, iq1, iq2, iq3, iq4, iq5, iq6, iq7, iq8, q1, q2, q9, q10, q12, q13, q14]); (try (simp (disch := omega) only [W2, Int.cast_ofNat_Int]; (try simp only [S, TY, reduceCtorEq, nq0, nq1, nq2, nq3, nq4, iq0, iq1, iq2, iq3, iq4, iq5, iq6, iq7, iq8, q1, q2, q9, q10, q12, q13, q14]))); repeat ((first | (refine cl_drawi 53 D12_53 (List.range 11) (by decide) (by kernel_rfl) ?_; unfold D12_53)); simp only [S, TY, reduceCtorEq, nq0, nq1, nq2, nq3, nq4, iq0, iq1, iq2, iq3, iq4, iq5, iq6, iq7, iq8, q1, q2, q9, q10, q12, q13, q14]; (try (simp (disch := omega) only [W2, Int.cast_ofNat_Int]; (try simp only [S, TY, reduceCtorEq, nq0, nq1, nq2, nq3, nq4, iq0, iq1, iq2, iq3, iq4, iq5, iq6, iq7, iq8, q1, q2, q9, q10, q12, q13, q14])))))
          intro k3 hk3 hg3
          have h3 := h2.new hk3 hg3 (.cells (il 0 0 (.slice none 0 0)).toArray 152 (0, 0))
          ((try simp only [S, TY, reduceCtorEq, nq0, nq1, nq2, nq3, nq4, iq0, iq1, iq2, iq3, iq4, iq5, iq6, iq7, iq8, q1, q2, q9, q10, q12, q13, q14]); (try (simp (disch := omega) only [W2, Int.cast_ofNat_Int]; (try simp only [S, TY, reduceCtorEq, nq0, nq1, nq2, nq3, nq4, iq0, iq1, iq2, iq3, iq4, iq5, iq6, iq7, iq8, q1, q2, q9, q10, q12, q13, q14]))); repeat ((first | (refine cl_drawi 53 D12_53 (List.range 11) (by decide) (by kernel_rfl) ?_; unfold D12_53)); simp only [S, TY, reduceCtorEq, nq0, nq1, nq2, nq3, nq4, iq0, iq1, iq2, iq3, iq4, iq5, iq6, iq7, iq8, q1, q2, q9, q10, q12, q13, q14]; (try (simp (disch := omega) only [W2, Int.cast_ofNat_Int]; (try simp only [S, TY, reduceCtorEq, nq0, nq1, nq2, nq3, nq4, iq0, iq1, iq2, iq3, iq4, iq5, iq6, iq7, iq8, q1, q2, q9, q10, q12, q13, q14])))))
          refine sg.st h3 rfl rfl fun H4 h4 => ?_
          simp only [front_eq, fronts_nil, fronts_cons, List.getElem?_cons_zero, List.getElem?_cons_succ, List.eraseIdx_cons_zero, List.eraseIdx_cons_succ, List.cons_append, List.nil_append, putL_cons, putL_nil, List.set_cons_zero, List.set_cons_succ, Nat.reduceAdd] at h4
          ((try simp only [S, TY, reduceCtorEq, nq0, nq1, nq2, nq3, nq4, iq0, iq1, iq2, iq3, iq4, iq5, iq6, iq7, iq8, q1, q2, q9, q10, q12, q13, q14]); (try (simp (disch := omega) only [W2, Int.cast_ofNat_Int]; (try simp only [S, TY, reduceCtorEq, nq0, nq1, nq2, nq3, nq4, iq0, iq1, iq2, iq3, iq4, iq5, iq6, iq7, iq8, q1, q2, q9, q10, q12, q13, q14]))); repeat ((first | (refine cl_drawi 53 D12_53 (List.range 11) (by decide) (by kernel_rfl) ?_; unfold D12_53)); simp only [S, TY, reduceCtorEq, nq0, nq1, nq2, nq3, nq4, iq0, iq1, iq2, iq3, iq4, iq5, iq6, iq7, iq8, q1, q2, q9, q10, q12, q13, q14]; (try (simp (disch := omega) only [W2, Int.cast_ofNat_Int]; (try simp only [S, TY, reduceCtorEq, nq0, nq1, nq2, nq3, nq4, iq0, iq1, iq2, iq3, iq4, iq5, iq6, iq7, iq8, q1, q2, q9, q10, q12, q13, q14])))))
          refine Len_ok.at_ h4 [1] _ rfl fun r B H11 hr h11 => ?_
          obtain ⟨rfl, rfl⟩ := hr
          simp only [front_eq, fronts_nil, fronts_cons, List.getElem?_cons_zero, List.getElem?_cons_succ, List.eraseIdx_cons_zero, List.eraseIdx_cons_succ, List.cons_append, List.nil_append, putL_cons, putL_nil, List.set_cons_zero, List.set_cons_succ, Nat.reduceAdd] at h11
          have k1 : ¬ ((m'.l.length : Nat) : Int) < 0 := by omega
          have k2 : ¬ (sz : Int) < ((m'.l.length : Nat) : Int) := by have := hI'.w.l; have := hI'.r; omega
          have k3 : ((m'.l.length : Nat) : Int) + ((taken : Int)) + m'.lost = (put : Int) := by have := hI'.s; omega
          have k4 := hI'.p
          have k5 := hI'.t
          have k6 := hI'.w.t
          have k7 := hI'.w.l
          have k8 := hI'.w.r
          have gi : IntKind.i64.wrap ((i : Int) + 1) = (i : Int) + 1 := by rw [wrap_id] <;> omega
          ((try simp only [S, TY, reduceCtorEq, nq0, nq1, nq2, nq3, nq4, iq0, iq1, iq2, iq3, iq4, iq5, iq6, iq7, iq8, q1, q9, q10, q14, q12, q13, k1]); (try (simp (disch := omega) only [W2, Int.cast_ofNat_Int]; (try simp only [S, TY, reduceCtorEq, nq0, nq1, nq2, nq3, nq4, iq0, iq1, iq2, iq3, iq4, iq5, iq6, iq7, iq8, q1, q9, q10, q14, q12, q13, k1]))); repeat ((first | (refine cl_drawi 53 D12_53 (List.range 11) (by decide) (by kernel_rfl) ?_; unfold D12_53)); simp only [S, TY, reduceCtorEq, nq0, nq1, nq2, nq3, nq4, iq0, iq1, iq2, iq3, iq4, iq5, iq6, iq7, iq8, q1, q9, q10, q14, q12, q13, k1]; (try (simp (disch := omega) only [W2, Int.cast_ofNat_Int]; (try simp only [S, TY, reduceCtorEq, nq0, nq1, nq2, nq3, nq4, iq0, iq1, iq2, iq3, iq4, iq5, iq6, iq7, iq8, q1, q9, q10, q14, q12, q13, k1])))))
          refine Len_ok.at_ h11 [0] _ rfl fun r B H12 hr h12 => ?_
          obtain ⟨rfl, rfl⟩ := hr
          simp only [front_eq, fronts_nil, fronts_cons, List.getElem?_cons_zero, List.getElem?_cons_succ, List.eraseIdx_cons_zero, List.eraseIdx_cons_succ, List.cons_append, List.nil_append, putL_cons, putL_nil, List.set_cons_zero, List.set_cons_succ, Nat.reduceAdd] at h12
          ((try simp only [S, TY, reduceCtorEq, nq0, nq1, nq2, nq3, nq4, iq0, iq1, iq2, iq3, iq4, iq5, iq6, iq7, iq8, q1, q9, q10, q14, q12, q13, k1, k2]); (try (simp (disch := omega) only [W2, Int.cast_ofNat_Int]; (try simp only [S, TY, reduceCtorEq, nq0, nq1, nq2, nq3, nq4, iq0, iq1, iq2, iq3, iq4, iq5, iq6, iq7, iq8, q1, q9, q10, q14, q12, q13, k1, k2]))); repeat ((first | (refine cl_drawi 53 D12_53 (List.range 11) (by decide) (by kernel_rfl) ?_; unfold D12_53)); simp only [S, TY, reduceCtorEq, nq0, nq1, nq2, nq3, nq4, iq0, iq1, iq2, iq3, iq4, iq5, iq6, iq7, iq8, q1, q9, q10, q14, q12, q13, k1, k2]; (try (simp (disch := omega) only [W2, Int.cast_ofNat_Int]; (try simp only [S, TY, reduceCtorEq, nq0, nq1, nq2, nq3, nq4, iq0, iq1, iq2, iq3, iq4, iq5, iq6, iq7, iq8, q1, q9, q10, q14, q12, q13, k1, k2])))))
          refine Len_ok.at_ h12 [0] _ rfl fun r B H13 hr h13 => ?_
          obtain ⟨rfl, rfl⟩ := hr
          simp only [front_eq, fronts_nil, fronts_cons, List.getElem?_cons_zero, List.getElem?_cons_succ, List.eraseIdx_cons_zero, List.eraseIdx_cons_succ, List.cons_append, List.nil_append, putL_cons, putL_nil, List.set_cons_zero, List.set_cons_succ, Nat.reduceAdd] at h13
          ((try simp only [S, TY, reduceCtorEq, nq0, nq1, nq2, nq3, nq4, iq0, iq1, iq2, iq3, iq4, iq5, iq6, iq7, iq8, q1, q9, q10, q14, q12, q13, k1, k2]); (try (simp (disch := omega) only [W2, Int.cast_ofNat_Int]; (try simp only [S, TY, reduceCtorEq, nq0, nq1, nq2, nq3, nq4, iq0, iq1, iq2, iq3, iq4, iq5, iq6, iq7, iq8, q1, q9, q10, q14, q12, q13, k1, k2]))); repeat ((first | (refine cl_drawi 53 D12_53 (List.range 11) (by decide) (by kernel_rfl) ?_; unfold D12_53)); simp only [S, TY, reduceCtorEq, nq0, nq1, nq2, nq3, nq4, iq0, iq1, iq2, iq3, iq4, iq5, iq6, iq7, iq8, q1, q9, q10, q14, q12, q13, k1, k2]; (try (simp (disch := omega) only [W2, Int.cast_ofNat_Int]; (try simp only [S, TY, reduceCtorEq, nq0, nq1, nq2, nq3, nq4, iq0, iq1, iq2, iq3, iq4, iq5, iq6, iq7, iq8, q1, q9, q10, q14, q12, q13, k1, k2])))))
          refine Lost_ok.at_ h13 [0] _ rfl fun r B H14 hr h14 => ?_
          obtain ⟨rfl, rfl⟩ := hr
          simp only [front_eq, fronts_nil, fronts_cons, List.getElem?_cons_zero, List.getElem?_cons_succ, List.eraseIdx_cons_zero, List.eraseIdx_cons_succ, List.cons_append, List.nil_append, putL_cons, putL_nil, List.set_cons_zero, List.set_cons_succ, Nat.reduceAdd] at h14
          ((try simp only [S, TY, reduceCtorEq, nq0, nq1, nq2, nq3, nq4, iq0, iq1, iq2, iq3, iq4, iq5, iq6, iq7, iq8, q1, q9, q10, q14, q12, q13, k1, k2, k3, gi]); (try (simp (disch := omega) only [W2, Int.cast_ofNat_Int]; (try simp only [S, TY, reduceCtorEq, nq0, nq1, nq2, nq3, nq4, iq0, iq1, iq2, iq3, iq4, iq5, iq6, iq7, iq8, q1, q9, q10, q14, q12, q13, k1, k2, k3, gi]))); repeat ((first | (refine cl_drawi 53 D12_53 (List.range 11) (by decide) (by kernel_rfl) ?_; unfold D12_53)); simp only [S, TY, reduceCtorEq, nq0, nq1, nq2, nq3, nq4, iq0, iq1, iq2, iq3, iq4, iq5, iq6, iq7, iq8, q1, q9, q10, q14, q12, q13, k1, k2, k3, gi]; (try (simp (disch := omega) only [W2, Int.cast_ofNat_Int]; (try simp only [S, TY, reduceCtorEq, nq0, nq1, nq2, nq3, nq4, iq0, iq1, iq2, iq3, iq4, iq5, iq6, iq7, iq8, q1, q9, q10, q14, q12, q13, k1, k2, k3, gi])))))
          refine .go (i + 1) (by omega) ⟨by omega, q1, q2, q9, q10, rfl, put, taken, m', q12, q13, hI', ⟨h14.1, seps_take (B := [_]) h14.2⟩⟩
      · by_cases g6 : k.tmod 9 = 6
        · ((try simp only [S, TY, reduceCtorEq, nq0, nq1, nq2, nq3, nq4, iq0, iq1, iq2, iq3, iq4, iq5, iq6, iq7, iq8, q1, q2, q9, q10, q12, q13, q14, g1, g0, d0, d1, d2, n9, g4, g5, g6]); (try (simp (disch := omega) only [W2, Int.cast_ofNat_Int]; (try simp only [S, TY, reduceCtorEq, nq0, nq1, nq2, nq3, nq4, iq0, iq1, iq2, iq3, iq4, iq5, iq6, iq7, iq8, q1, q2, q9, q10, q12, q13, q14, g1, g0, d0, d1, d2, n9, g4, g5, g6]))); repeat ((first | (refine cl_drawi 53 D12_53 (List.range 11) (by decide) (by kernel_rfl) ?_; unfold D12_53)); simp only [S, TY, reduceCtorEq, nq0, nq1, nq2, nq3, nq4, iq0, iq1, iq2, iq3, iq4, iq5, iq6, iq7, iq8, q1, q2, q9, q10, q12, q13, q14, g1, g0, d0, d1, d2, n9, g4, g5, g6]; (try (simp (disch := omega) only [W2, Int.cast_ofNat_Int]; (try simp only [S, TY, reduceCtorEq, nq0, nq1, nq2, nq3, nq4, iq0, iq1, iq2, iq3, iq4, iq5, iq6, iq7, iq8, q1, q2, q9, q10, q12, q13, q14, g1, g0, d0, d1, d2, n9, g4, g5, g6])))))
          refine (Double_ok hI.w at_).at_ h [0] _ rfl fun r B H2 hr h2 => ?_
          obtain ⟨rfl, rfl⟩ := hr
          simp only [front_eq, fronts_nil, fronts_cons, List.getElem?_cons_zero, List.getElem?_cons_succ, List.eraseIdx_cons_zero, List.eraseIdx_cons_succ, List.cons_append, List.nil_append, putL_cons, putL_nil, List.set_cons_zero, List.set_cons_succ, Nat.reduceAdd] at h2
          obtain ⟨z1, z2, z3⟩ := dbl_len m at_
          have hw' := wf_dbl hI.w at_
          obtain ⟨m', e', hm'⟩ : ∃ z y, m.dbl at_ = (z, y) := ⟨_, _, rfl⟩
          rw [hm'] at h2 z1 z2 z3 hw' ⊢
          simp only at h2 z1 z2 z3 hw' ⊢
          have k4' := hI.p
          by_cases ge : e' = 0
          · rw [if_pos ge] at z3
            have hI' : Inv (i + 1) sz (put + 1) taken m' := ⟨hw'.mono (by omega), by rw [z1]; exact hI.r, by have := hI.s; omega, by have := hI.p; omega, by have := hI.t; omega⟩
            ((try simp only [S, TY, reduceCtorEq, nq0, nq1, nq2, nq3, nq4, iq0, iq1, iq2, iq3, iq4, iq5, iq6, iq7, iq8, q1, q2, q9, q10, q12, q13, q14, ge]); (try (simp (disch := omega) only [W2, Int.cast_ofNat_Int]; (try simp only [S, TY, reduceCtorEq, nq0, nq1, nq2, nq3, nq4, iq0, iq1, iq2, iq3, iq4, iq5, iq6, iq7, iq8, q1, q2, q9, q10, q12, q13, q14, ge]))); repeat ((first | (refine cl_drawi 53 D12_53 (List.range 11) (by decide) (by kernel_rfl) ?_; unfold D12_53)); simp only [S, TY, reduceCtorEq, nq0, nq1, nq2, nq3, nq4, iq0, iq1, iq2, iq3, iq4, iq5, iq6, iq7, iq8, q1, q2, q9, q10, q12, q13, q14, ge]; (try (simp (disch := omega) only [W2, Int.cast_ofNat_Int]; (try simp only [S, TY, reduceCtorEq, nq0, nq1, nq2, nq3, nq4, iq0, iq1, iq2, iq3, iq4, iq5, iq6, iq7, iq8, q1, q2, q9, q10, q12, q13, q14, ge])))))
            refine Len_ok.at_ h2 [0] _ rfl fun r B H11 hr h11 => ?_
            obtain ⟨rfl, rfl⟩ := hr
            simp only [front_eq, fronts_nil, fronts_cons, List.getElem?_cons_zero, List.getElem?_cons_succ, List.eraseIdx_cons_zero, List.eraseIdx_cons_succ, List.cons_append, List.nil_append, putL_cons, putL_nil, List.set_cons_zero, List.set_cons_succ, Nat.reduceAdd] at h11
            have k1 : ¬ ((m'.l.length : Nat) : Int) < 0 := by omega
            have k2 : ¬ (sz : Int) < ((m'.l.length : Nat) : Int) := by have := hI'.w.l; have := hI'.r; omega
            have k3 : ((m'.l.length : Nat) : Int) + ((taken : Int)) + m'.lost = (put : Int) + 1 := by have := hI'.s; omega
            have k4 := hI'.p
            have k5 := hI'.t
            have k6 := hI'.w.t
            have k7 := hI'.w.l
            have k8 := hI'.w.r
            have gi : IntKind.i64.wrap ((i : Int) + 1) = (i : Int) + 1 := by rw [wrap_id] <;> omega
            ((try simp only [S, TY, reduceCtorEq, nq0, nq1, nq2, nq3, nq4, iq0, iq1, iq2, iq3, iq4, iq5, iq6, iq7, iq8, q1, q9, q10, q14, q12, q13, k1]); (try (simp (disch := omega) only [W2, Int.cast_ofNat_Int]; (try simp only [S, TY, reduceCtorEq, nq0, nq1, nq2, nq3, nq4, iq0, iq1, iq2, iq3, iq4, iq5, iq6, iq7, iq8, q1, q9, q10, q14, q12, q13, k1]))); repeat ((first | (refine cl_drawi 53 D12_53 (List.range 11) (by decide) (by kernel_rfl) ?_; unfold D12_53)); simp only [S, TY, reduceCtorEq, nq0, nq1, nq2, nq3, nq4, iq0, iq1, iq2, iq3, iq4, iq5, iq6, iq7, iq8, q1, q9, q10, q14, q12, q13, k1]; (try (simp (disch := omega) only [W2, Int.cast_ofNat_Int]; (try simp only [S, TY, reduceCtorEq, nq0, nq1, nq2, nq3, nq4, iq0, iq1, iq2, iq3, iq4, iq5, iq6, iq7, iq8, q1, q9, q10, q14, q12, q13, k1])))))
            refine Len_ok.at_ h11 [0] _ rfl fun r B H12 hr h12 => ?_
            obtain ⟨rfl, rfl⟩ := hr
            simp only [front_eq, fronts_nil, fronts_cons, List.getElem?_cons_zero, List.getElem?_cons_succ, List.eraseIdx_cons_zero, List.eraseIdx_cons_succ, List.cons_append, List.nil_append, putL_cons, putL_nil, List.set_cons_zero, List.set_cons_succ, Nat.reduceAdd] at h12
            ((try simp only [S, TY, reduceCtorEq, nq0, nq1, nq2, nq3, nq4, iq0, iq1, iq2, iq3, iq4, iq5, iq6, iq7, iq8, q1, q9, q10, q14, q12, q13, k1, k2]); (try (simp (disch := omega) only [W2, Int.cast_ofNat_Int]; (try simp only [S, TY, reduceCtorEq, nq0, nq1, nq2, nq3, nq4, iq0, iq1, iq2, iq3, iq4, iq5, iq6, iq7, iq8, q1, q9, q10, q14, q12, q13, k1, k2]))); repeat ((first | (refine cl_drawi 53 D12_53 (List.range 11) (by decide) (by kernel_rfl) ?_; unfold D12_53)); simp only [S, TY, reduceCtorEq, nq0, nq1, nq2, nq3, nq4, iq0, iq1, iq2, iq3, iq4, iq5, iq6, iq7, iq8, q1, q9, q10, q14, q12, q13, k1, k2]; (try (simp (disch := omega) only [W2, Int.cast_ofNat_Int]; (try simp only [S, TY, reduceCtorEq, nq0, nq1, nq2, nq3, nq4, iq0, iq1, iq2, iq3, iq4, iq5, iq6, iq7, iq8, q1, q9, q10, q14, q12, q13, k1, k2])))))
            refine Len_ok.at_ h12 [0] _ rfl fun r B H13 hr h13 => ?_
            obtain ⟨rfl, rfl⟩ := hr
            simp only [front_eq, fronts_nil, fronts_cons, List.getElem?_cons_zero, List.getElem?_cons_succ, List.eraseIdx_cons_zero, List.eraseIdx_cons_succ, List.cons_append, List.nil_append, putL_cons, putL_nil, List.set_cons_zero, List.set_cons_succ, Nat.reduceAdd] at h13
            ((try simp only [S, TY, reduceCtorEq, nq0, nq1, nq2, nq3, nq4, iq0, iq1, iq2, iq3, iq4, iq5, iq6, iq7, iq8, q1, q9, q10, q14, q12, q13, k1, k2]); (try (simp (disch := omega) only [W2, Int.cast_ofNat_Int]; (try simp only [S, TY, reduceCtorEq, nq0, nq1, nq2, nq3, nq4, iq0, iq1, iq2, iq3, iq4, iq5, iq6, iq7, iq8, q1, q9, q10, q14, q12, q13, k1, k2]))); repeat ((first | (refine cl_drawi 53 D12_53 (List.range 11) (by decide) (by kernel_rfl) ?_; unfold D12_53)); simp only [S, TY, reduceCtorEq, nq0, nq1, nq2, nq3, nq4, iq0, iq1, iq2, iq3, iq4, iq5, iq6, iq7, iq8, q1, q9, q10, q14, q12, q13, k1, k2]; (try (simp (disch := omega) only [W2, Int.cast_ofNat_Int]; (try simp only [S, TY, reduceCtorEq, nq0, nq1, nq2, nq3, nq4, iq0, iq1, iq2, iq3, iq4, iq5, iq6, iq7, iq8, q1, q9, q10, q14, q12, q13, k1, k2])))))
            refine Lost_ok.at_ h13 [0] _ rfl fun r B H14 hr h14 => ?_
            obtain ⟨rfl, rfl⟩ := hr
            simp only [front_eq, fronts_nil, fronts_cons, List.getElem?_cons_zero, List.getElem?_cons_succ, List.eraseIdx_cons_zero, List.eraseIdx_cons_succ, List.cons_append, List.nil_append, putL_cons, putL_nil, List.set_cons_zero, List.set_cons_succ, Nat.reduceAdd] at h14
            ((try simp only [S, TY, reduceCtorEq, nq0, nq1, nq2, nq3, nq4, iq0, iq1, iq2, iq3, iq4, iq5, iq6, iq7, iq8, q1, q9, q10, q14, q12, q13, k1, k2, k3, gi]); (try (simp (disch := omega) only [W2, Int.cast_ofNat_Int]; (try simp only [S, TY, reduceCtorEq, nq0, nq1, nq2, nq3, nq4, iq0, iq1, iq2, iq3, iq4, iq5, iq6, iq7, iq8, q1, q9, q10, q14, q12, q13, k1, k2, k3, gi]))); repeat ((first | (refine cl_drawi 53 D12_53 (List.range 11) (by decide) (by kernel_rfl) ?_; unfold D12_53)); simp only [S, TY, reduceCtorEq, nq0, nq1, nq2, nq3, nq4, iq0, iq1, iq2, iq3, iq4, iq5, iq6, iq7, iq8, q1, q9, q10, q14, q12, q13, k1, k2, k3, gi]; (try (simp (disch := omega) only [W2, Int.cast_ofNat_Int]; (try simp only [S, TY, reduceCtorEq, nq0, nq1, nq2, nq3, nq4, iq0, iq1, iq2, iq3, iq4, iq5, iq6, iq7, iq8, q1, q9, q10, q14, q12, q13, k1, k2, k3, gi])))))
            refine .go (i + 1) (by omega) ⟨by omega, q1, q2, q9, q10, rfl, put + 1, taken, m', rfl, q13, hI', ⟨h14.1, seps_take (B := [_]) h14.2⟩⟩
          · rw [if_neg ge] at z3
            have hI' : Inv (i + 1) sz put taken m' := ⟨hw'.mono (by omega), by rw [z1]; exact hI.r, by have := hI.s; omega, by have := hI.p; omega, by have := hI.t; omega⟩
            ((try simp only [S, TY, reduceCtorEq, nq0, nq1, nq2, nq3, nq4, iq0, iq1, iq2, iq3, iq4, iq5, iq6, iq7, iq8, q1, q2, q9, q10, q12, q13, q14, ge]); (try (simp (disch := omega) only [W2, Int.cast_ofNat_Int]; (try simp only [S, TY, reduceCtorEq, nq0, nq1, nq2, nq3, nq4, iq0, iq1, iq2, iq3, iq4, iq5, iq6, iq7, iq8, q1, q2, q9, q10, q12, q13, q14, ge]))); repeat ((first | (refine cl_drawi 53 D12_53 (List.range 11) (by decide) (by kernel_rfl) ?_; unfold D12_53)); simp only [S, TY, reduceCtorEq, nq0, nq1, nq2, nq3, nq4, iq0, iq1, iq2, iq3, iq4, iq5, iq6, iq7, iq8, q1, q2, q9, q10, q12, q13, q14, ge]; (try (simp (disch := omega) only [W2, Int.cast_ofNat_Int]; (try simp only [S, TY, reduceCtorEq, nq0, nq1, nq2, nq3, nq4, iq0, iq1, iq2, iq3, iq4, iq5, iq6, iq7, iq8, q1, q2, q9, q10, q12, q13, q14, ge])))))
            refine Len_ok.at_ h2 [0] _ rfl fun r B H11 hr h11 => ?_
            obtain ⟨rfl, rfl⟩ := hr
            simp only [front_eq, fronts_nil, fronts_cons, List.getElem?_cons_zero, List.getElem?_cons_succ, List.eraseIdx_cons_zero, List.eraseIdx_cons_succ, List.cons_append, List.nil_append, putL_cons, putL_nil, List.set_cons_zero, List.set_cons_succ, Nat.reduceAdd] at h11
            have k1 : ¬ ((m'.l.length : Nat) : Int) < 0 := by omega
            have k2 : ¬ (sz : Int) < ((m'.l.length : Nat) : Int) := by have := hI'.w.l; have := hI'.r; omega
            have k3 : ((m'.l.length : Nat) : Int) + ((taken : Int)) + m'.lost = (put : Int) := by have := hI'.s; omega
            have k4 := hI'.p
            have k5 := hI'.t
            have k6 := hI'.w.t
            have k7 := hI'.w.l
            have k8 := hI'.w.r
            have gi : IntKind.i64.wrap ((i : Int) + 1) = (i : Int) + 1 := by rw [wrap_id] <;> omega
            ((try simp only [S, TY, reduceCtorEq, nq0, nq1, nq2, nq3, nq4, iq0, iq1, iq2, iq3, iq4, iq5, iq6, iq7, iq8, q1, q9, q10, q14, q12, q13, k1]); (try (simp (disch := omega) only [W2, Int.cast_ofNat_Int]; (try simp only [S, TY, reduceCtorEq, nq0, nq1, nq2, nq3, nq4, iq0, iq1, iq2, iq3, iq4, iq5, iq6, iq7, iq8, q1, q9, q10, q14, q12, q13, k1]))); repeat ((first | (refine cl_drawi 53 D12_53 (List.range 11) (by decide) (by kernel_rfl) ?_; unfold D12_53)); simp only [S, TY, reduceCtorEq, nq0, nq1, nq2, nq3, nq4, iq0, iq1, iq2, iq3, iq4, iq5, iq6, iq7, iq8, q1, q9, q10, q14, q12, q13, k1]; (try (simp (disch := omega) only [W2, Int.cast_ofNat_Int]; (try simp only [S, TY, reduceCtorEq, nq0, nq1, nq2, nq3, nq4, iq0, iq1, iq2, iq3, iq4, iq5, iq6, iq7, iq8, q1, q9, q10, q14, q12, q13, k1])))))
            refine Len_ok.at_ h11 [0] _ rfl fun r B H12 hr h12 => ?_
            obtain ⟨rfl, rfl⟩ := hr
            simp only [front_eq, fronts_nil, fronts_cons, List.getElem?_cons_zero, List.getElem?_cons_succ, List.eraseIdx_cons_zero, List.eraseIdx_cons_succ, List.cons_append, List.nil_append, putL_cons, putL_nil, List.set_cons_zero, List.set_cons_succ, Nat.reduceAdd] at h12
            ((try simp only [S, TY, reduceCtorEq, nq0, nq1, nq2, nq3, nq4, iq0, iq1, iq2, iq3, iq4, iq5, iq6, iq7, iq8, q1, q9, q10, q14, q12, q13, k1, k2]); (try (simp (disch := omega) only [W2, Int.cast_ofNat_Int]; (try simp only [S, TY, reduceCtorEq, nq0, nq1, nq2, nq3, nq4, iq0, iq1, iq2, iq3, iq4, iq5, iq6, iq7, iq8, q1, q9, q10, q14, q12, q13, k1, k2]))); repeat ((first | (refine cl_drawi 53 D12_53 (List.range 11) (by decide) (by kernel_rfl) ?_; unfold D12_53)); simp only [S, TY, reduceCtorEq, nq0, nq1, nq2, nq3, nq4, iq0, iq1, iq2, iq3, iq4, iq5, iq6, iq7, iq8, q1, q9, q10, q14, q12, q13, k1, k2]; (try (simp (disch := omega) only [W2, Int.cast_ofNat_Int]; (try simp only [S, TY, reduceCtorEq, nq0, nq1, nq2, nq3, nq4, iq0, iq1, iq2, iq3, iq4, iq5, iq6, iq7, iq8, q1, q9, q10, q14, q12, q13, k1, k2])))))
            refine Len_ok.at_ h12 [0] _ rfl fun r B H13 hr h13 => ?_
            obtain ⟨rfl, rfl⟩ := hr
            simp only [front_eq, fronts_nil, fronts_cons, List.getElem?_cons_zero, List.getElem?_cons_succ, List.eraseIdx_cons_zero, List.eraseIdx_cons_succ, List.cons_append, List.nil_append, putL_cons, putL_nil, List.set_cons_zero, List.set_cons_succ, Nat.reduceAdd] at h13
            ((try simp only [S, TY, reduceCtorEq, nq0, nq1, nq2, nq3, nq4, iq0, iq1, iq2, iq3, iq4, iq5, iq6, iq7, iq8, q1, q9, q10, q14, q12, q13, k1, k2]); (try (simp (disch := omega) only [W2, Int.cast_ofNat_Int]; (try simp only [S, TY, reduceCtorEq, nq0, nq1, nq2, nq3, nq4, iq0, iq1, iq2, iq3, iq4, iq5, iq6, iq7, iq8, q1, q9, q10, q14, q12, q13, k1, k2]))); repeat ((first | (refine cl_drawi 53 D12_53 (List.range 11) (by decide) (by kernel_rfl) ?_; unfold D12_53)); simp only [S, TY, reduceCtorEq, nq0, nq1, nq2, nq3, nq4, iq0, iq1, iq2, iq3, iq4, iq5, iq6, iq7, iq8, q1, q9, q10, q14, q12, q13, k1, k2]; (try (simp (disch := omega) only [W2, Int.cast_ofNat_Int]; (try simp only [S, TY, reduceCtorEq, nq0, nq1, nq2, nq3, nq4, iq0, iq1, iq2, iq3, iq4, iq5, iq6, iq7, iq8, q1, q9, q10, q14, q12, q13, k1, k2])))))
            refine Lost_ok.at_ h13 [0] _ rfl fun r B H14 hr h14 => ?_
            obtain ⟨rfl, rfl⟩ := hr
            simp only [front_eq, fronts_nil, fronts_cons, List.getElem?_cons_zero, List.getElem?_cons_succ, List.eraseIdx_cons_zero, List.eraseIdx_cons_succ, List.cons_append, List.nil_append, putL_cons, putL_nil, List.set_cons_zero, List.set_cons_succ, Nat.reduceAdd] at h14
            ((try simp only [S, TY, reduceCtorEq, nq0, nq1, nq2, nq3, nq4, iq0, iq1, iq2, iq3, iq4, iq5, iq6, iq7, iq8, q1, q9, q10, q14, q12, q13, k1, k2, k3, gi]); (try (simp (disch := omega) only [W2, Int.cast_ofNat_Int]; (try simp only [S, TY, reduceCtorEq, nq0, nq1, nq2, nq3, nq4, iq0, iq1, iq2, iq3, iq4, iq5, iq6, iq7, iq8, q1, q9, q10, q14, q12, q13, k1, k2, k3, gi]))); repeat ((first | (refine cl_drawi 53 D12_53 (List.range 11) (by decide) (by kernel_rfl) ?_; unfold D12_53)); simp only [S, TY, reduceCtorEq, nq0, nq1, nq2, nq3, nq4, iq0, iq1, iq2, iq3, iq4, iq5, iq6, iq7, iq8, q1, q9, q10, q14, q12, q13, k1, k2, k3, gi]; (try (simp (disch := omega) only [W2, Int.cast_ofNat_Int]; (try simp only [S, TY, reduceCtorEq, nq0, nq1, nq2, nq3, nq4, iq0, iq1, iq2, iq3, iq4, iq5, iq6, iq7, iq8, q1, q9, q10, q14, q12, q13, k1, k2, k3, gi])))))
            refine .go (i + 1) (by omega) ⟨by omega, q1, q2, q9, q10, rfl, put, taken, m', q12, q13, hI', ⟨h14.1, seps_take (B := [_]) h14.2⟩⟩
        · by_cases g7 : k.tmod 9 = 0
          · ((try simp only [S, TY, reduceCtorEq, nq0, nq1, nq2, nq3, nq4, iq0, iq1, iq2, iq3, iq4, iq5, iq6, iq7, iq8, q1, q2, q9, q10, q12, q13, q14, g1, g0, d0, d1, d2, n9, g4, g5, g6, g7]); (try (simp (disch := omega) only [W2, Int.cast_ofNat_Int]; (try simp only [S, TY, reduceCtorEq, nq0, nq1, nq2, nq3, nq4, iq0, iq1, iq2, iq3, iq4, iq5, iq6, iq7, iq8, q1, q2, q9, q10, q12, q13, q14, g1, g0, d0, d1, d2, n9, g4, g5, g6, g7]))); repeat ((first | (refine cl_drawi 53 D12_53 (List.range 11) (by decide) (by kernel_rfl) ?_; unfold D12_53)); simp only [S, TY, reduceCtorEq, nq0, nq1, nq2, nq3, nq4, iq0, iq1, iq2, iq3, iq4, iq5, iq6, iq7, iq8, q1, q2, q9, q10, q12, q13, q14, g1, g0, d0, d1, d2, n9, g4, g5, g6, g7]; (try (simp (disch := omega) only [W2, Int.cast_ofNat_Int]; (try simp only [S, TY, reduceCtorEq, nq0, nq1, nq2, nq3, nq4, iq0, iq1, iq2, iq3, iq4, iq5, iq6, iq7, iq8, q1, q2, q9, q10, q12, q13, q14, g1, g0, d0, d1, d2, n9, g4, g5, g6, g7])))))
            refine (Put_ok hI.w (by omega) (by omega) hr0 hb1).at_ h [0] _ rfl fun r B H2 hr h2 => ?_
            obtain ⟨rfl, rfl⟩ := hr
            simp only [front_eq, fronts_nil, fronts_cons, List.getElem?_cons_zero, List.getElem?_cons_succ, List.eraseIdx_cons_zero, List.eraseIdx_cons_succ, List.cons_append, List.nil_append, putL_cons, putL_nil, List.set_cons_zero, List.set_cons_succ, Nat.reduceAdd] at h2
            obtain ⟨z1, z2, z3, _⟩ := puts_facts m (yl.map (·.1))
            have hw' := wf_puts hI.w (yl.map (·.1))
            rw [List.length_map] at z1 hw'
            obtain ⟨m', hm'⟩ : ∃ z, (m.puts (yl.map (·.1))).1 = z := ⟨_, rfl⟩
            rw [hm'] at h2 z1 z2 z3 hw'
            have hI' : Inv (i + 1) sz (put + yl.length) taken m' := ⟨hw'.mono (by omega), by rw [z3]; exact hI.r, by have := hI.s; omega, by have := hI.p; omega, by have := hI.t; omega⟩
            have d1' := h2.roc dd1
            have k4' := hI.p
            ((try simp only [S, TY, reduceCtorEq, nq0, nq1, nq2, nq3, nq4, iq0, iq1, iq2, iq3, iq4, iq5, iq6, iq7, iq8, q1, q2, q9, q10, q12, q13, q14, g0, d1']); (try (simp (disch := omega) only [W2, Int.cast_ofNat_Int]; (try simp only [S, TY, reduceCtorEq, nq0, nq1, nq2, nq3, nq4, iq0, iq1, iq2, iq3, iq4, iq5, iq6, iq7, iq8, q1, q2, q9, q10, q12, q13, q14, g0, d1']))); repeat ((first | (refine cl_drawi 53 D12_53 (List.range 11) (by decide) (by kernel_rfl) ?_; unfold D12_53)); simp only [S, TY, reduceCtorEq, nq0, nq1, nq2, nq3, nq4, iq0, iq1, iq2, iq3, iq4, iq5, iq6, iq7, iq8, q1, q2, q9, q10, q12, q13, q14, g0, d1']; (try (simp (disch := omega) only [W2, Int.cast_ofNat_Int]; (try simp only [S, TY, reduceCtorEq, nq0, nq1, nq2, nq3, nq4, iq0, iq1, iq2, iq3, iq4, iq5, iq6, iq7, iq8, q1, q2, q9, q10, q12, q13, q14, g0, d1'])))))
            refine Len_ok.at_ h2 [0] _ rfl fun r B H11 hr h11 => ?_
            obtain ⟨rfl, rfl⟩ := hr
            simp only [front_eq, fronts_nil, fronts_cons, List.getElem?_cons_zero, List.getElem?_cons_succ, List.eraseIdx_cons_zero, List.eraseIdx_cons_succ, List.cons_append, List.nil_append, putL_cons, putL_nil, List.set_cons_zero, List.set_cons_succ, Nat.reduceAdd] at h11
            have k1 : ¬ ((m'.l.length : Nat) : Int) < 0 := by omega
            have k2 : ¬ (sz : Int) < ((m'.l.length : Nat) : Int) := by have := hI'.w.l; have := hI'.r; omega
            have k3 : ((m'.l.length : Nat) : Int) + ((taken : Int)) + m'.lost = (put : Int) + yl.length := by have := hI'.s; omega
            have k4 := hI'.p
            have k5 := hI'.t
            have k6 := hI'.w.t
            have k7 := hI'.w.l
            have k8 := hI'.w.r
            have gi : IntKind.i64.wrap ((i : Int) + 1) = (i : Int) + 1 := by rw [wrap_id] <;> omega
            ((try simp only [S, TY, reduceCtorEq, nq0, nq1, nq2, nq3, nq4, iq0, iq1, iq2, iq3, iq4, iq5, iq6, iq7, iq8, q1, q9, q10, q14, q12, q13, k1]); (try (simp (disch := omega) only [W2, Int.cast_ofNat_Int]; (try simp only [S, TY, reduceCtorEq, nq0, nq1, nq2, nq3, nq4, iq0, iq1, iq2, iq3, iq4, iq5, iq6, iq7, iq8, q1, q9, q10, q14, q12, q13, k1]))); repeat ((first | (refine cl_drawi 53 D12_53 (List.range 11) (by decide) (by kernel_rfl) ?_; unfold D12_53)); simp only [S, TY, reduceCtorEq, nq0, nq1, nq2, nq3, nq4, iq0, iq1, iq2, iq3, iq4, iq5, iq6, iq7, iq8, q1, q9, q10, q14, q12, q13, k1]; (try (simp (disch := omega) only [W2, Int.cast_ofNat_Int]; (try simp only [S, TY, reduceCtorEq, nq0, nq1, nq2, nq3, nq4, iq0, iq1, iq2, iq3, iq4, iq5, iq6, iq7, iq8, q1, q9, q10, q14, q12, q13, k1])))))
            refine Len_ok.at_ h11 [0] _ rfl fun r B H12 hr h12 => ?_
            obtain ⟨rfl, rfl⟩ := hr
            simp only [front_eq, fronts_nil, fronts_cons, List.getElem?_cons_zero, List.getElem?_cons_succ, List.eraseIdx_cons_zero, List.eraseIdx_cons_succ, List.cons_append, List.nil_append, putL_cons, putL_nil, List.set_cons_zero, List.set_cons_succ, Nat.reduceAdd] at h12
            ((try simp only [S, TY, reduceCtorEq, nq0, nq1, nq2, nq3, nq4, iq0, iq1, iq2, iq3, iq4, iq5, iq6, iq7, iq8, q1, q9, q10, q14, q12, q13, k1, k2]); (try (simp (disch := omega) only [W2, Int.cast_ofNat_Int]; (try simp only [S, TY, reduceCtorEq, nq0, nq1, nq2, nq3, nq4, iq0, iq1, iq2, iq3, iq4, iq5, iq6, iq7, iq8, q1, q9, q10, q14, q12, q13, k1, k2]))); repeat ((first | (refine cl_drawi 53 D12_53 (List.range 11) (by decide) (by kernel_rfl) ?_; unfold D12_53)); simp only [S, TY, reduceCtorEq, nq0, nq1, nq2, nq3, nq4, iq0, iq1, iq2, iq3, iq4, iq5, iq6, iq7, iq8, q1, q9, q10, q14, q12, q13, k1, k2]; (try (simp (disch := omega) only [W2, Int.cast_ofNat_Int]; (try simp only [S, TY, reduceCtorEq, nq0, nq1, nq2, nq3, nq4, iq0, iq1, iq2, iq3, iq4, iq5, iq6, iq7, iq8, q1, q9, q10, q14, q12, q13, k1, k2])))))
            refine Len_ok.at_ h12 [0] _ rfl fun r B H13 hr h13 => ?_
            obtain ⟨rfl, rfl⟩ := hr
            simp only [front_eq, fronts_nil, fronts_cons, List.getElem?_cons_zero, List.getElem?_cons_succ, List.eraseIdx_cons_zero, List.eraseIdx_cons_succ, List.cons_append, List.nil_append, putL_cons, putL_nil, List.set_cons_zero, List.set_cons_succ, Nat.reduceAdd] at h13
            ((try simp only [S, TY, reduceCtorEq, nq0, nq1, nq2, nq3, nq4, iq0, iq1, iq2, iq3, iq4, iq5, iq6, iq7, iq8, q1, q9, q10, q14, q12, q13, k1, k2]); (try (simp (disch := omega) only [W2, Int.cast_ofNat_Int]; (try simp only [S, TY, reduceCtorEq, nq0, nq1, nq2, nq3, nq4, iq0, iq1, iq2, iq3, iq4, iq5, iq6, iq7, iq8, q1, q9, q10, q14, q12, q13, k1, k2]))); repeat ((first | (refine cl_drawi 53 D12_53 (List.range 11) (by decide) (by kernel_rfl) ?_; unfold D12_53)); simp only [S, TY, reduceCtorEq, nq0, nq1, nq2, nq3, nq4, iq0, iq1, iq2, iq3, iq4, iq5, iq6, iq7, iq8, q1, q9, q10, q14, q12, q13, k1, k2]; (try (simp (disch := omega) only [W2, Int.cast_ofNat_Int]; (try simp only [S, TY, reduceCtorEq, nq0, nq1, nq2, nq3, nq4, iq0, iq1, iq2, iq3, iq4, iq5, iq6, iq7, iq8, q1, q9, q10, q14, q12, q13, k1, k2])))))
            refine Lost_ok.at_ h13 [0] _ rfl fun r B H14 hr h14 => ?_
            obtain ⟨rfl, rfl⟩ := hr
            simp only [front_eq, fronts_nil, fronts_cons, List.getElem?_cons_zero, List.getElem?_cons_succ, List.eraseIdx_cons_zero, List.eraseIdx_cons_succ, List.cons_append, List.nil_append, putL_cons, putL_nil, List.set_cons_zero, List.set_cons_succ, Nat.reduceAdd] at h14
            ((try simp only [S, TY, reduceCtorEq, nq0, nq1, nq2, nq3, nq4, iq0, iq1, iq2, iq3, iq4, iq5, iq6, iq7, iq8, q1, q9, q10, q14, q12, q13, k1, k2, k3, gi]); (try (simp (disch := omega) only [W2, Int.cast_ofNat_Int]; (try simp only [S, TY, reduceCtorEq, nq0, nq1, nq2, nq3, nq4, iq0, iq1, iq2, iq3, iq4, iq5, iq6, iq7, iq8, q1, q9, q10, q14, q12, q13, k1, k2, k3, gi]))); repeat ((first | (refine cl_drawi 53 D12_53 (List.range 11) (by decide) (by kernel_rfl) ?_; unfold D12_53)); simp only [S, TY, reduceCtorEq, nq0, nq1, nq2, nq3, nq4, iq0, iq1, iq2, iq3, iq4, iq5, iq6, iq7, iq8, q1, q9, q10, q14, q12, q13, k1, k2, k3, gi]; (try (simp (disch := omega) only [W2, Int.cast_ofNat_Int]; (try simp only [S, TY, reduceCtorEq, nq0, nq1, nq2, nq3, nq4, iq0, iq1, iq2, iq3, iq4, iq5, iq6, iq7, iq8, q1, q9, q10, q14, q12, q13, k1, k2, k3, gi])))))
            refine .go (i + 1) (by omega) ⟨by omega, q1, q2, q9, q10, rfl, put + yl.length, taken, m', rfl, q13, hI', ⟨h14.1, seps_take (B := [_]) h14.2⟩⟩
          · by_cases g8 : k.tmod 9 = 1
            · ((try simp only [S, TY, reduceCtorEq, nq0, nq1, nq2, nq3, nq4, iq0, iq1, iq2, iq3, iq4, iq5, iq6, iq7, iq8, q1, q2, q9, q10, q12, q13, q14, g1, g0, d0, d1, d2, n9, g4, g5, g6, g7, g8]); (try (simp (disch := omega) only [W2, Int.cast_ofNat_Int]; (try simp only [S, TY, reduceCtorEq, nq0, nq1, nq2, nq3, nq4, iq0, iq1, iq2, iq3, iq4, iq5, iq6, iq7, iq8, q1, q2, q9, q10, q12, q13, q14, g1, g0, d0, d1, d2, n9, g4, g5, g6, g7, g8]))); repeat ((first | (refine cl_drawi 53 D12_53 (List.range 11) (by decide) (by kernel_rfl) ?_; unfold D12_53)); simp only [S, TY, reduceCtorEq, nq0, nq1, nq2, nq3, nq4, iq0, iq1, iq2, iq3, iq4, iq5, iq6, iq7, iq8, q1, q2, q9, q10, q12, q13, q14, g1, g0, d0, d1, d2, n9, g4, g5, g6, g7, g8]; (try (simp (disch := omega) only [W2, Int.cast_ofNat_Int]; (try simp only [S, TY, reduceCtorEq, nq0, nq1, nq2, nq3, nq4, iq0, iq1, iq2, iq3, iq4, iq5, iq6, iq7, iq8, q1, q2, q9, q10, q12, q13, q14, g1, g0, d0, d1, d2, n9, g4, g5, g6, g7, g8])))))
              refine (Put_ok hI.w (by omega) (by omega) hr0 hb1).at_ h [0] _ rfl fun r B H2 hr h2 => ?_
              obtain ⟨rfl, rfl⟩ := hr
              simp only [front_eq, fronts_nil, fronts_cons, List.getElem?_cons_zero, List.getElem?_cons_succ, List.eraseIdx_cons_zero, List.eraseIdx_cons_succ, List.cons_append, List.nil_append, putL_cons, putL_nil, List.set_cons_zero, List.set_cons_succ, Nat.reduceAdd] at h2
              obtain ⟨z1, z2, z3, _⟩ := puts_facts m (yl.map (·.1))
              have hw' := wf_puts hI.w (yl.map (·.1))
              rw [List.length_map] at z1 hw'
              obtain ⟨m', hm'⟩ : ∃ z, (m.puts (yl.map (·.1))).1 = z := ⟨_, rfl⟩
              rw [hm'] at h2 z1 z2 z3 hw'
              have hI' : Inv (i + 1) sz (put + yl.length) taken m' := ⟨hw'.mono (by omega), by rw [z3]; exact hI.r, by have := hI.s; omega, by have := hI.p; omega, by have := hI.t; omega⟩
              have d1' := h2.roc dd1
              have k4' := hI.p
              ((try simp only [S, TY, reduceCtorEq, nq0, nq1, nq2, nq3, nq4, iq0, iq1, iq2, iq3, iq4, iq5, iq6, iq7, iq8, q1, q2, q9, q10, q12, q13, q14, g0, d1']); (try (simp (disch := omega) only [W2, Int.cast_ofNat_Int]; (try simp only [S, TY, reduceCtorEq, nq0, nq1, nq2, nq3, nq4, iq0, iq1, iq2, iq3, iq4, iq5, iq6, iq7, iq8, q1, q2, q9, q10, q12, q13, q14, g0, d1']))); repeat ((first | (refine cl_drawi 53 D12_53 (List.range 11) (by decide) (by kernel_rfl) ?_; unfold D12_53)); simp only [S, TY, reduceCtorEq, nq0, nq1, nq2, nq3, nq4, iq0, iq1, iq2, iq3, iq4, iq5, iq6, iq7, iq8, q1, q2, q9, q10, q12, q13, q14, g0, d1']; (try (simp (disch := omega) only [W2, Int.cast_ofNat_Int]; (try simp only [S, TY, reduceCtorEq, nq0, nq1, nq2, nq3, nq4, iq0, iq1, iq2, iq3, iq4, iq5, iq6, iq7, iq8, q1, q2, q9, q10, q12, q13, q14, g0, d1'])))))
              refine Len_ok.at_ h2 [0] _ rfl fun r B H11 hr h11 => ?_
              obtain ⟨rfl, rfl⟩ := hr
              simp only [front_eq, fronts_nil, fronts_cons, List.getElem?_cons_zero, List.getElem?_cons_succ, List.eraseIdx_cons_zero, List.eraseIdx_cons_succ, List.cons_append, List.nil_append, putL_cons, putL_nil, List.set_cons_zero, List.set_cons_succ, Nat.reduceAdd] at h11
              have k1 : ¬ ((m'.l.length : Nat) : Int) < 0 := by omega
              have k2 : ¬ (sz : Int) < ((m'.l.length : Nat) : Int) := by have := hI'.w.l; have := hI'.r; omega
              have k3 : ((m'.l.length : Nat) : Int) + ((taken : Int)) + m'.lost = (put : Int) + yl.length := by have := hI'.s; omega
              have k4 := hI'.p
              have k5 := hI'.t
              have k6 := hI'.w.t
              have k7 := hI'.w.l
              have k8 := hI'.w.r
              have gi : IntKind.i64.wrap ((i : Int) + 1) = (i : Int) + 1 := by rw [wrap_id] <;> omega
              ((try simp only [S, TY, reduceCtorEq, nq0, nq1, nq2, nq3, nq4, iq0, iq1, iq2, iq3, iq4, iq5, iq6, iq7, iq8, q1, q9, q10, q14, q12, q13, k1]); (try (simp (disch := omega) only [W2, Int.cast_ofNat_Int]; (try simp only [S, TY, reduceCtorEq, nq0, nq1, nq2, nq3, nq4, iq0, iq1, iq2, iq3, iq4, iq5, iq6, iq7, iq8, q1, q9, q10, q14, q12, q13, k1]))); repeat ((first | (refine cl_drawi 53 D12_53 (List.range 11) (by decide) (by kernel_rfl) ?_; unfold D12_53)); simp only [S, TY, reduceCtorEq, nq0, nq1, nq2, nq3, nq4, iq0, iq1, iq2, iq3, iq4, iq5, iq6, iq7, iq8, q1, q9, q10, q14, q12, q13, k1]; (try (simp (disch := omega) only [W2, Int.cast_ofNat_Int]; (try simp only [S, TY, reduceCtorEq, nq0, nq1, nq2, nq3, nq4, iq0, iq1, iq2, iq3, iq4, iq5, iq6, iq7, iq8, q1, q9, q10, q14, q12, q13, k1])))))
              refine Len_ok.at_ h11 [0] _ rfl fun r B H12 hr h12 => ?_
              obtain ⟨rfl, rfl⟩ := hr
              simp only [front_eq, fronts_nil, fronts_cons, List.getElem?_cons_zero, List.getElem?_cons_succ, List.eraseIdx_cons_zero, List.eraseIdx_cons_succ, List.cons_append, List.nil_append, putL_cons, putL_nil, List.set_cons_zero, List.set_cons_succ, Nat.reduceAdd] at h12
              ((try simp only [S, TY, reduceCtorEq, nq0, nq1, nq2, nq3, nq4, iq0, iq1, iq2, iq3, iq4, iq5, iq6, iq7, iq8, q1, q9, q10, q14, q12, q13, k1, k2]); (try (simp (disch := omega) only [W2, Int.cast_ofNat_Int]; (try simp only [S, TY, reduceCtorEq, nq0, nq1, nq2, nq3, nq4, iq0, iq1, iq2, iq3, iq4, iq5, iq6, iq7, iq8, q1, q9, q10, q14, q12, q13, k1, k2]))); repeat ((first | (refine cl_drawi 53 D12_53 (List.range 11) (by decide) (by kernel_rfl) ?_; unfold D12_53)); simp only [S, TY, reduceCtorEq, nq0, nq1, nq2, nq3, nq4, iq0, iq1, iq2, iq3, iq4, iq5, iq6, iq7, iq8, q1, q9, q10, q14, q12, q13, k1, k2]; (try (simp (disch := omega) only [W2, Int.cast_ofNat_Int]; (try simp only [S, TY, reduceCtorEq, nq0, nq1, nq2, nq3, nq4, iq0, iq1, iq2, iq3, iq4, iq5, iq6, iq7, iq8, q1, q9, q10, q14, q12, q13, k1, k2])))))
              refine Len_ok.at_ h12 [0] _ rfl fun r B H13 hr h13 => ?_
              obtain ⟨rfl, rfl⟩ := hr
              simp only [front_eq, fronts_nil, fronts_cons, List.getElem?_cons_zero, List.getElem?_cons_succ, List.eraseIdx_cons_zero, List.eraseIdx_cons_succ, List.cons_append, List.nil_append, putL_cons, putL_nil, List.set_cons_zero, List.set_cons_succ, Nat.reduceAdd] at h13
              ((try simp only [S, TY, reduceCtorEq, nq0, nq1, nq2, nq3, nq4, iq0, iq1, iq2, iq3, iq4, iq5, iq6, iq7, iq8, q1, q9, q10, q14, q12, q13, k1, k2]); (try (simp (disch := omega) only [W2, Int.cast_ofNat_Int]; (try simp only [S, TY, reduceCtorEq, nq0, nq1, nq2, nq3, nq4, iq0, iq1, iq2, iq3, iq4, iq5, iq6, iq7, iq8, q1, q9, q10, q14, q12, q13, k1, k2]))); repeat ((first | (refine cl_drawi 53 D12_53 (List.range 11) (by decide) (by kernel_rfl) ?_; unfold D12_53)); simp only [S, TY, reduceCtorEq, nq0, nq1, nq2, nq3, nq4, iq0, iq1, iq2, iq3, iq4, iq5, iq6, iq7, iq8, q1, q9, q10, q14, q12, q13, k1, k2]; (try (simp (disch := omega) only [W2, Int.cast_ofNat_Int]; (try simp only [S, TY, reduceCtorEq, nq0, nq1, nq2, nq3, nq4, iq0, iq1, iq2, iq3, iq4, iq5, iq6, iq7, iq8, q1, q9, q10, q14, q12, q13, k1, k2])))))
              refine Lost_ok.at_ h13 [0] _ rfl fun r B H14 hr h14 => ?_
              obtain ⟨rfl, rfl⟩ := hr
              simp only [front_eq, fronts_nil, fronts_cons, List.getElem?_cons_zero, List.getElem?_cons_succ, List.eraseIdx_cons_zero, List.eraseIdx_cons_succ, List.cons_append, List.nil_append, putL_cons, putL_nil, List.set_cons_zero, List.set_cons_succ, Nat.reduceAdd] at h14
              ((try simp only [S, TY, reduceCtorEq, nq0, nq1, nq2, nq3, nq4, iq0, iq1, iq2, iq3, iq4, iq5, iq6, iq7, iq8, q1, q9, q10, q14, q12, q13, k1, k2, k3, gi]); (try (simp (disch := omega) only [W2, Int.cast_ofNat_Int]; (try simp only [S, TY, reduceCtorEq, nq0, nq1, nq2, nq3, nq4, iq0, iq1, iq2, iq3, iq4, iq5, iq6, iq7, iq8, q1, q9, q10, q14, q12, q13, k1, k2, k3, gi]))); repeat ((first | (refine cl_drawi 53 D12_53 (List.range 11) (by decide) (by kernel_rfl) ?_; unfold D12_53)); simp only [S, TY, reduceCtorEq, nq0, nq1, nq2, nq3, nq4, iq0, iq1, iq2, iq3, iq4, iq5, iq6, iq7, iq8, q1, q9, q10, q14, q12, q13, k1, k2, k3, gi]; (try (simp (disch := omega) only [W2, Int.cast_ofNat_Int]; (try simp only [S, TY, reduceCtorEq, nq0, nq1, nq2, nq3, nq4, iq0, iq1, iq2, iq3, iq4, iq5, iq6, iq7, iq8, q1, q9, q10, q14, q12, q13, k1, k2, k3, gi])))))
              refine .go (i + 1) (by omega) ⟨by omega, q1, q2, q9, q10, rfl, put + yl.length, taken, m', rfl, q13, hI', ⟨h14.1, seps_take (B := [_]) h14.2⟩⟩
            · by_cases g9 : k.tmod 9 = 2
              · ((try simp only [S, TY, reduceCtorEq, nq0, nq1, nq2, nq3, nq4, iq0, iq1, iq2, iq3, iq4, iq5, iq6, iq7, iq8, q1, q2, q9, q10, q12, q13, q14, g1, g0, d0, d1, d2, n9, g4, g5, g6, g7, g8, g9]); (try (simp (disch := omega) only [W2, Int.cast_ofNat_Int]; (try simp only [S, TY, reduceCtorEq, nq0, nq1, nq2, nq3, nq4, iq0, iq1, iq2, iq3, iq4, iq5, iq6, iq7, iq8, q1, q2, q9, q10, q12, q13, q14, g1, g0, d0, d1, d2, n9, g4, g5, g6, g7, g8, g9]))); repeat ((first | (refine cl_drawi 53 D12_53 (List.range 11) (by decide) (by kernel_rfl) ?_; unfold D12_53)); simp only [S, TY, reduceCtorEq, nq0, nq1, nq2, nq3, nq4, iq0, iq1, iq2, iq3, iq4, iq5, iq6, iq7, iq8, q1, q2, q9, q10, q12, q13, q14, g1, g0, d0, d1, d2, n9, g4, g5, g6, g7, g8, g9]; (try (simp (disch := omega) only [W2, Int.cast_ofNat_Int]; (try simp only [S, TY, reduceCtorEq, nq0, nq1, nq2, nq3, nq4, iq0, iq1, iq2, iq3, iq4, iq5, iq6, iq7, iq8, q1, q2, q9, q10, q12, q13, q14, g1, g0, d0, d1, d2, n9, g4, g5, g6, g7, g8, g9])))))
                refine (Put_ok hI.w (by omega) (by omega) hr0 hb1).at_ h [0] _ rfl fun r B H2 hr h2 => ?_
                obtain ⟨rfl, rfl⟩ := hr
                simp only [front_eq, fronts_nil, fronts_cons, List.getElem?_cons_zero, List.getElem?_cons_succ, List.eraseIdx_cons_zero, List.eraseIdx_cons_succ, List.cons_append, List.nil_append, putL_cons, putL_nil, List.set_cons_zero, List.set_cons_succ, Nat.reduceAdd] at h2
                obtain ⟨z1, z2, z3, _⟩ := puts_facts m (yl.map (·.1))
                have hw' := wf_puts hI.w (yl.map (·.1))
                rw [List.length_map] at z1 hw'
                obtain ⟨m', hm'⟩ : ∃ z, (m.puts (yl.map (·.1))).1 = z := ⟨_, rfl⟩
                rw [hm'] at h2 z1 z2 z3 hw'
                have hI' : Inv (i + 1) sz (put + yl.length) taken m' := ⟨hw'.mono (by omega), by rw [z3]; exact hI.r, by have := hI.s; omega, by have := hI.p; omega, by have := hI.t; omega⟩
                have d1' := h2.roc dd1
                have k4' := hI.p
                ((try simp only [S, TY, reduceCtorEq, nq0, nq1, nq2, nq3, nq4, iq0, iq1, iq2, iq3, iq4, iq5, iq6, iq7, iq8, q1, q2, q9, q10, q12, q13, q14, g0, d1']); (try (simp (disch := omega) only [W2, Int.cast_ofNat_Int]; (try simp only [S, TY, reduceCtorEq, nq0, nq1, nq2, nq3, nq4, iq0, iq1, iq2, iq3, iq4, iq5, iq6, iq7, iq8, q1, q2, q9, q10, q12, q13, q14, g0, d1']))); repeat ((first | (refine cl_drawi 53 D12_53 (List.range 11) (by decide) (by kernel_rfl) ?_; unfold D12_53)); simp only [S, TY, reduceCtorEq, nq0, nq1, nq2, nq3, nq4, iq0, iq1, iq2, iq3, iq4, iq5, iq6, iq7, iq8, q1, q2, q9, q10, q12, q13, q14, g0, d1']; (try (simp (disch := omega) only [W2, Int.cast_ofNat_Int]; (try simp only [S, TY, reduceCtorEq, nq0, nq1, nq2, nq3, nq4, iq0, iq1, iq2, iq3, iq4, iq5, iq6, iq7, iq8, q1, q2, q9, q10, q12, q13, q14, g0, d1'])))))
                refine Len_ok.at_ h2 [0] _ rfl fun r B H11 hr h11 => ?_
                obtain ⟨rfl, rfl⟩ := hr
                simp only [front_eq, fronts_nil, fronts_cons, List.getElem?_cons_zero, List.getElem?_cons_succ, List.eraseIdx_cons_zero, List.eraseIdx_cons_succ, List.cons_append, List.nil_append, putL_cons, putL_nil, List.set_cons_zero, List.set_cons_succ, Nat.reduceAdd] at h11
                have k1 : ¬ ((m'.l.length : Nat) : Int) < 0 := by omega
                have k2 : ¬ (sz : Int) < ((m'.l.length : Nat) : Int) := by have := hI'.w.l; have := hI'.r; omega
                have k3 : ((m'.l.length : Nat) : Int) + ((taken : Int)) + m'.lost = (put : Int) + yl.length := by have := hI'.s; omega
                have k4 := hI'.p
                have k5 := hI'.t
                have k6 := hI'.w.t
                have k7 := hI'.w.l
                have k8 := hI'.w.r
                have gi : IntKind.i64.wrap ((i : Int) + 1) = (i : Int) + 1 := by rw [wrap_id] <;> omega
                ((try simp only [S, TY, reduceCtorEq, nq0, nq1, nq2, nq3, nq4, iq0, iq1, iq2, iq3, iq4, iq5, iq6, iq7, iq8, q1, q9, q10, q14, q12, q13, k1]); (try (simp (disch := omega) only [W2, Int.cast_ofNat_Int]; (try simp only [S, TY, reduceCtorEq, nq0, nq1, nq2, nq3, nq4, iq0, iq1, iq2, iq3, iq4, iq5, iq6, iq7, iq8, q1, q9, q10, q14, q12, q13, k1]))); repeat ((first | (refine cl_drawi 53 D12_53 (List.range 11) (by decide) (by kernel_rfl) ?_; unfold D12_53)); simp only [S, TY, reduceCtorEq, nq0, nq1, nq2, nq3, nq4, iq0, iq1, iq2, iq3, iq4, iq5, iq6, iq7, iq8, q1, q9, q10, q14, q12, q13, k1]; (try (simp (disch := omega) only [W2, Int.cast_ofNat_Int]; (try simp only [S, TY, reduceCtorEq, nq0, nq1, nq2, nq3, nq4, iq0, iq1, iq2, iq3, iq4, iq5, iq6, iq7, iq8, q1, q9, q10, q14, q12, q13, k1])))))
                refine Len_ok.at_ h11 [0] _ rfl fun r B H12 hr h12 => ?_
                obtain ⟨rfl, rfl⟩ := hr
                simp only [front_eq, fronts_nil, fronts_cons, List.getElem?_cons_zero, List.getElem?_cons_succ, List.eraseIdx_cons_zero, List.eraseIdx_cons_succ, List.cons_append, List.nil_append, putL_cons, putL_nil, List.set_cons_zero, List.set_cons_succ, Nat.reduceAdd] at h12
                ((try simp only [S, TY, reduceCtorEq, nq0, nq1, nq2, nq3, nq4, iq0, iq1, iq2, iq3, iq4, iq5, iq6, iq7, iq8, q1, q9, q10, q14, q12, q13, k1, k2]); (try (simp (disch := omega) only [W2, Int.cast_ofNat_Int]; (try simp only [S, TY, reduceCtorEq, nq0, nq1, nq2, nq3, nq4, iq0, iq1, iq2, iq3, iq4, iq5, iq6, iq7, iq8, q1, q9, q10, q14, q12, q13, k1, k2]))); repeat ((first | (refine cl_drawi 53 D12_53 (List.range 11) (by decide) (by kernel_rfl) ?_; unfold D12_53)); simp only [S, TY, reduceCtorEq, nq0, nq1, nq2, nq3, nq4, iq0, iq1, iq2, iq3, iq4, iq5, iq6, iq7, iq8, q1, q9, q10, q14, q12, q13, k1, k2]; (try (simp (disch := omega) only [W2, Int.cast_ofNat_Int]; (try simp only [S, TY, reduceCtorEq, nq0, nq1, nq2, nq3, nq4, iq0, iq1, iq2, iq3, iq4, iq5, iq6, iq7, iq8, q1, q9, q10, q14, q12, q13, k1, k2])))))
                refine Len_ok.at_ h12 [0] _ rfl fun r B H13 hr h13 => ?_
                obtain ⟨rfl, rfl⟩ := hr
                simp only [front_eq, fronts_nil, fronts_cons, List.getElem?_cons_zero, List.getElem?_cons_succ, List.eraseIdx_cons_zero, List.eraseIdx_cons_succ, List.cons_append, List.nil_append, putL_cons, putL_nil, List.set_cons_zero, List.set_cons_succ, Nat.reduceAdd] at h13
                ((try simp only [S, TY, reduceCtorEq, nq0, nq1, nq2, nq3, nq4, iq0, iq1, iq2, iq3, iq4, iq5, iq6, iq7, iq8, q1, q9, q10, q14, q12, q13, k1, k2]); (try (simp (disch := omega) only [W2, Int.cast_ofNat_Int]; (try simp only [S, TY, reduceCtorEq, nq0, nq1, nq2, nq3, nq4, iq0, iq1, iq2, iq3, iq4, iq5, iq6, iq7, iq8, q1, q9, q10, q14, q12, q13, k1, k2]))); repeat ((first | (refine cl_drawi 53 D12_53 (List.range 11) (by decide) (by kernel_rfl) ?_; unfold D12_53)); simp only [S, TY, reduceCtorEq, nq0, nq1, nq2, nq3, nq4, iq0, iq1, iq2, iq3, iq4, iq5, iq6, iq7, iq8, q1, q9, q10, q14, q12, q13, k1, k2]; (try (simp (disch := omega) only [W2, Int.cast_ofNat_Int]; (try simp only [S, TY, reduceCtorEq, nq0, nq1, nq2, nq3, nq4, iq0, iq1, iq2, iq3, iq4, iq5, iq6, iq7, iq8, q1, q9, q10, q14, q12, q13, k1, k2])))))
                refine Lost_ok.at_ h13 [0] _ rfl fun r B H14 hr h14 => ?_
                obtain ⟨rfl, rfl⟩ := hr
                simp only [front_eq, fronts_nil, fronts_cons, List.getElem?_cons_zero, List.getElem?_cons_succ, List.eraseIdx_cons_zero, List.eraseIdx_cons_succ, List.cons_append, List.nil_append, putL_cons, putL_nil, List.set_cons_zero, List.set_cons_succ, Nat.reduceAdd] at h14
                ((try simp only [S, TY, reduceCtorEq, nq0, nq1, nq2, nq3, nq4, iq0, iq1, iq2, iq3, iq4, iq5, iq6, iq7, iq8, q1, q9, q10, q14, q12, q13, k1, k2, k3, gi]); (try (simp (disch := omega) only [W2, Int.cast_ofNat_Int]; (try simp only [S, TY, reduceCtorEq, nq0, nq1, nq2, nq3, nq4, iq0, iq1, iq2, iq3, iq4, iq5, iq6, iq7, iq8, q1, q9, q10, q14, q12, q13, k1, k2, k3, gi]))); repeat ((first | (refine cl_drawi 53 D12_53 (List.range 11) (by decide) (by kernel_rfl) ?_; unfold D12_53)); simp only [S, TY, reduceCtorEq, nq0, nq1, nq2, nq3, nq4, iq0, iq1, iq2, iq3, iq4, iq5, iq6, iq7, iq8, q1, q9, q10, q14, q12, q13, k1, k2, k3, gi]; (try (simp (disch := omega) only [W2, Int.cast_ofNat_Int]; (try simp only [S, TY, reduceCtorEq, nq0, nq1, nq2, nq3, nq4, iq0, iq1, iq2, iq3, iq4, iq5, iq6, iq7, iq8, q1, q9, q10, q14, q12, q13, k1, k2, k3, gi])))))
                refine .go (i + 1) (by omega) ⟨by omega, q1, q2, q9, q10, rfl, put + yl.length, taken, m', rfl, q13, hI', ⟨h14.1, seps_take (B := [_]) h14.2⟩⟩
              · by_cases g10 : k.tmod 9 = 3
                · ((try simp only [S, TY, reduceCtorEq, nq0, nq1, nq2, nq3, nq4, iq0, iq1, iq2, iq3, iq4, iq5, iq6, iq7, iq8, q1, q2, q9, q10, q12, q13, q14, g1, g0, d0, d1, d2, n9, g4, g5, g6, g7, g8, g9, g10]); (try (simp (disch := omega) only [W2, Int.cast_ofNat_Int]; (try simp only [S, TY, reduceCtorEq, nq0, nq1, nq2, nq3, nq4, iq0, iq1, iq2, iq3, iq4, iq5, iq6, iq7, iq8, q1, q2, q9, q10, q12, q13, q14, g1, g0, d0, d1, d2, n9, g4, g5, g6, g7, g8, g9, g10]))); repeat ((first | (refine cl_drawi 53 D12_53 (List.range 11) (by decide) (by kernel_rfl) ?_; unfold D12_53)); simp only [S, TY, reduceCtorEq, nq0, nq1, nq2, nq3, nq4, iq0, iq1, iq2, iq3, iq4, iq5, iq6, iq7, iq8, q1, q2, q9, q10, q12, q13, q14, g1, g0, d0, d1, d2, n9, g4, g5, g6, g7, g8, g9, g10]; (try (simp (disch := omega) only [W2, Int.cast_ofNat_Int]; (try simp only [S, TY, reduceCtorEq, nq0, nq1, nq2, nq3, nq4, iq0, iq1, iq2, iq3, iq4, iq5, iq6, iq7, iq8, q1, q2, q9, q10, q12, q13, q14, g1, g0, d0, d1, d2, n9, g4, g5, g6, g7, g8, g9, g10])))))
                  refine (Put_ok hI.w (by omega) (by omega) hr0 hb1).at_ h [0] _ rfl fun r B H2 hr h2 => ?_
                  obtain ⟨rfl, rfl⟩ := hr
                  simp only [front_eq, fronts_nil, fronts_cons, List.getElem?_cons_zero, List.getElem?_cons_succ, List.eraseIdx_cons_zero, List.eraseIdx_cons_succ, List.cons_append, List.nil_append, putL_cons, putL_nil, List.set_cons_zero, List.set_cons_succ, Nat.reduceAdd] at h2
                  obtain ⟨z1, z2, z3, _⟩ := puts_facts m (yl.map (·.1))
                  have hw' := wf_puts hI.w (yl.map (·.1))
                  rw [List.length_map] at z1 hw'
                  obtain ⟨m', hm'⟩ : ∃ z, (m.puts (yl.map (·.1))).1 = z := ⟨_, rfl⟩
                  rw [hm'] at h2 z1 z2 z3 hw'
                  have hI' : Inv (i + 1) sz (put + yl.length) taken m' := ⟨hw'.mono (by omega), by rw [z3]; exact hI.r, by have := hI.s; omega, by have := hI.p; omega, by have := hI.t; omega⟩
                  have d1' := h2.roc dd1
                  have k4' := hI.p
                  ((try simp only [S, TY, reduceCtorEq, nq0, nq1, nq2, nq3, nq4, iq0, iq1, iq2, iq3, iq4, iq5, iq6, iq7, iq8, q1, q2, q9, q10, q12, q13, q14, g0, d1']); (try (simp (disch := omega) only [W2, Int.cast_ofNat_Int]; (try simp only [S, TY, reduceCtorEq, nq0, nq1, nq2, nq3, nq4, iq0, iq1, iq2, iq3, iq4, iq5, iq6, iq7, iq8, q1, q2, q9, q10, q12, q13, q14, g0, d1']))); repeat ((first | (refine cl_drawi 53 D12_53 (List.range 11) (by decide) (by kernel_rfl) ?_; unfold D12_53)); simp only [S, TY, reduceCtorEq, nq0, nq1, nq2, nq3, nq4, iq0, iq1, iq2, iq3, iq4, iq5, iq6, iq7, iq8, q1, q2, q9, q10, q12, q13, q14, g0, d1']; (try (simp (disch := omega) only [W2, Int.cast_ofNat_Int]; (try simp only [S, TY, reduceCtorEq, nq0, nq1, nq2, nq3, nq4, iq0, iq1, iq2, iq3, iq4, iq5, iq6, iq7, iq8, q1, q2, q9, q10, q12, q13, q14, g0, d1'])))))
                  refine Len_ok.at_ h2 [0] _ rfl fun r B H11 hr h11 => ?_
                  obtain ⟨rfl, rfl⟩ := hr
                  simp only [front_eq, fronts_nil, fronts_cons, List.getElem?_cons_zero, List.getElem?_cons_succ, List.eraseIdx_cons_zero, List.eraseIdx_cons_succ, List.cons_append, List.nil_append, putL_cons, putL_nil, List.set_cons_zero, List.set_cons_succ, Nat.reduceAdd] at h11
                  have k1 : ¬ ((m'.l.length : Nat) : Int) < 0 := by omega
                  have k2 : ¬ (sz : Int) < ((m'.l.length : Nat) : Int) := by have := hI'.w.l; have := hI'.r; omega
                  have k3 : ((m'.l.length : Nat) : Int) + ((taken : Int)) + m'.lost = (put : Int) + yl.length := by have := hI'.s; omega
                  have k4 := hI'.p
                  have k5 := hI'.t
                  have k6 := hI'.w.t
                  have k7 := hI'.w.l
                  have k8 := hI'.w.r
                  have gi : IntKind.i64.wrap ((i : Int) + 1) = (i : Int) + 1 := by rw [wrap_id] <;> omega
                  ((try simp only [S, TY, reduceCtorEq, nq0, nq1, nq2, nq3, nq4, iq0, iq1, iq2, iq3, iq4, iq5, iq6, iq7, iq8, q1, q9, q10, q14, q12, q13, k1]); (try (simp (disch := omega) only [W2, Int.cast_ofNat_Int]; (try simp only [S, TY, reduceCtorEq, nq0, nq1, nq2, nq3, nq4, iq0, iq1, iq2, iq3, iq4, iq5, iq6, iq7, iq8, q1, q9, q10, q14, q12, q13, k1]))); repeat ((first | (refine cl_drawi 53 D12_53 (List.range 11) (by decide) (by kernel_rfl) ?_; unfold D12_53)); simp only [S, TY, reduceCtorEq, nq0, nq1, nq2, nq3, nq4, iq0, iq1, iq2, iq3, iq4, iq5, iq6, iq7, iq8, q1, q9, q10, q14, q12, q13, k1]; (try (simp (disch := omega) only [W2, Int.cast_ofNat_Int]; (try simp only [S, TY, reduceCtorEq, nq0, nq1, nq2, nq3, nq4, iq0, iq1, iq2, iq3, iq4, iq5, iq6, iq7, iq8, q1, q9, q10, q14, q12, q13, k1])))))
                  refine Len_ok.at_ h11 [0] _ rfl fun r B H12 hr h12 => ?_
                  obtain ⟨rfl, rfl⟩ := hr
                  simp only [front_eq, fronts_nil, fronts_cons, List.getElem?_cons_zero, List.getElem?_cons_succ, List.eraseIdx_cons_zero, List.eraseIdx_cons_succ, List.cons_append, List.nil_append, putL_cons, putL_nil, List.set_cons_zero, List.set_cons_succ, Nat.reduceAdd] at h12
                  ((try simp only [S, TY, reduceCtorEq, nq0, nq1, nq2, nq3, nq4, iq0, iq1, iq2, iq3, iq4, iq5, iq6, iq7, iq8, q1, q9, q10, q14, q12, q13, k1, k2]); (try (simp (disch := omega) only [W2, Int.cast_ofNat_Int]; (try simp only [S, TY, reduceCtorEq, nq0, nq1, nq2, nq3, nq4, iq0, iq1, iq2, iq3, iq4, iq5, iq6, iq7, iq8, q1, q9, q10, q14, q12, q13, k1, k2]))); repeat ((first | (refine cl_drawi 53 D12_53 (List.range 11) (by decide) (by kernel_rfl) ?_; unfold D12_53)); simp only [S, TY, reduceCtorEq, nq0, nq1, nq2, nq3, nq4, iq0, iq1, iq2, iq3, iq4, iq5, iq6, iq7, iq8, q1, q9, q10, q14, q12, q13, k1, k2]; (try (simp (disch := omega) only [W2, Int.cast_ofNat_Int]; (try simp only [S, TY, reduceCtorEq, nq0, nq1, nq2, nq3, nq4, iq0, iq1, iq2, iq3, iq4, iq5, iq6, iq7, iq8, q1, q9, q10, q14, q12, q13, k1, k2])))))
                  refine Len_ok.at_ h12 [0] _ rfl fun r B H13 hr h13 => ?_
                  obtain ⟨rfl, rfl⟩ := hr
                  simp only [front_eq, fronts_nil, fronts_cons, List.getElem?_cons_zero, List.getElem?_cons_succ, List.eraseIdx_cons_zero, List.eraseIdx_cons_succ, List.cons_append, List.nil_append, putL_cons, putL_nil, List.set_cons_zero, List.set_cons_succ, Nat.reduceAdd] at h13
                  ((try simp only [S, TY, reduceCtorEq, nq0, nq1, nq2, nq3, nq4, iq0, iq1, iq2, iq3, iq4, iq5, iq6, iq7, iq8, q1, q9, q10, q14, q12, q13, k1, k2]); (try (simp (disch := omega) only [W2, Int.cast_ofNat_Int]; (try simp only [S, TY, reduceCtorEq, nq0, nq1, nq2, nq3, nq4, iq0, iq1, iq2, iq3, iq4, iq5, iq6, iq7, iq8, q1, q9, q10, q14, q12, q13, k1, k2]))); repeat ((first | (refine cl_drawi 53 D12_53 (List.range 11) (by decide) (by kernel_rfl) ?_; unfold D12_53)); simp only [S, TY, reduceCtorEq, nq0, nq1, nq2, nq3, nq4, iq0, iq1, iq2, iq3, iq4, iq5, iq6, iq7, iq8, q1, q9, q10, q14, q12, q13, k1, k2]; (try (simp (disch := omega) only [W2, Int.cast_ofNat_Int]; (try simp only [S, TY, reduceCtorEq, nq0, nq1, nq2, nq3, nq4, iq0, iq1, iq2, iq3, iq4, iq5, iq6, iq7, iq8, q1, q9, q10, q14, q12, q13, k1, k2])))))
                  refine Lost_ok.at_ h13 [0] _ rfl fun r B H14 hr h14 => ?_
                  obtain ⟨rfl, rfl⟩ := hr
                  simp only [front_eq, fronts_nil, fronts_cons, List.getElem?_cons_zero, List.getElem?_cons_succ, List.eraseIdx_cons_zero, List.eraseIdx_cons_succ, List.cons_append, List.nil_append, putL_cons, putL_nil, List.set_cons_zero, List.set_cons_succ, Nat.reduceAdd] at h14
                  ((try simp only [S, TY, reduceCtorEq, nq0, nq1, nq2, nq3, nq4, iq0, iq1, iq2, iq3, iq4, iq5, iq6, iq7, iq8, q1, q9, q10, q14, q12, q13, k1, k2, k3, gi]); (try (simp (disch := omega) only [W2, Int.cast_ofNat_Int]; (try simp only [S, TY, reduceCtorEq, nq0, nq1, nq2, nq3, nq4, iq0, iq1, iq2, iq3, iq4, iq5, iq6, iq7, iq8, q1, q9, q10, q14, q12, q13, k1, k2, k3, gi]))); repeat ((first | (refine cl_drawi 53 D12_53 (List.range 11) (by decide) (by kernel_rfl) ?_; unfold D12_53)); simp only [S, TY, reduceCtorEq, nq0, nq1, nq2, nq3, nq4, iq0, iq1, iq2, iq3, iq4, iq5, iq6, iq7, iq8, q1, q9, q10, q14, q12, q13, k1, k2, k3, gi]; (try (simp (disch := omega) only [W2, Int.cast_ofNat_Int]; (try simp only [S, TY, reduceCtorEq, nq0, nq1, nq2, nq3, nq4, iq0, iq1, iq2, iq3, iq4, iq5, iq6, iq7, iq8, q1, q9, q10, q14, q12, q13, k1, k2, k3, gi])))))
                  refine .go (i + 1) (by omega) ⟨by omega, q1, q2, q9, q10, rfl, put + yl.length, taken, m', rfl, q13, hI', ⟨h14.1, seps_take (B := [_]) h14.2⟩⟩
                · ((try simp only [S, TY, reduceCtorEq, nq0, nq1, nq2, nq3, nq4, iq0, iq1, iq2, iq3, iq4, iq5, iq6, iq7, iq8, q1, q2, q9, q10, q12, q13, q14, g1, g0, d0, d1, d2, n9, g4, g5, g6, g7, g8, g9, g10]); (try (simp (disch := omega) only [W2, Int.cast_ofNat_Int]; (try simp only [S, TY, reduceCtorEq, nq0, nq1, nq2, nq3, nq4, iq0, iq1, iq2, iq3, iq4, iq5, iq6, iq7, iq8, q1, q2, q9, q10, q12, q13, q14, g1, g0, d0, d1, d2, n9, g4, g5, g6, g7, g8, g9, g10]))); repeat ((first | (refine cl_drawi 53 D12_53 (List.range 11) (by decide) (by kernel_rfl) ?_; unfold D12_53)); simp only [S, TY, reduceCtorEq, nq0, nq1, nq2, nq3, nq4, iq0, iq1, iq2, iq3, iq4, iq5, iq6, iq7, iq8, q1, q2, q9, q10, q12, q13, q14, g1, g0, d0, d1, d2, n9, g4, g5, g6, g7, g8, g9, g10]; (try (simp (disch := omega) only [W2, Int.cast_ofNat_Int]; (try simp only [S, TY, reduceCtorEq, nq0, nq1, nq2, nq3, nq4, iq0, iq1, iq2, iq3, iq4, iq5, iq6, iq7, iq8, q1, q2, q9, q10, q12, q13, q14, g1, g0, d0, d1, d2, n9, g4, g5, g6, g7, g8, g9, g10])))))
                  obtain ⟨m', rfl⟩ : ∃ z, z = m := ⟨_, rfl⟩
                  have hI' : Inv (i + 1) sz put taken m' := ⟨hI.w.mono (by omega), hI.r, hI.s, by have := hI.p; omega, by have := hI.t; omega⟩
                  refine Len_ok.at_ h [0] _ rfl fun r B H11 hr h11 => ?_
                  obtain ⟨rfl, rfl⟩ := hr
                  simp only [front_eq, fronts_nil, fronts_cons, List.getElem?_cons_zero, List.getElem?_cons_succ, List.eraseIdx_cons_zero, List.eraseIdx_cons_succ, List.cons_append, List.nil_append, putL_cons, putL_nil, List.set_cons_zero, List.set_cons_succ, Nat.reduceAdd] at h11
                  have k1 : ¬ ((m'.l.length : Nat) : Int) < 0 := by omega
                  have k2 : ¬ (sz : Int) < ((m'.l.length : Nat) : Int) := by have := hI'.w.l; have := hI'.r; omega
                  have k3 : ((m'.l.length : Nat) : Int) + ((taken : Int)) + m'.lost = (put : Int) := by have := hI'.s; omega
                  have k4 := hI'.p
                  have k5 := hI'.t
                  have k6 := hI'.w.t
                  have k7 := hI'.w.l
                  have k8 := hI'.w.r
                  have gi : IntKind.i64.wrap ((i : Int) + 1) = (i : Int) + 1 := by rw [wrap_id] <;> omega
                  ((try simp only [S, TY, reduceCtorEq, nq0, nq1, nq2, nq3, nq4, iq0, iq1, iq2, iq3, iq4, iq5, iq6, iq7, iq8, q1, q9, q10, q14, q12, q13, k1]); (try (simp (disch := omega) only [W2, Int.cast_ofNat_Int]; (try simp only [S, TY, reduceCtorEq, nq0, nq1, nq2, nq3, nq4, iq0, iq1, iq2, iq3, iq4, iq5, iq6, iq7, iq8, q1, q9, q10, q14, q12, q13, k1]))); repeat ((first | (refine cl_drawi 53 D12_53 (List.range 11) (by decide) (by kernel_rfl) ?_; unfold D12_53)); simp only [S, TY, reduceCtorEq, nq0, nq1, nq2, nq3, nq4, iq0, iq1, iq2, iq3, iq4, iq5, iq6, iq7, iq8, q1, q9, q10, q14, q12, q13, k1]; (try (simp (disch := omega) only [W2, Int.cast_ofNat_Int]; (try simp only [S, TY, reduceCtorEq, nq0, nq1, nq2, nq3, nq4, iq0, iq1, iq2, iq3, iq4, iq5, iq6, iq7, iq8, q1, q9, q10, q14, q12, q13, k1])))))
                  refine Len_ok.at_ h11 [0] _ rfl fun r B H12 hr h12 => ?_
                  obtain ⟨rfl, rfl⟩ := hr
                  simp only [front_eq, fronts_nil, fronts_cons, List.getElem?_cons_zero, List.getElem?_cons_succ, List.eraseIdx_cons_zero, List.eraseIdx_cons_succ, List.cons_append, List.nil_append, putL_cons, putL_nil, List.set_cons_zero, List.set_cons_succ, Nat.reduceAdd] at h12
                  ((try simp only [S, TY, reduceCtorEq, nq0, nq1, nq2, nq3, nq4, iq0, iq1, iq2, iq3, iq4, iq5, iq6, iq7, iq8, q1, q9, q10, q14, q12, q13, k1, k2]); (try (simp (disch := omega) only [W2, Int.cast_ofNat_Int]; (try simp only [S, TY, reduceCtorEq, nq0, nq1, nq2, nq3, nq4, iq0, iq1, iq2, iq3, iq4, iq5, iq6, iq7, iq8, q1, q9, q10, q14, q12, q13, k1, k2]))); repeat ((first | (refine cl_drawi 53 D12_53 (List.range 11) (by decide) (by kernel_rfl) ?_; unfold D12_53)); simp only [S, TY, reduceCtorEq, nq0, nq1, nq2, nq3, nq4, iq0, iq1, iq2, iq3, iq4, iq5, iq6, iq7, iq8, q1, q9, q10, q14, q12, q13, k1, k2]; (try (simp (disch := omega) only [W2, Int.cast_ofNat_Int]; (try simp only [S, TY, reduceCtorEq, nq0, nq1, nq2, nq3, nq4, iq0, iq1, iq2, iq3, iq4, iq5, iq6, iq7, iq8, q1, q9, q10, q14, q12, q13, k1, k2])))))
                  refine Len_ok.at_ h12 [0] _ rfl fun r B H13 hr h13 => ?_
                  obtain ⟨rfl, rfl⟩ := hr
                  simp only [front_eq, fronts_nil, fronts_cons, List.getElem?_cons_zero, List.getElem?_cons_succ, List.eraseIdx_cons_zero, List.eraseIdx_cons_succ, List.cons_append, List.nil_append, putL_cons, putL_nil, List.set_cons_zero, List.set_cons_succ, Nat.reduceAdd] at h13
                  ((try simp only [S, TY, reduceCtorEq, nq0, nq1, nq2, nq3, nq4, iq0, iq1, iq2, iq3, iq4, iq5, iq6, iq7, iq8, q1, q9, q10, q14, q12, q13, k1, k2]); (try (simp (disch := omega) only [W2, Int.cast_ofNat_Int]; (try simp only [S, TY, reduceCtorEq, nq0, nq1, nq2, nq3, nq4, iq0, iq1, iq2, iq3, iq4, iq5, iq6, iq7, iq8, q1, q9, q10, q14, q12, q13, k1, k2]))); repeat ((first | (refine cl_drawi 53 D12_53 (List.range 11) (by decide) (by kernel_rfl) ?_; unfold D12_53)); simp only [S, TY, reduceCtorEq, nq0, nq1, nq2, nq3, nq4, iq0, iq1, iq2, iq3, iq4, iq5, iq6, iq7, iq8, q1, q9, q10, q14, q12, q13, k1, k2]; (try (simp (disch := omega) only [W2, Int.cast_ofNat_Int]; (try simp only [S, TY, reduceCtorEq, nq0, nq1, nq2, nq3, nq4, iq0, iq1, iq2, iq3, iq4, iq5, iq6, iq7, iq8, q1, q9, q10, q14, q12, q13, k1, k2])))))
                  refine Lost_ok.at_ h13 [0] _ rfl fun r B H14 hr h14 => ?_
                  obtain ⟨rfl, rfl⟩ := hr
                  simp only [front_eq, fronts_nil, fronts_cons, List.getElem?_cons_zero, List.getElem?_cons_succ, List.eraseIdx_cons_zero, List.eraseIdx_cons_succ, List.cons_append, List.nil_append, putL_cons, putL_nil, List.set_cons_zero, List.set_cons_succ, Nat.reduceAdd] at h14
                  ((try simp only [S, TY, reduceCtorEq, nq0, nq1, nq2, nq3, nq4, iq0, iq1, iq2, iq3, iq4, iq5, iq6, iq7, iq8, q1, q9, q10, q14, q12, q13, k1, k2, k3, gi]); (try (simp (disch := omega) only [W2, Int.cast_ofNat_Int]; (try simp only [S, TY, reduceCtorEq, nq0, nq1, nq2, nq3, nq4, iq0, iq1, iq2, iq3, iq4, iq5, iq6, iq7, iq8, q1, q9, q10, q14, q12, q13, k1, k2, k3, gi]))); repeat ((first | (refine cl_drawi 53 D12_53 (List.range 11) (by decide) (by kernel_rfl) ?_; unfold D12_53)); simp only [S, TY, reduceCtorEq, nq0, nq1, nq2, nq3, nq4, iq0, iq1, iq2, iq3, iq4, iq5, iq6, iq7, iq8, q1, q9, q10, q14, q12, q13, k1, k2, k3, gi]; (try (simp (disch := omega) only [W2, Int.cast_ofNat_Int]; (try simp only [S, TY, reduceCtorEq, nq0, nq1, nq2, nq3, nq4, iq0, iq1, iq2, iq3, iq4, iq5, iq6, iq7, iq8, q1, q9, q10, q14, q12, q13, k1, k2, k3, gi])))))
                  refine .go (i + 1) (by omega) ⟨by omega, q1, q2, q9, q10, rfl, put, taken, m', q12, q13, hI', ⟨h14.1, seps_take (B := [_]) h14.2⟩⟩
  · have hi : i = n := by omega
    have hwm := hI.w
    have hmr := hI.r
    have hm4 := hwm.l
    have hm5 := hwm.r
    obtain ⟨y1, y2, y3, y4⟩ := puts_facts m (ml.map (·.1))
    have hwM := wf_puts hwm (ml.map (·.1))
    rw [List.length_map] at y1 hwM
    have hM4 := hwM.l
    ((try simp only [S, TY, reduceCtorEq, nq0, nq1, nq2, nq3, nq4, iq0, iq1, iq2, iq3, iq4, iq5, iq6, iq7, iq8, q1, q2, q9, q10, q12, q13, q14, g1]); (try (simp (disch := omega) only [W2, Int.cast_ofNat_Int]; (try simp only [S, TY, reduceCtorEq, nq0, nq1, nq2, nq3, nq4, iq0, iq1, iq2, iq3, iq4, iq5, iq6, iq7, iq8, q1, q2, q9, q10, q12, q13, q14, g1]))); repeat ((first | (refine cl_drawi 53 D12_53 (List.range 11) (by decide) (by kernel_rfl) ?_; unfold D12_53)); simp only [S, TY, reduceCtorEq, nq0, nq1, nq2, nq3, nq4, iq0, iq1, iq2, iq3, iq4, iq5, iq6, iq7, iq8, q1, q2, q9, q10, q12, q13, q14, g1]; (try (simp (disch := omega) only [W2, Int.cast_ofNat_Int]; (try simp only [S, TY, reduceCtorEq, nq0, nq1, nq2, nq3, nq4, iq0, iq1, iq2, iq3, iq4, iq5, iq6, iq7, iq8, q1, q2, q9, q10, q12, q13, q14, g1])))))
    refine Len_ok.at_ h [0] _ rfl fun r B H2 hr h2 => ?_
    obtain ⟨rfl, rfl⟩ := hr
    simp only [front_eq, fronts_nil, fronts_cons, List.getElem?_cons_zero, List.getElem?_cons_succ, List.eraseIdx_cons_zero, List.eraseIdx_cons_succ, List.cons_append, List.nil_append, putL_cons, putL_nil, List.set_cons_zero, List.set_cons_succ, Nat.reduceAdd] at h2
    ((try simp only [S, TY, reduceCtorEq, nq0, nq1, nq2, nq3, nq4, iq0, iq1, iq2, iq3, iq4, iq5, iq6, iq7, iq8, q1, q2, q9, q10, q12, q13, q14]); (try (simp (disch := omega) only [W2, Int.cast_ofNat_Int]; (try simp only [S, TY, reduceCtorEq, nq0, nq1, nq2, nq3, nq4, iq0, iq1, iq2, iq3, iq4, iq5, iq6, iq7, iq8, q1, q2, q9, q10, q12, q13, q14]))); repeat ((first | (refine cl_drawi 53 D12_53 (List.range 11) (by decide) (by kernel_rfl) ?_; unfold D12_53)); simp only [S, TY, reduceCtorEq, nq0, nq1, nq2, nq3, nq4, iq0, iq1, iq2, iq3, iq4, iq5, iq6, iq7, iq8, q1, q2, q9, q10, q12, q13, q14]; (try (simp (disch := omega) only [W2, Int.cast_ofNat_Int]; (try simp only [S, TY, reduceCtorEq, nq0, nq1, nq2, nq3, nq4, iq0, iq1, iq2, iq3, iq4, iq5, iq6, iq7, iq8, q1, q2, q9, q10, q12, q13, q14])))))
    refine (Put_ok hwm (by omega) (by omega) hw1 hb0).at_ h2 [0] _ rfl fun r B H3 hr h3 => ?_
    obtain ⟨rfl, rfl⟩ := hr
    simp only [front_eq, fronts_nil, fronts_cons, List.getElem?_cons_zero, List.getElem?_cons_succ, List.eraseIdx_cons_zero, List.eraseIdx_cons_succ, List.cons_append, List.nil_append, putL_cons, putL_nil, List.set_cons_zero, List.set_cons_succ, Nat.reduceAdd] at h3
    obtain ⟨M, came, hM⟩ : ∃ z y, m.puts (ml.map (·.1)) = (z, y) := ⟨_, _, rfl⟩
    rw [hM] at h3 y1 y2 y3 y4 hwM hM4 ⊢
    simp only at h3 y1 y2 y3 y4 hwM hM4 ⊢
    have z1 : ¬ (came : Int) < 0 := by omega
    have z2 : ((M.l.length : Nat) : Int) = (m.l.length : Nat) + (came : Nat) := by omega
    ((try simp only [S, TY, reduceCtorEq, nq0, nq1, nq2, nq3, nq4, iq0, iq1, iq2, iq3, iq4, iq5, iq6, iq7, iq8, q1, q2, q9, q10, q12, q13, q14, z1]); (try (simp (disch := omega) only [W2, Int.cast_ofNat_Int]; (try simp only [S, TY, reduceCtorEq, nq0, nq1, nq2, nq3, nq4, iq0, iq1, iq2, iq3, iq4, iq5, iq6, iq7, iq8, q1, q2, q9, q10, q12, q13, q14, z1]))); repeat ((first | (refine cl_drawi 53 D12_53 (List.range 11) (by decide) (by kernel_rfl) ?_; unfold D12_53)); simp only [S, TY, reduceCtorEq, nq0, nq1, nq2, nq3, nq4, iq0, iq1, iq2, iq3, iq4, iq5, iq6, iq7, iq8, q1, q2, q9, q10, q12, q13, q14, z1]; (try (simp (disch := omega) only [W2, Int.cast_ofNat_Int]; (try simp only [S, TY, reduceCtorEq, nq0, nq1, nq2, nq3, nq4, iq0, iq1, iq2, iq3, iq4, iq5, iq6, iq7, iq8, q1, q2, q9, q10, q12, q13, q14, z1])))))
    refine Len_ok.at_ h3 [0] _ rfl fun r B H4 hr h4 => ?_
    obtain ⟨rfl, rfl⟩ := hr
    simp only [front_eq, fronts_nil, fronts_cons, List.getElem?_cons_zero, List.getElem?_cons_succ, List.eraseIdx_cons_zero, List.eraseIdx_cons_succ, List.cons_append, List.nil_append, putL_cons, putL_nil, List.set_cons_zero, List.set_cons_succ, Nat.reduceAdd] at h4
    ((try simp only [S, TY, reduceCtorEq, nq0, nq1, nq2, nq3, nq4, iq0, iq1, iq2, iq3, iq4, iq5, iq6, iq7, iq8, q1, q2, q9, q10, q12, q13, q14, z1, z2]); (try (simp (disch := omega) only [W2, Int.cast_ofNat_Int]; (try simp only [S, TY, reduceCtorEq, nq0, nq1, nq2, nq3, nq4, iq0, iq1, iq2, iq3, iq4, iq5, iq6, iq7, iq8, q1, q2, q9, q10, q12, q13, q14, z1, z2]))); repeat ((first | (refine cl_drawi 53 D12_53 (List.range 11) (by decide) (by kernel_rfl) ?_; unfold D12_53)); simp only [S, TY, reduceCtorEq, nq0, nq1, nq2, nq3, nq4, iq0, iq1, iq2, iq3, iq4, iq5, iq6, iq7, iq8, q1, q2, q9, q10, q12, q13, q14, z1, z2]; (try (simp (disch := omega) only [W2, Int.cast_ofNat_Int]; (try simp only [S, TY, reduceCtorEq, nq0, nq1, nq2, nq3, nq4, iq0, iq1, iq2, iq3, iq4, iq5, iq6, iq7, iq8, q1, q2, q9, q10, q12, q13, q14, z1, z2])))))
    have hpre : M.l.take m.l.length = m.l := (List.prefix_iff_eq_take.1 y4).symm
    refine cl_loop (fun i e H => i ≤ m.l.length ∧ e 2 = .slice wa ml.length wc ∧ e 9 = .int .i64 (sz : Nat) ∧ e 10 = .pointer (some ⟨p, 0, none⟩) ∧ e 17 = .int .i64 (m.l.length : Nat) ∧ e 20 = .int .i64 (i : Nat) ∧ ∃ o, e 19 = o ∧ sg G [nN p M, own 160 3 o ((M.l.take i).flatMap di)] H) (fun i : Nat => m.l.length - i) 0
      ⟨by omega, q2, q9, q10, rfl, rfl, .slice none 0 0, rfl, (h4.nil_ 160 3).front 1⟩ ?_
    clear h h2 h3 h4 q1 q2 q9 q10 q12 q13 q14 hI hi g1
    clear e H
    rintro i e H ⟨qi', q2, q9, q10, q17, q20, o, q19, h⟩
    obtain ⟨oa, on, oc, rfl, eo, _⟩ := h.sl 1 rfl Rd_own
    by_cases g1 : (i : Int) < (m.l.length : Nat)
    · have g : M.has (i : Int) := ⟨by omega, by omega⟩
      have hiM : i < M.l.length := by omega
      ((try simp only [S, TY, reduceCtorEq, nq0, nq1, nq2, nq3, nq4, iq0, iq1, iq2, iq3, iq4, iq5, iq6, iq7, iq8, q2, q9, q10, q17, q19, q20, g1]); (try (simp (disch := omega) only [W2, Int.cast_ofNat_Int]; (try simp only [S, TY, reduceCtorEq, nq0, nq1, nq2, nq3, nq4, iq0, iq1, iq2, iq3, iq4, iq5, iq6, iq7, iq8, q2, q9, q10, q17, q19, q20, g1]))); repeat ((first | (refine cl_drawi 53 D12_53 (List.range 11) (by decide) (by kernel_rfl) ?_; unfold D12_53)); simp only [S, TY, reduceCtorEq, nq0, nq1, nq2, nq3, nq4, iq0, iq1, iq2, iq3, iq4, iq5, iq6, iq7, iq8, q2, q9, q10, q17, q19, q20, g1]; (try (simp (disch := omega) only [W2, Int.cast_ofNat_Int]; (try simp only [S, TY, reduceCtorEq, nq0, nq1, nq2, nq3, nq4, iq0, iq1, iq2, iq3, iq4, iq5, iq6, iq7, iq8, q2, q9, q10, q17, q19, q20, g1])))))
      refine (At_ok hwM (i : Int)).at_ h [0] _ rfl fun r B H2 hr h2 => ?_
      unfold AtR at hr
      rw [if_pos g] at hr
      obtain ⟨u, rfl, rfl⟩ := hr
      obtain ⟨ua, un, uc, rfl, _, _⟩ := h2.sl 0 rfl Rd_own
      have hx : M.l.getD (i : Int).toNat ⟨0, 0, []⟩ = M.l[i] := by rw [Int.toNat_natCast, List.getD_eq_getElem?_getD, List.getElem?_eq_getElem hiM]; rfl
      rw [hx] at h2 ⊢
      simp only [front_eq, fronts_nil, fronts_cons, List.getElem?_cons_zero, List.getElem?_cons_succ, List.eraseIdx_cons_zero, List.eraseIdx_cons_succ, List.cons_append, List.nil_append, putL_cons, putL_nil, List.set_cons_zero, List.set_cons_succ, Nat.reduceAdd] at h2
      ((try simp only [S, TY, reduceCtorEq, nq0, nq1, nq2, nq3, nq4, iq0, iq1, iq2, iq3, iq4, iq5, iq6, iq7, iq8, q2, q9, q10, q17, q19, q20]); (try (simp (disch := omega) only [W2, Int.cast_ofNat_Int]; (try simp only [S, TY, reduceCtorEq, nq0, nq1, nq2, nq3, nq4, iq0, iq1, iq2, iq3, iq4, iq5, iq6, iq7, iq8, q2, q9, q10, q17, q19, q20]))); repeat ((first | (refine cl_drawi 53 D12_53 (List.range 11) (by decide) (by kernel_rfl) ?_; unfold D12_53)); simp only [S, TY, reduceCtorEq, nq0, nq1, nq2, nq3, nq4, iq0, iq1, iq2, iq3, iq4, iq5, iq6, iq7, iq8, q2, q9, q10, q17, q19, q20]; (try (simp (disch := omega) only [W2, Int.cast_ofNat_Int]; (try simp only [S, TY, reduceCtorEq, nq0, nq1, nq2, nq3, nq4, iq0, iq1, iq2, iq3, iq4, iq5, iq6, iq7, iq8, q2, q9, q10, q17, q19, q20])))))
      intro k3 hk3 hg3
      have h3 := h2.new hk3 hg3 (.cells (il 0 0 (.slice none 0 0)).toArray 152 (0, 0))
      ((try simp only [S, TY, reduceCtorEq, nq0, nq1, nq2, nq3, nq4, iq0, iq1, iq2, iq3, iq4, iq5, iq6, iq7, iq8, q2, q9, q10, q17, q19, q20]); (try (simp (disch := omega) only [W2, Int.cast_ofNat_Int]; (try simp only [S, TY, reduceCtorEq, nq0, nq1, nq2, nq3, nq4, iq0, iq1, iq2, iq3, iq4, iq5, iq6, iq7, iq8, q2, q9, q10, q17, q19, q20]))); repeat ((first | (refine cl_drawi 53 D12_53 (List.range 11) (by decide) (by kernel_rfl) ?_; unfold D12_53)); simp only [S, TY, reduceCtorEq, nq0, nq1, nq2, nq3, nq4, iq0, iq1, iq2, iq3, iq4, iq5, iq6, iq7, iq8, q2, q9, q10, q17, q19, q20]; (try (simp (disch := omega) only [W2, Int.cast_ofNat_Int]; (try simp only [S, TY, reduceCtorEq, nq0, nq1, nq2, nq3, nq4, iq0, iq1, iq2, iq3, iq4, iq5, iq6, iq7, iq8, q2, q9, q10, q17, q19, q20])))))
      refine sg.st h3 rfl rfl fun H4 h4 => ?_
      simp only [front_eq, fronts_nil, fronts_cons, List.getElem?_cons_zero, List.getElem?_cons_succ, List.eraseIdx_cons_zero, List.eraseIdx_cons_succ, List.cons_append, List.nil_append, putL_cons, putL_nil, List.set_cons_zero, List.set_cons_succ, Nat.reduceAdd] at h4
      have w4 := h4.li 0 rfl
      ((try simp only [S, TY, reduceCtorEq, nq0, nq1, nq2, nq3, nq4, iq0, iq1, iq2, iq3, iq4, iq5, iq6, iq7, iq8, q2, q9, q10, q17, q19, q20, w4]); (try (simp (disch := omega) only [W2, Int.cast_ofNat_Int]; (try simp only [S, TY, reduceCtorEq, nq0, nq1, nq2, nq3, nq4, iq0, iq1, iq2, iq3, iq4, iq5, iq6, iq7, iq8, q2, q9, q10, q17, q19, q20, w4]))); repeat ((first | (refine cl_drawi 53 D12_53 (List.range 11) (by decide) (by kernel_rfl) ?_; unfold D12_53)); simp only [S, TY, reduceCtorEq, nq0, nq1, nq2, nq3, nq4, iq0, iq1, iq2, iq3, iq4, iq5, iq6, iq7, iq8, q2, q9, q10, q17, q19, q20, w4]; (try (simp (disch := omega) only [W2, Int.cast_ofNat_Int]; (try simp only [S, TY, reduceCtorEq, nq0, nq1, nq2, nq3, nq4, iq0, iq1, iq2, iq3, iq4, iq5, iq6, iq7, iq8, q2, q9, q10, q17, q19, q20, w4])))))
      refine Con.lend_at [] [own 5 1 (.slice ua un uc) (bv M.l[i].b)] h4 [1] rfl (fun F hF hs => Of_ok M.l[i] (seps_own hs 0 rfl).left) fun r B H5 hr h5 => ?_
      obtain ⟨rfl, rfl⟩ := hr
      simp only [front_eq, fronts_nil, fronts_cons, List.getElem?_cons_zero, List.getElem?_cons_succ, List.eraseIdx_cons_zero, List.eraseIdx_cons_succ, List.cons_append, List.nil_append, putL_cons, putL_nil, List.set_cons_zero, List.set_cons_succ, Nat.reduceAdd] at h5
      ((try simp only [S, TY, reduceCtorEq, nq0, nq1, nq2, nq3, nq4, iq0, iq1, iq2, iq3, iq4, iq5, iq6, iq7, iq8, q2, q9, q10, q17, q19, q20]); (try (simp (disch := omega) only [W2, Int.cast_ofNat_Int]; (try simp only [S, TY, reduceCtorEq, nq0, nq1, nq2, nq3, nq4, iq0, iq1, iq2, iq3, iq4, iq5, iq6, iq7, iq8, q2, q9, q10, q17, q19, q20]))); repeat ((first | (refine cl_drawi 53 D12_53 (List.range 11) (by decide) (by kernel_rfl) ?_; unfold D12_53)); simp only [S, TY, reduceCtorEq, nq0, nq1, nq2, nq3, nq4, iq0, iq1, iq2, iq3, iq4, iq5, iq6, iq7, iq8, q2, q9, q10, q17, q19, q20]; (try (simp (disch := omega) only [W2, Int.cast_ofNat_Int]; (try simp only [S, TY, reduceCtorEq, nq0, nq1, nq2, nq3, nq4, iq0, iq1, iq2, iq3, iq4, iq5, iq6, iq7, iq8, q2, q9, q10, q17, q19, q20])))))
      intro k6 hk6 hg6
      have h6 := h5.newsl (e := 160) (sz := 3) (n := 1) (xs := di M.l[i]) hk6 hg6 rfl
      ((try simp only [S, TY, reduceCtorEq, nq0, nq1, nq2, nq3, nq4, iq0, iq1, iq2, iq3, iq4, iq5, iq6, iq7, iq8, q2, q9, q10, q17, q19, q20]); (try (simp (disch := omega) only [W2, Int.cast_ofNat_Int]; (try simp only [S, TY, reduceCtorEq, nq0, nq1, nq2, nq3, nq4, iq0, iq1, iq2, iq3, iq4, iq5, iq6, iq7, iq8, q2, q9, q10, q17, q19, q20]))); repeat ((first | (refine cl_drawi 53 D12_53 (List.range 11) (by decide) (by kernel_rfl) ?_; unfold D12_53)); simp only [S, TY, reduceCtorEq, nq0, nq1, nq2, nq3, nq4, iq0, iq1, iq2, iq3, iq4, iq5, iq6, iq7, iq8, q2, q9, q10, q17, q19, q20]; (try (simp (disch := omega) only [W2, Int.cast_ofNat_Int]; (try simp only [S, TY, reduceCtorEq, nq0, nq1, nq2, nq3, nq4, iq0, iq1, iq2, iq3, iq4, iq5, iq6, iq7, iq8, q2, q9, q10, q17, q19, q20])))))
      refine append_sl (show apI Try.prog 144 = some (160, 3, 32) from by kernel_rfl) (show slIs Try.prog 144 = true from by kernel_rfl) (h6.front 4) (h6.rdsi 0 rfl Rd_own) (di_one _) (by rw [flat_len di_len, List.length_take]; simp; omega) fun w H7 h7 => ?_
      simp only [front_eq, fronts_nil, fronts_cons, List.getElem?_cons_zero, List.getElem?_cons_succ, List.eraseIdx_cons_zero, List.eraseIdx_cons_succ, List.cons_append, List.nil_append, putL_cons, putL_nil, List.set_cons_zero, List.set_cons_succ, Nat.reduceAdd] at h7
      obtain ⟨xa, xn, xc, rfl, _, _⟩ := h7.sl 0 rfl Rd_own
      ((try simp only [S, TY, reduceCtorEq, nq0, nq1, nq2, nq3, nq4, iq0, iq1, iq2, iq3, iq4, iq5, iq6, iq7, iq8, q2, q9, q10, q17, q20]); (try (simp (disch := omega) only [W2, Int.cast_ofNat_Int]; (try simp only [S, TY, reduceCtorEq, nq0, nq1, nq2, nq3, nq4, iq0, iq1, iq2, iq3, iq4, iq5, iq6, iq7, iq8, q2, q9, q10, q17, q20]))); repeat ((first | (refine cl_drawi 53 D12_53 (List.range 11) (by decide) (by kernel_rfl) ?_; unfold D12_53)); simp only [S, TY, reduceCtorEq, nq0, nq1, nq2, nq3, nq4, iq0, iq1, iq2, iq3, iq4, iq5, iq6, iq7, iq8, q2, q9, q10, q17, q20]; (try (simp (disch := omega) only [W2, Int.cast_ofNat_Int]; (try simp only [S, TY, reduceCtorEq, nq0, nq1, nq2, nq3, nq4, iq0, iq1, iq2, iq3, iq4, iq5, iq6, iq7, iq8, q2, q9, q10, q17, q20])))))
      have e : (M.l.take i).flatMap di ++ di M.l[i] = (M.l.take (i + 1)).flatMap di := by
        rw [List.take_add_one, List.getElem?_eq_getElem hiM, List.flatMap_append]
        simp
      rw [e] at h7
      have gi : IntKind.i64.wrap ((i : Int) + 1) = (i : Int) + 1 := by rw [wrap_id] <;> omega
      refine .go (i + 1) (by omega) ⟨by omega, q2, q9, q10, q17, rfl, _, rfl, ⟨h7.1, seps_take (B := [_, _]) (h7.fronts [4, 0]).2⟩⟩
    · have hi : i = m.l.length := by omega
      rw [hi, hpre] at h
      ((try simp only [S, TY, reduceCtorEq, nq0, nq1, nq2, nq3, nq4, iq0, iq1, iq2, iq3, iq4, iq5, iq6, iq7, iq8, q2, q9, q10, q17, q19, q20, g1]); (try (simp (disch := omega) only [W2, Int.cast_ofNat_Int]; (try simp only [S, TY, reduceCtorEq, nq0, nq1, nq2, nq3, nq4, iq0, iq1, iq2, iq3, iq4, iq5, iq6, iq7, iq8, q2, q9, q10, q17, q19, q20, g1]))); repeat ((first | (refine cl_drawi 53 D12_53 (List.range 11) (by decide) (by kernel_rfl) ?_; unfold D12_53)); simp only [S, TY, reduceCtorEq, nq0, nq1, nq2, nq3, nq4, iq0, iq1, iq2, iq3, iq4, iq5, iq6, iq7, iq8, q2, q9, q10, q17, q19, q20, g1]; (try (simp (disch := omega) only [W2, Int.cast_ofNat_Int]; (try simp only [S, TY, reduceCtorEq, nq0, nq1, nq2, nq3, nq4, iq0, iq1, iq2, iq3, iq4, iq5, iq6, iq7, iq8, q2, q9, q10, q17, q19, q20, g1])))))
      refine cl_loop (fun j e H => j ≤ ml.length ∧ e 2 = .slice wa ml.length wc ∧ e 9 = .int .i64 (sz : Nat) ∧ e 10 = .pointer (some ⟨p, 0, none⟩) ∧ e 23 = .int .i64 (j : Nat) ∧ ∃ (o : Value) (m2 : Nt) (cnt : Nat), e 19 = o ∧ m.puts ((ml.take j).map (·.1)) = (m2, cnt) ∧ sg G [nN p M, own 160 3 o (m2.l.flatMap di)] H) (fun j : Nat => ml.length - j) 0
        ⟨by omega, q2, q9, q10, rfl, _, m, 0, q19, rfl, h⟩ ?_
      clear h q2 q9 q10 q17 q19 q20 hi g1 eo
      clear e H
      rintro j e H ⟨qj, q2, q9, q10, q23, o, m2, cnt, q19, hm2, h⟩
      obtain ⟨oa, on, oc, rfl, eo, _⟩ := h.sl 1 rfl Rd_own
      rw [flat_len di_len] at eo
      obtain rfl : on = m2.l.length := by omega
      have hr2 : m2.room = sz := by
        have := (puts_facts m ((ml.take j).map (·.1))).2.2.1
        rw [hm2] at this
        rw [this]; exact hmr
      have hwm2 : (m2.l.length : Int) ≤ 4096 := by
        have := (wf_puts hwm ((ml.take j).map (·.1))).l
        rw [hm2] at this
        simp only at this
        omega
      by_cases g1 : (j : Int) < ml.length
      · have g2 : (0 : Int) ≤ j ∧ (j : Int) < ml.length := ⟨by omega, g1⟩
        have hj : j < ml.length := by omega
        have hs : (ml.take (j + 1)).map (·.1) = (ml.take j).map (·.1) ++ [ml[j].1] := by rw [List.take_add_one, List.getElem?_eq_getElem hj, List.map_append]; rfl
        obtain ⟨k, off, hl', rfl, _, d1⟩ := hw1.el ic_len (i := j) hj (by omega)
        have hu : rds G 1 ml[j].2 (bv ml[j].1.b) := by
          have := hb0.get j (by rw [List.length_map]; exact hj) (by rw [List.length_map]; exact hj)
          rw [List.getElem_map, List.getElem_map] at this
          exact this
        have gj : IntKind.i64.wrap ((j : Int) + 1) = (j : Int) + 1 := by rw [wrap_id] <;> omega
        have d2 := h.rold d1
        ((try simp only [S, TY, reduceCtorEq, nq0, nq1, nq2, nq3, nq4, iq0, iq1, iq2, iq3, iq4, iq5, iq6, iq7, iq8, q2, q9, q10, q19, q23, g1, g2, d2]); (try (simp (disch := omega) only [W2, Int.cast_ofNat_Int]; (try simp only [S, TY, reduceCtorEq, nq0, nq1, nq2, nq3, nq4, iq0, iq1, iq2, iq3, iq4, iq5, iq6, iq7, iq8, q2, q9, q10, q19, q23, g1, g2, d2]))); repeat ((first | (refine cl_drawi 53 D12_53 (List.range 11) (by decide) (by kernel_rfl) ?_; unfold D12_53)); simp only [S, TY, reduceCtorEq, nq0, nq1, nq2, nq3, nq4, iq0, iq1, iq2, iq3, iq4, iq5, iq6, iq7, iq8, q2, q9, q10, q19, q23, g1, g2, d2]; (try (simp (disch := omega) only [W2, Int.cast_ofNat_Int]; (try simp only [S, TY, reduceCtorEq, nq0, nq1, nq2, nq3, nq4, iq0, iq1, iq2, iq3, iq4, iq5, iq6, iq7, iq8, q2, q9, q10, q19, q23, g1, g2, d2])))))
        refine (Of_ok ml[j].1 hu).at_ h [] _ rfl fun r B H2 hr h2 => ?_
        obtain ⟨rfl, rfl⟩ := hr
        ((try simp only [S, TY, reduceCtorEq, nq0, nq1, nq2, nq3, nq4, iq0, iq1, iq2, iq3, iq4, iq5, iq6, iq7, iq8, q2, q9, q10, q19, q23]); (try (simp (disch := omega) only [W2, Int.cast_ofNat_Int]; (try simp only [S, TY, reduceCtorEq, nq0, nq1, nq2, nq3, nq4, iq0, iq1, iq2, iq3, iq4, iq5, iq6, iq7, iq8, q2, q9, q10, q19, q23]))); repeat ((first | (refine cl_drawi 53 D12_53 (List.range 11) (by decide) (by kernel_rfl) ?_; unfold D12_53)); simp only [S, TY, reduceCtorEq, nq0, nq1, nq2, nq3, nq4, iq0, iq1, iq2, iq3, iq4, iq5, iq6, iq7, iq8, q2, q9, q10, q19, q23]; (try (simp (disch := omega) only [W2, Int.cast_ofNat_Int]; (try simp only [S, TY, reduceCtorEq, nq0, nq1, nq2, nq3, nq4, iq0, iq1, iq2, iq3, iq4, iq5, iq6, iq7, iq8, q2, q9, q10, q19, q23])))))
        refine (dRight_ok ml[j].1).at_ h2 [] _ rfl fun r B H3 hr h3 => ?_
        obtain ⟨rfl, rfl⟩ := hr
        simp only [front_eq, fronts_nil, fronts_cons, List.getElem?_cons_zero, List.getElem?_cons_succ, List.eraseIdx_cons_zero, List.eraseIdx_cons_succ, List.cons_append, List.nil_append, putL_cons, putL_nil, List.set_cons_zero, List.set_cons_succ, Nat.reduceAdd] at h3
        have hp : m.puts ((ml.take (j + 1)).map (·.1)) = ((m2.put1 ml[j].1).1, if (m2.put1 ml[j].1).2 = true then cnt + 1 else cnt) := by
          rw [hs, puts_snoc, hm2]
          rfl
        by_cases g4 : ml[j].1.ok = true
        · by_cases g5 : ((m2.l.length : Nat) : Int) < (sz : Nat)
          · have hp1 : m2.put1 ml[j].1 = (⟨m2.l ++ [ml[j].1], m2.room, m2.lost⟩, true) := by unfold Nt.put1; rw [if_pos ⟨g4, by rw [hr2]; exact g5⟩]
            rw [hp1] at hp
            have d3 := h3.rold d1
            ((try simp only [S, TY, reduceCtorEq, nq0, nq1, nq2, nq3, nq4, iq0, iq1, iq2, iq3, iq4, iq5, iq6, iq7, iq8, q2, q9, q10, q19, q23, g1, g2, g4, g5, d3]); (try (simp (disch := omega) only [W2, Int.cast_ofNat_Int]; (try simp only [S, TY, reduceCtorEq, nq0, nq1, nq2, nq3, nq4, iq0, iq1, iq2, iq3, iq4, iq5, iq6, iq7, iq8, q2, q9, q10, q19, q23, g1, g2, g4, g5, d3]))); repeat ((first | (refine cl_drawi 53 D12_53 (List.range 11) (by decide) (by kernel_rfl) ?_; unfold D12_53)); simp only [S, TY, reduceCtorEq, nq0, nq1, nq2, nq3, nq4, iq0, iq1, iq2, iq3, iq4, iq5, iq6, iq7, iq8, q2, q9, q10, q19, q23, g1, g2, g4, g5, d3]; (try (simp (disch := omega) only [W2, Int.cast_ofNat_Int]; (try simp only [S, TY, reduceCtorEq, nq0, nq1, nq2, nq3, nq4, iq0, iq1, iq2, iq3, iq4, iq5, iq6, iq7, iq8, q2, q9, q10, q19, q23, g1, g2, g4, g5, d3])))))
            refine (Of_ok ml[j].1 hu).at_ h3 [] _ rfl fun r B H4 hr h4 => ?_
            obtain ⟨rfl, rfl⟩ := hr
            simp only [front_eq, fronts_nil, fronts_cons, List.getElem?_cons_zero, List.getElem?_cons_succ, List.eraseIdx_cons_zero, List.eraseIdx_cons_succ, List.cons_append, List.nil_append, putL_cons, putL_nil, List.set_cons_zero, List.set_cons_succ, Nat.reduceAdd] at h4
            ((try simp only [S, TY, reduceCtorEq, nq0, nq1, nq2, nq3, nq4, iq0, iq1, iq2, iq3, iq4, iq5, iq6, iq7, iq8, q2, q9, q10, q19, q23]); (try (simp (disch := omega) only [W2, Int.cast_ofNat_Int]; (try simp only [S, TY, reduceCtorEq, nq0, nq1, nq2, nq3, nq4, iq0, iq1, iq2, iq3, iq4, iq5, iq6, iq7, iq8, q2, q9, q10, q19, q23]))); repeat ((first | (refine cl_drawi 53 D12_53 (List.range 11) (by decide) (by kernel_rfl) ?_; unfold D12_53)); simp only [S, TY, reduceCtorEq, nq0, nq1, nq2, nq3, nq4, iq0, iq1, iq2, iq3, iq4, iq5, iq6, iq7, iq8, q2, q9, q10, q19, q23]; (try (simp (disch := omega) only [W2, Int.cast_ofNat_Int]; (try simp only [S, TY, reduceCtorEq, nq0, nq1, nq2, nq3, nq4, iq0, iq1, iq2, iq3, iq4, iq5, iq6, iq7, iq8, q2, q9, q10, q19, q23])))))
            intro k6 hk6 hg6
            have h6 := h4.newsl (e := 160) (sz := 3) (n := 1) (xs := di ml[j].1) hk6 hg6 rfl
            ((try simp only [S, TY, reduceCtorEq, nq0, nq1, nq2, nq3, nq4, iq0, iq1, iq2, iq3, iq4, iq5, iq6, iq7, iq8, q2, q9, q10, q19, q23]); (try (simp (disch := omega) only [W2, Int.cast_ofNat_Int]; (try simp only [S, TY, reduceCtorEq, nq0, nq1, nq2, nq3, nq4, iq0, iq1, iq2, iq3, iq4, iq5, iq6, iq7, iq8, q2, q9, q10, q19, q23]))); repeat ((first | (refine cl_drawi 53 D12_53 (List.range 11) (by decide) (by kernel_rfl) ?_; unfold D12_53)); simp only [S, TY, reduceCtorEq, nq0, nq1, nq2, nq3, nq4, iq0, iq1, iq2, iq3, iq4, iq5, iq6, iq7, iq8, q2, q9, q10, q19, q23]; (try (simp (disch := omega) only [W2, Int.cast_ofNat_Int]; (try simp only [S, TY, reduceCtorEq, nq0, nq1, nq2, nq3, nq4, iq0, iq1, iq2, iq3, iq4, iq5, iq6, iq7, iq8, q2, q9, q10, q19, q23])))))
            refine append_sl (show apI Try.prog 144 = some (160, 3, 32) from by kernel_rfl) (show slIs Try.prog 144 = true from by kernel_rfl) (h6.front 2) (h6.rdsi 0 rfl Rd_own) (di_one _) (by rw [flat_len di_len]; simp; omega) fun w H7 h7 => ?_
            simp only [front_eq, fronts_nil, fronts_cons, List.getElem?_cons_zero, List.getElem?_cons_succ, List.eraseIdx_cons_zero, List.eraseIdx_cons_succ, List.cons_append, List.nil_append, putL_cons, putL_nil, List.set_cons_zero, List.set_cons_succ, Nat.reduceAdd] at h7
            obtain ⟨xa, xn, xc, rfl, _, _⟩ := h7.sl 0 rfl Rd_own
            ((try simp only [S, TY, reduceCtorEq, nq0, nq1, nq2, nq3, nq4, iq0, iq1, iq2, iq3, iq4, iq5, iq6, iq7, iq8, q2, q9, q10, q23, gj]); (try (simp (disch := omega) only [W2, Int.cast_ofNat_Int]; (try simp only [S, TY, reduceCtorEq, nq0, nq1, nq2, nq3, nq4, iq0, iq1, iq2, iq3, iq4, iq5, iq6, iq7, iq8, q2, q9, q10, q23, gj]))); repeat ((first | (refine cl_drawi 53 D12_53 (List.range 11) (by decide) (by kernel_rfl) ?_; unfold D12_53)); simp only [S, TY, reduceCtorEq, nq0, nq1, nq2, nq3, nq4, iq0, iq1, iq2, iq3, iq4, iq5, iq6, iq7, iq8, q2, q9, q10, q23, gj]; (try (simp (disch := omega) only [W2, Int.cast_ofNat_Int]; (try simp only [S, TY, reduceCtorEq, nq0, nq1, nq2, nq3, nq4, iq0, iq1, iq2, iq3, iq4, iq5, iq6, iq7, iq8, q2, q9, q10, q23, gj])))))
            have e : m2.l.flatMap di ++ di ml[j].1 = (m2.l ++ [ml[j].1]).flatMap di := by simp
            rw [e] at h7
            refine .go (j + 1) (by omega) ⟨by omega, q2, q9, q10, rfl, _, _, _, rfl, hp, ⟨h7.1, seps_take (B := [_, _]) (h7.fronts [2, 0]).2⟩⟩
          · have hp1 : m2.put1 ml[j].1 = (⟨m2.l, m2.room, m2.lost + 1⟩, false) := by unfold Nt.put1; rw [if_neg (fun z => g5 (by have := z.2; rw [hr2] at this; exact this))]
            rw [hp1] at hp
            ((try simp only [S, TY, reduceCtorEq, nq0, nq1, nq2, nq3, nq4, iq0, iq1, iq2, iq3, iq4, iq5, iq6, iq7, iq8, q2, q9, q10, q19, q23, g4, g5, gj]); (try (simp (disch := omega) only [W2, Int.cast_ofNat_Int]; (try simp only [S, TY, reduceCtorEq, nq0, nq1, nq2, nq3, nq4, iq0, iq1, iq2, iq3, iq4, iq5, iq6, iq7, iq8, q2, q9, q10, q19, q23, g4, g5, gj]))); repeat ((first | (refine cl_drawi 53 D12_53 (List.range 11) (by decide) (by kernel_rfl) ?_; unfold D12_53)); simp only [S, TY, reduceCtorEq, nq0, nq1, nq2, nq3, nq4, iq0, iq1, iq2, iq3, iq4, iq5, iq6, iq7, iq8, q2, q9, q10, q19, q23, g4, g5, gj]; (try (simp (disch := omega) only [W2, Int.cast_ofNat_Int]; (try simp only [S, TY, reduceCtorEq, nq0, nq1, nq2, nq3, nq4, iq0, iq1, iq2, iq3, iq4, iq5, iq6, iq7, iq8, q2, q9, q10, q19, q23, g4, g5, gj])))))
            refine .go (j + 1) (by omega) ⟨by omega, q2, q9, q10, rfl, _, _, _, q19, hp, h3⟩
        · have hp1 : m2.put1 ml[j].1 = (⟨m2.l, m2.room, m2.lost + 1⟩, false) := by unfold Nt.put1; rw [if_neg (fun z => g4 z.1)]
          rw [hp1] at hp
          ((try simp only [S, TY, reduceCtorEq, nq0, nq1, nq2, nq3, nq4, iq0, iq1, iq2, iq3, iq4, iq5, iq6, iq7, iq8, q2, q9, q10, q19, q23, g4, gj]); (try (simp (disch := omega) only [W2, Int.cast_ofNat_Int]; (try simp only [S, TY, reduceCtorEq, nq0, nq1, nq2, nq3, nq4, iq0, iq1, iq2, iq3, iq4, iq5, iq6, iq7, iq8, q2, q9, q10, q19, q23, g4, gj]))); repeat ((first | (refine cl_drawi 53 D12_53 (List.range 11) (by decide) (by kernel_rfl) ?_; unfold D12_53)); simp only [S, TY, reduceCtorEq, nq0, nq1, nq2, nq3, nq4, iq0, iq1, iq2, iq3, iq4, iq5, iq6, iq7, iq8, q2, q9, q10, q19, q23, g4, gj]; (try (simp (disch := omega) only [W2, Int.cast_ofNat_Int]; (try simp only [S, TY, reduceCtorEq, nq0, nq1, nq2, nq3, nq4, iq0, iq1, iq2, iq3, iq4, iq5, iq6, iq7, iq8, q2, q9, q10, q19, q23, g4, gj])))))
          refine .go (j + 1) (by omega) ⟨by omega, q2, q9, q10, rfl, _, _, _, q19, hp, h3⟩
      · obtain rfl : j = ml.length := by omega
        rw [List.take_length, hM] at hm2
        cases hm2
        ((try simp only [S, TY, reduceCtorEq, nq0, nq1, nq2, nq3, nq4, iq0, iq1, iq2, iq3, iq4, iq5, iq6, iq7, iq8, q2, q9, q10, q19, q23, g1]); (try (simp (disch := omega) only [W2, Int.cast_ofNat_Int]; (try simp only [S, TY, reduceCtorEq, nq0, nq1, nq2, nq3, nq4, iq0, iq1, iq2, iq3, iq4, iq5, iq6, iq7, iq8, q2, q9, q10, q19, q23, g1]))); repeat ((first | (refine cl_drawi 53 D12_53 (List.range 11) (by decide) (by kernel_rfl) ?_; unfold D12_53)); simp only [S, TY, reduceCtorEq, nq0, nq1, nq2, nq3, nq4, iq0, iq1, iq2, iq3, iq4, iq5, iq6, iq7, iq8, q2, q9, q10, q19, q23, g1]; (try (simp (disch := omega) only [W2, Int.cast_ofNat_Int]; (try simp only [S, TY, reduceCtorEq, nq0, nq1, nq2, nq3, nq4, iq0, iq1, iq2, iq3, iq4, iq5, iq6, iq7, iq8, q2, q9, q10, q19, q23, g1])))))
        refine cl_loop (fun i e H => i ≤ M.l.length ∧ e 10 = .pointer (some ⟨p, 0, none⟩) ∧ e 25 = .int .i64 (i : Nat) ∧ e 19 = .slice oa M.l.length oc ∧ sg G [nN p ⟨M.l.drop i, M.room, M.lost⟩, own 160 3 (.slice oa M.l.length oc) (M.l.flatMap di)] H) (fun i : Nat => M.l.length - i) 0
          ⟨by omega, q10, rfl, q19, h⟩ ?_
        clear h q2 q9 q10 q19 q23 g1
        clear e H
        rintro i e H ⟨qi, q10, q25, q19, h⟩
        by_cases g1 : (i : Int) < (M.l.length : Nat)
        · have g2 : (0 : Int) ≤ i ∧ (i : Int) < (M.l.length : Nat) := ⟨by omega, g1⟩
          have hi : i < M.l.length := by omega
          have hd : M.l.drop i = M.l[i] :: M.l.drop (i + 1) := List.drop_eq_getElem_cons hi
          have hwd : Nt.wf _ (Nt.mk (M.l.drop i) M.room M.lost) := ⟨hwM.r, by have := hwM.l; show ((M.l.drop i).length : Int) ≤ M.room; rw [List.length_drop]; omega, hwM.t, fun x hx => hwM.b x (List.mem_of_mem_drop hx)⟩
          have g : (Nt.mk (M.l.drop i) M.room M.lost).has 0 := ⟨by omega, by show (0 : Int) < ((M.l.drop i).length : Nat); rw [List.length_drop]; omega⟩
          have gi : IntKind.i64.wrap ((i : Int) + 1) = (i : Int) + 1 := by rw [wrap_id] <;> omega
          ((try simp only [S, TY, reduceCtorEq, nq0, nq1, nq2, nq3, nq4, iq0, iq1, iq2, iq3, iq4, iq5, iq6, iq7, iq8, q10, q19, q25, g1]); (try (simp (disch := omega) only [W2, Int.cast_ofNat_Int]; (try simp only [S, TY, reduceCtorEq, nq0, nq1, nq2, nq3, nq4, iq0, iq1, iq2, iq3, iq4, iq5, iq6, iq7, iq8, q10, q19, q25, g1]))); repeat ((first | (refine cl_drawi 53 D12_53 (List.range 11) (by decide) (by kernel_rfl) ?_; unfold D12_53)); simp only [S, TY, reduceCtorEq, nq0, nq1, nq2, nq3, nq4, iq0, iq1, iq2, iq3, iq4, iq5, iq6, iq7, iq8, q10, q19, q25, g1]; (try (simp (disch := omega) only [W2, Int.cast_ofNat_Int]; (try simp only [S, TY, reduceCtorEq, nq0, nq1, nq2, nq3, nq4, iq0, iq1, iq2, iq3, iq4, iq5, iq6, iq7, iq8, q10, q19, q25, g1])))))
          refine (Take_ok hwd 0).at_ h [0] _ rfl fun r B H2 hr h2 => ?_
          unfold TakeR at hr
          rw [if_pos g] at hr
          obtain ⟨u, rfl, rfl⟩ := hr
          obtain ⟨ua, un, uc, rfl, _, _⟩ := h2.sl 0 rfl Rd_own
          have hx : (Nt.mk (M.l.drop i) M.room M.lost).l.getD (0 : Int).toNat ⟨0, 0, []⟩ = M.l[i] := by show (M.l.drop i).getD 0 _ = _; rw [hd]; rfl
          have hdr : (Nt.mk (M.l.drop i) M.room M.lost).drop 0 = ⟨M.l.drop (i + 1), M.room, M.lost⟩ := by
            unfold Nt.drop
            rw [if_pos g]
            show Nt.mk ((M.l.drop i).eraseIdx 0) _ _ = _
            rw [hd]; rfl
          rw [hx, hdr] at h2
          rw [hx]
          simp only [front_eq, fronts_nil, fronts_cons, List.getElem?_cons_zero, List.getElem?_cons_succ, List.eraseIdx_cons_zero, List.eraseIdx_cons_succ, List.cons_append, List.nil_append, putL_cons, putL_nil, List.set_cons_zero, List.set_cons_succ, Nat.reduceAdd] at h2
          ((try simp only [S, TY, reduceCtorEq, nq0, nq1, nq2, nq3, nq4, iq0, iq1, iq2, iq3, iq4, iq5, iq6, iq7, iq8, q10, q19, q25]); (try (simp (disch := omega) only [W2, Int.cast_ofNat_Int]; (try simp only [S, TY, reduceCtorEq, nq0, nq1, nq2, nq3, nq4, iq0, iq1, iq2, iq3, iq4, iq5, iq6, iq7, iq8, q10, q19, q25]))); repeat ((first | (refine cl_drawi 53 D12_53 (List.range 11) (by decide) (by kernel_rfl) ?_; unfold D12_53)); simp only [S, TY, reduceCtorEq, nq0, nq1, nq2, nq3, nq4, iq0, iq1, iq2, iq3, iq4, iq5, iq6, iq7, iq8, q10, q19, q25]; (try (simp (disch := omega) only [W2, Int.cast_ofNat_Int]; (try simp only [S, TY, reduceCtorEq, nq0, nq1, nq2, nq3, nq4, iq0, iq1, iq2, iq3, iq4, iq5, iq6, iq7, iq8, q10, q19, q25])))))
          intro k3 hk3 hg3
          have h3 := h2.new hk3 hg3 (.cells (il 0 0 (.slice none 0 0)).toArray 152 (0, 0))
          ((try simp only [S, TY, reduceCtorEq, nq0, nq1, nq2, nq3, nq4, iq0, iq1, iq2, iq3, iq4, iq5, iq6, iq7, iq8, q10, q19, q25]); (try (simp (disch := omega) only [W2, Int.cast_ofNat_Int]; (try simp only [S, TY, reduceCtorEq, nq0, nq1, nq2, nq3, nq4, iq0, iq1, iq2, iq3, iq4, iq5, iq6, iq7, iq8, q10, q19, q25]))); repeat ((first | (refine cl_drawi 53 D12_53 (List.range 11) (by decide) (by kernel_rfl) ?_; unfold D12_53)); simp only [S, TY, reduceCtorEq, nq0, nq1, nq2, nq3, nq4, iq0, iq1, iq2, iq3, iq4, iq5, iq6, iq7, iq8, q10, q19, q25]; (try (simp (disch := omega) only [W2, Int.cast_ofNat_Int]; (try simp only [S, TY, reduceCtorEq, nq0, nq1, nq2, nq3, nq4, iq0, iq1, iq2, iq3, iq4, iq5, iq6, iq7, iq8, q10, q19, q25])))))
          refine sg.st h3 rfl rfl fun H4 h4 => ?_
          simp only [front_eq, fronts_nil, fronts_cons, List.getElem?_cons_zero, List.getElem?_cons_succ, List.eraseIdx_cons_zero, List.eraseIdx_cons_succ, List.cons_append, List.nil_append, putL_cons, putL_nil, List.set_cons_zero, List.set_cons_succ, Nat.reduceAdd] at h4
          have w4 := h4.li 0 rfl
          obtain ⟨k5, off5, hl5, rfl, _, d5⟩ := (h4.rdsi 3 rfl Rd_own).el di_len (i := i) hi (by omega)
          ((try simp only [S, TY, reduceCtorEq, nq0, nq1, nq2, nq3, nq4, iq0, iq1, iq2, iq3, iq4, iq5, iq6, iq7, iq8, q10, q19, q25, w4, d5, g2]); (try (simp (disch := omega) only [W2, Int.cast_ofNat_Int]; (try simp only [S, TY, reduceCtorEq, nq0, nq1, nq2, nq3, nq4, iq0, iq1, iq2, iq3, iq4, iq5, iq6, iq7, iq8, q10, q19, q25, w4, d5, g2]))); repeat ((first | (refine cl_drawi 53 D12_53 (List.range 11) (by decide) (by kernel_rfl) ?_; unfold D12_53)); simp only [S, TY, reduceCtorEq, nq0, nq1, nq2, nq3, nq4, iq0, iq1, iq2, iq3, iq4, iq5, iq6, iq7, iq8, q10, q19, q25, w4, d5, g2]; (try (simp (disch := omega) only [W2, Int.cast_ofNat_Int]; (try simp only [S, TY, reduceCtorEq, nq0, nq1, nq2, nq3, nq4, iq0, iq1, iq2, iq3, iq4, iq5, iq6, iq7, iq8, q10, q19, q25, w4, d5, g2])))))
          refine Con.lend_at [] [own 5 1 (.slice ua un uc) (bv M.l[i].b)] h4 [1] rfl (fun F hF hs => Of_ok M.l[i] (seps_own hs 0 rfl).left) fun r B H5 hr h5 => ?_
          obtain ⟨rfl, rfl⟩ := hr
          simp only [front_eq, fronts_nil, fronts_cons, List.getElem?_cons_zero, List.getElem?_cons_succ, List.eraseIdx_cons_zero, List.eraseIdx_cons_succ, List.cons_append, List.nil_append, putL_cons, putL_nil, List.set_cons_zero, List.set_cons_succ, Nat.reduceAdd] at h5
          have w5 := h5.li 1 rfl
          obtain ⟨k6, off6, hl6, hk6, _, d6⟩ := (h5.rdsi 3 rfl Rd_own).el di_len (i := i) hi (by omega)
          cases hk6
          ((try simp only [S, TY, reduceCtorEq, nq0, nq1, nq2, nq3, nq4, iq0, iq1, iq2, iq3, iq4, iq5, iq6, iq7, iq8, q10, q19, q25, w4, d5, w5, d6, g2, gi]); (try (simp (disch := omega) only [W2, Int.cast_ofNat_Int]; (try simp only [S, TY, reduceCtorEq, nq0, nq1, nq2, nq3, nq4, iq0, iq1, iq2, iq3, iq4, iq5, iq6, iq7, iq8, q10, q19, q25, w4, d5, w5, d6, g2, gi]))); repeat ((first | (refine cl_drawi 53 D12_53 (List.range 11) (by decide) (by kernel_rfl) ?_; unfold D12_53)); simp only [S, TY, reduceCtorEq, nq0, nq1, nq2, nq3, nq4, iq0, iq1, iq2, iq3, iq4, iq5, iq6, iq7, iq8, q10, q19, q25, w4, d5, w5, d6, g2, gi]; (try (simp (disch := omega) only [W2, Int.cast_ofNat_Int]; (try simp only [S, TY, reduceCtorEq, nq0, nq1, nq2, nq3, nq4, iq0, iq1, iq2, iq3, iq4, iq5, iq6, iq7, iq8, q10, q19, q25, w4, d5, w5, d6, g2, gi])))))
          refine .go (i + 1) (by omega) ⟨by omega, q10, rfl, q19, ⟨h5.1, seps_take (B := [_, _]) (h5.fronts [2, 2]).2⟩⟩
        · have hi : M.l.drop i = [] := List.drop_eq_nil_of_le (by omega)
          rw [hi] at h
          ((try simp only [S, TY, reduceCtorEq, nq0, nq1, nq2, nq3, nq4, iq0, iq1, iq2, iq3, iq4, iq5, iq6, iq7, iq8, q10, q19, q25, g1]); (try (simp (disch := omega) only [W2, Int.cast_ofNat_Int]; (try simp only [S, TY, reduceCtorEq, nq0, nq1, nq2, nq3, nq4, iq0, iq1, iq2, iq3, iq4, iq5, iq6, iq7, iq8, q10, q19, q25, g1]))); repeat ((first | (refine cl_drawi 53 D12_53 (List.range 11) (by decide) (by kernel_rfl) ?_; unfold D12_53)); simp only [S, TY, reduceCtorEq, nq0, nq1, nq2, nq3, nq4, iq0, iq1, iq2, iq3, iq4, iq5, iq6, iq7, iq8, q10, q19, q25, g1]; (try (simp (disch := omega) only [W2, Int.cast_ofNat_Int]; (try simp only [S, TY, reduceCtorEq, nq0, nq1, nq2, nq3, nq4, iq0, iq1, iq2, iq3, iq4, iq5, iq6, iq7, iq8, q10, q19, q25, g1])))))
          refine alive.at_ h [] _ rfl fun r B H2 hr h2 => ?_
          obtain ⟨rfl, rfl⟩ := hr
          ((try simp only [S, TY, reduceCtorEq, nq0, nq1, nq2, nq3, nq4, iq0, iq1, iq2, iq3, iq4, iq5, iq6, iq7, iq8, q10]); (try (simp (disch := omega) only [W2, Int.cast_ofNat_Int]; (try simp only [S, TY, reduceCtorEq, nq0, nq1, nq2, nq3, nq4, iq0, iq1, iq2, iq3, iq4, iq5, iq6, iq7, iq8, q10]))); repeat ((first | (refine cl_drawi 53 D12_53 (List.range 11) (by decide) (by kernel_rfl) ?_; unfold D12_53)); simp only [S, TY, reduceCtorEq, nq0, nq1, nq2, nq3, nq4, iq0, iq1, iq2, iq3, iq4, iq5, iq6, iq7, iq8, q10]; (try (simp (disch := omega) only [W2, Int.cast_ofNat_Int]; (try simp only [S, TY, reduceCtorEq, nq0, nq1, nq2, nq3, nq4, iq0, iq1, iq2, iq3, iq4, iq5, iq6, iq7, iq8, q10])))))
          refine Len_ok.at_ h2 [0] _ rfl fun r B H3 hr h3 => ?_
          obtain ⟨rfl, rfl⟩ := hr
          ((try simp only [S, TY, reduceCtorEq, nq0, nq1, nq2, nq3, nq4, iq0, iq1, iq2, iq3, iq4, iq5, iq6, iq7, iq8]); (try (simp (disch := omega) only [W2, Int.cast_ofNat_Int]; (try simp only [S, TY, reduceCtorEq, nq0, nq1, nq2, nq3, nq4, iq0, iq1, iq2, iq3, iq4, iq5, iq6, iq7, iq8]))); repeat ((first | (refine cl_drawi 53 D12_53 (List.range 11) (by decide) (by kernel_rfl) ?_; unfold D12_53)); simp only [S, TY, reduceCtorEq, nq0, nq1, nq2, nq3, nq4, iq0, iq1, iq2, iq3, iq4, iq5, iq6, iq7, iq8]; (try (simp (disch := omega) only [W2, Int.cast_ofNat_Int]; (try simp only [S, TY, reduceCtorEq, nq0, nq1, nq2, nq3, nq4, iq0, iq1, iq2, iq3, iq4, iq5, iq6, iq7, iq8])))))
          exact fin_take (B := []) h3 ⟨rfl, rfl⟩
theorem keepsV {G : Hp} {v0 v1 v2 : Value} {y0 : (Ty.int .u16).den} {y1 : (Ty.sl AT).den} {y2 : (Ty.sl IT).den} (h0 : Ty.V G (.int .u16) v0 y0) (h1 : Ty.V G (.sl AT) v1 y1) (h2 : Ty.V G (.sl IT) v2 y2) :
    Con Try.prog G 12 [v0, v1, v2] [] (fun r B => r = .bool true ∧ B = []) := by
  rcases h0 with ⟨h, _⟩ | ⟨_, h0, k0⟩
  · cases h
  rcases h1 with ⟨h, _⟩ | ⟨_, w, h1, hv⟩
  · cases h
  rcases h2 with ⟨h, _⟩ | ⟨_, w2, h2, hm⟩
  · cases h
  cases h0; cases h1; cases h2
  obtain ⟨yl, _, _, e3, e4⟩ := items hm
  obtain ⟨z1, hz1⟩ : ∃ z : Int, z = y0 := ⟨_, rfl⟩
  rw [← hz1] at k0 ⊢
  simp only [Lit.wf, IntKind.min, IntKind.max, IntKind.signed, IntKind.bits, Bool.and_eq_true, decide_eq_true_eq] at k0
  have g1 : 0 ≤ z1 := by have := k0.1; simpa using this
  have g2 : z1 ≤ 65535 := by have := k0.2; simpa using this
  obtain ⟨rn, rfl⟩ : ∃ rn : Nat, z1 = (rn : Int) := ⟨z1.toNat, by omega⟩
  exact keepsLaw rn (by omega) hv e3 e4
end Go.Proofs.Ytanhmbdcdbcfmaa.NtY
