/- Journals: acts; files that are the document's; the laws' common parts. -/
import Derived.Test.YtfjmejideoklpaaJnA
set_option linter.unusedVariables false
set_option linter.unusedSimpArgs false
set_option maxRecDepth 10000
set_option maxHeartbeats 1000000
namespace Go.Proofs.Ytfjmejideoklpaa.JnW
open Nat renaming reduceEqDiff → nq0, reduceAdd → nq1, reduceLeDiff → nq2, reduceBEq → nq3, reduceMul → nq4
open Int renaming reduceBEq → iq0, reduceEq → iq1, reduceLT → iq2, reduceLE → iq3, reduceAdd → iq4, reduceSub → iq5, reduceMul → iq6, reduceToNat → iq7, cast_ofNat_Int → iq8
open Go Go.Sl Go.Proofs Go.Proofs.Ytfjmejideoklpaa.Disk Go.Proofs.Ytfjmejideoklpaa.DiskR Go.Proofs.Ytfjmejideoklpaa.Jn Go.Proofs.Ytfjmejideoklpaa.JnP Go.Proofs.Ytfjmejideoklpaa.JnS Go.Proofs.Ytfjmejideoklpaa.JnE Go.Proofs.Ytfjmejideoklpaa.JnT Go.Proofs.Ytfjmejideoklpaa.JnM Go.Proofs.Ytfjmejideoklpaa.JnO Go.Proofs.Ytfjmejideoklpaa.JnL Go.Proofs.Ytfjmejideoklpaa.JnA
theorem TY : aggN Try.prog 3 = some none ∧
  aggN Try.prog 5 = some none ∧
  aggN Try.prog 33 = some none ∧
  aggN Try.prog 84 = some none ∧
  aggN Try.prog 100 = some (some 3) ∧
  apI Try.prog 33 = some (5, 1, 1) ∧
  apI Try.prog 84 = some (100, 3, 40) ∧
  bIs Try.prog 100 = true ∧
  bySl Try.prog 33 = true ∧
  csz Try.prog 3 = some 1 ∧
  csz Try.prog 5 = some 1 ∧
  csz Try.prog 33 = some 1 ∧
  csz Try.prog 84 = some 1 ∧
  csz Try.prog 100 = some 3 ∧
  fIs Try.prog 100 1 = true ∧
  fOff Try.prog 100 1 = 1 ∧
  fTy Try.prog 100 1 = 33 ∧
  inIs Try.prog 3 = some .i64 ∧
  inIs Try.prog 5 = some .u8 ∧
  plcs Try.prog 100 = [(0, 1), (1, 1), (2, 1)] ∧
  slEl Try.prog 33 = 5 ∧
  slEl Try.prog 84 = 100 ∧
  slIs Try.prog 33 = true ∧
  slIs Try.prog 84 = true ∧
  slSz Try.prog 33 = 1 ∧
  slSz Try.prog 84 = 3 ∧
  zcs Try.prog 100 = [.int .u8 0, .slice none 0 0, .int .i64 0] ∧
  zro Try.prog 3 = some (.int .i64 0) ∧
  zro Try.prog 5 = some (.int .u8 0) ∧
  zro Try.prog 33 = some (.slice none 0 0) ∧
  zro Try.prog 84 = some (.slice none 0 0) ∧
  zro Try.prog 100 = some (.agg #[.int .u8 0, .slice none 0 0, .int .i64 0]) :=
  ⟨by kernel_rfl, by kernel_rfl, by kernel_rfl, by kernel_rfl, by kernel_rfl, by kernel_rfl, by kernel_rfl, by kernel_rfl, by kernel_rfl, by kernel_rfl, by kernel_rfl, by kernel_rfl, by kernel_rfl, by kernel_rfl, by kernel_rfl, by kernel_rfl, by kernel_rfl, by kernel_rfl, by kernel_rfl, by kernel_rfl, by kernel_rfl, by kernel_rfl, by kernel_rfl, by kernel_rfl, by kernel_rfl, by kernel_rfl, by kernel_rfl, by kernel_rfl, by kernel_rfl, by kernel_rfl, by kernel_rfl, by kernel_rfl⟩
abbrev AT : Ty := .st (.pr (.int .u8) (.pr .bytes (.pr (.int .i64) .un)))
abbrev Acts (G : Hp) (v : Value) (l : List AT.den) : Prop := rdl G 3 (AT.R G) v l
theorem add_fok {f : F} (h : f.ok) (b : List UInt8) : (f.add b).1.ok ∧ (f.add b).1.room = f.room := by
  obtain ⟨h1, h2⟩ := h
  unfold F.add
  split
  · rename_i g
    exact ⟨⟨h1, by simp only [List.length_append]; omega⟩, rfl⟩
  · exact ⟨⟨h1, h2⟩, rfl⟩
theorem sync_fok {f : F} (h : f.ok) : f.sync.ok := by
  obtain ⟨h1, h2⟩ := h
  exact ⟨h1, by simp only [F.sync, List.length_append, List.length_nil]; omega⟩
theorem crash_fok {f : F} (h : f.ok) (n : Int) : (f.crash n).1.ok := by
  obtain ⟨h1, h2⟩ := h
  exact ⟨h1, by simp only [F.crash, List.length_append, List.length_take, List.length_nil]; omega⟩
theorem put_fok {f : F} (h : f.ok) (n : Nat) (b : List UInt8) : (putM f n b).1.ok ∧ (putM f n b).1.room = f.room ∧ (putM f n b).2.1 ≤ n + 1 := by
  unfold putM
  split
  · refine ⟨(add_fok h _).1, (add_fok h _).2, ?_⟩
    simp only
    split <;> omega
  · exact ⟨h, rfl, by simp⟩
theorem add_of (f : F) (b : List UInt8) : (D.of f).add b = (D.of (f.add b).1, (f.add b).2) := by
  unfold D.add F.add D.of
  simp only [List.length_append]
  by_cases g : (f.safe.length : Int) + f.loose.length + b.length ≤ f.room
  · rw [if_pos g, if_neg (by omega)]
    simp only [List.append_assoc]
  · rw [if_neg g, if_pos (by omega)]
theorem put_of (f : F) (n : Nat) (b : List UInt8) : putD (D.of f) n b = (D.of (putM f n b).1, (putM f n b).2.1, (putM f n b).2.2) := by
  unfold putD putM
  split
  · rw [add_of]
  · rfl
theorem sync_of (f : F) : ({ D.of f with safe := (D.of f).b.length } : D) = D.of f.sync := by
  unfold D.of F.sync
  simp
theorem crash_of (f : F) (n : Int) : (⟨(D.of f).b.take (min ((D.of f).safe + max n 0) (D.of f).b.length).toNat, (min ((D.of f).safe + max n 0) (D.of f).b.length).toNat, (D.of f).room⟩ : D) = D.of (f.crash n).1 := by
  have e : (min ((f.safe.length : Int) + max n 0) ((f.safe ++ f.loose).length : Nat)).toNat = f.safe.length + (min (max n 0) f.loose.length).toNat := by
    rw [List.length_append]; omega
  unfold D.of F.crash
  simp only [e]
  rw [List.take_append, List.take_of_length_le (by omega), Nat.add_sub_cancel_left]
  simp only [List.append_nil, List.length_append, List.length_take]
  congr 1
  omega
theorem open_of (f : F) (n : Nat) : dopen (D.of f) n = D.of (fopen f n) := by
  unfold dopen fopen D.of
  simp only [List.length_append]
  split
  · rename_i g
    simp only [List.append_nil, List.length_take, List.length_append]
    congr 1
    omega
  · rfl
theorem of_len {f : F} (h : f.ok) (hr : f.room ≤ 65536) : (D.of f).b.length ≤ 65536 := by
  obtain ⟨h1, h2⟩ := h
  unfold D.of
  simp only [List.length_append]; omega
theorem fits {G : Hp} {v : Value} {l : List AT.den} (hv : Acts G v l) : Con Try.prog G 46 [v] [] (fun r B => ∃ b : Bool, r = .bool b ∧ B = [] ∧ (b = true → l.length ≤ 60 ∧ ∀ x ∈ l, x.2.1.length ≤ 3000)) := by
  refine Con.intro Try.func46 rfl (Nat.le_of_ble_eq_true (by kernel_rfl)) (by kernel_rfl) Try.results46 ?_
  intro H hH
  obtain ⟨a, n, c, rfl, e1, e2⟩ := hv.shape (by decide)
  ((try simp only [S, TY, reduceCtorEq, nq0, nq1, nq2, nq3, nq4, iq0, iq1, iq2, iq3, iq4, iq5, iq6, iq7, iq8]); (try (simp (disch := omega) only [W2, Int.cast_ofNat_Int]; (try simp only [S, TY, reduceCtorEq, nq0, nq1, nq2, nq3, nq4, iq0, iq1, iq2, iq3, iq4, iq5, iq6, iq7, iq8]))))
  refine cl_loop (fun i e H => i ≤ n ∧ i ≤ 61 ∧ e 0 = .slice a n c ∧ e 3 = .int .i64 i ∧ (∀ (j : Nat) (x : AT.den), j < i → l[j]? = some x → x.2.1.length ≤ 3000) ∧ sg G [] H) (fun i => n - i) 0
    ⟨by omega, by omega, rfl, rfl, fun j x hj => by omega, hH⟩ ?_
  rintro i e H ⟨q1, q2, q3, q4, q7, hH⟩
  by_cases g1 : (i : Int) < n ∧ (i : Int) ≤ 60
  · obtain ⟨b, off, cs, hl, rfl, hQ, _, hc, _⟩ := (hH.rol hv).at (by decide) (i := i) (by omega)
    obtain ⟨c1, c2, rfl, _, ⟨rfl, hk⟩, c3, c4, rfl, _, ⟨w, rfl, hb⟩, c5, c6, rfl, _, ⟨rfl, hn⟩, rfl⟩ := hQ
    obtain ⟨wa, wn, wc, rfl, f1, f2⟩ := hb.slice
    have d1 := hc 1 (by decide)
    have g0 : (0 : Int) ≤ i ∧ (i : Int) < n := ⟨by omega, g1.1⟩
    ((try simp only [S, TY, reduceCtorEq, nq0, nq1, nq2, nq3, nq4, iq0, iq1, iq2, iq3, iq4, iq5, iq6, iq7, iq8, q3, q4, g1, g0, d1]); (try (simp (disch := omega) only [W2, Int.cast_ofNat_Int]; (try simp only [S, TY, reduceCtorEq, nq0, nq1, nq2, nq3, nq4, iq0, iq1, iq2, iq3, iq4, iq5, iq6, iq7, iq8, q3, q4, g1, g0, d1]))))
    refine Gate.intro (fun g => ?_) (fun g => ?_)
    · ((try simp only [S, TY, reduceCtorEq, nq0, nq1, nq2, nq3, nq4, iq0, iq1, iq2, iq3, iq4, iq5, iq6, iq7, iq8, q3, q4]); (try (simp (disch := omega) only [W2, Int.cast_ofNat_Int]; (try simp only [S, TY, reduceCtorEq, nq0, nq1, nq2, nq3, nq4, iq0, iq1, iq2, iq3, iq4, iq5, iq6, iq7, iq8, q3, q4]))))
      exact fin_ret hH ⟨false, rfl, rfl, fun h => by cases h⟩
    · ((try simp only [S, TY, reduceCtorEq, nq0, nq1, nq2, nq3, nq4, iq0, iq1, iq2, iq3, iq4, iq5, iq6, iq7, iq8, q3, q4, g1, g0, d1]); (try (simp (disch := omega) only [W2, Int.cast_ofNat_Int]; (try simp only [S, TY, reduceCtorEq, nq0, nq1, nq2, nq3, nq4, iq0, iq1, iq2, iq3, iq4, iq5, iq6, iq7, iq8, q3, q4, g1, g0, d1]))))
      refine .go (i + 1) (by omega) ⟨by omega, by omega, q3, rfl, fun j x hj hx => ?_, hH⟩
      by_cases hji : j = i
      · subst hji
        rw [List.getElem?_eq_getElem hl] at hx
        cases hx
        rw [bv_length] at f1
        omega
      · exact q7 j x (by omega) hx
  · by_cases g2 : (i : Int) < n
    · have g3 : ¬ (i : Int) ≤ 60 := fun h => g1 ⟨g2, h⟩
      have g4 : ¬ (n : Int) ≤ 60 := by omega
      ((try simp only [S, TY, reduceCtorEq, nq0, nq1, nq2, nq3, nq4, iq0, iq1, iq2, iq3, iq4, iq5, iq6, iq7, iq8, q3, q4, g2, g3, g4]); (try (simp (disch := omega) only [W2, Int.cast_ofNat_Int]; (try simp only [S, TY, reduceCtorEq, nq0, nq1, nq2, nq3, nq4, iq0, iq1, iq2, iq3, iq4, iq5, iq6, iq7, iq8, q3, q4, g2, g3, g4]))))
      exact fin_ret hH ⟨false, rfl, rfl, fun h => by cases h⟩
    · ((try simp only [S, TY, reduceCtorEq, nq0, nq1, nq2, nq3, nq4, iq0, iq1, iq2, iq3, iq4, iq5, iq6, iq7, iq8, q3, q4, g2]); (try (simp (disch := omega) only [W2, Int.cast_ofNat_Int]; (try simp only [S, TY, reduceCtorEq, nq0, nq1, nq2, nq3, nq4, iq0, iq1, iq2, iq3, iq4, iq5, iq6, iq7, iq8, q3, q4, g2]))))
      by_cases g3 : (n : Int) ≤ 60
      · ((try simp only [S, TY, reduceCtorEq, nq0, nq1, nq2, nq3, nq4, iq0, iq1, iq2, iq3, iq4, iq5, iq6, iq7, iq8, q3, q4, g2, g3]); (try (simp (disch := omega) only [W2, Int.cast_ofNat_Int]; (try simp only [S, TY, reduceCtorEq, nq0, nq1, nq2, nq3, nq4, iq0, iq1, iq2, iq3, iq4, iq5, iq6, iq7, iq8, q3, q4, g2, g3]))))
        exact fin_ret hH ⟨_, rfl, rfl, fun _ => ⟨by omega, fun x hx => by obtain ⟨j, hj⟩ := List.getElem?_of_mem hx; exact q7 j x (by have := (List.getElem?_eq_some_iff.1 hj).1; omega) hj⟩⟩
      · ((try simp only [S, TY, reduceCtorEq, nq0, nq1, nq2, nq3, nq4, iq0, iq1, iq2, iq3, iq4, iq5, iq6, iq7, iq8, q3, q4, g2, g3]); (try (simp (disch := omega) only [W2, Int.cast_ofNat_Int]; (try simp only [S, TY, reduceCtorEq, nq0, nq1, nq2, nq3, nq4, iq0, iq1, iq2, iq3, iq4, iq5, iq6, iq7, iq8, q3, q4, g2, g3]))))
        exact fin_ret hH ⟨false, rfl, rfl, fun h => by cases h⟩
end Go.Proofs.Ytfjmejideoklpaa.JnW
