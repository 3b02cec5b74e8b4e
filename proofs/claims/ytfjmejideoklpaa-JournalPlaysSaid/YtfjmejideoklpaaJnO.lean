/- Journals: their calls, the program's and the document's. -/
import Derived.Test.YtfjmejideoklpaaJnM
import Derived.Test.YtfjmejideoklpaaDiskR
set_option linter.unusedVariables false
set_option linter.unusedSimpArgs false
set_option maxRecDepth 10000
set_option maxHeartbeats 1000000
namespace Go.Proofs.Ytfjmejideoklpaa.JnO
open Nat renaming reduceEqDiff → nq0, reduceAdd → nq1, reduceLeDiff → nq2, reduceBEq → nq3, reduceMul → nq4
open Int renaming reduceBEq → iq0, reduceEq → iq1, reduceLT → iq2, reduceLE → iq3, reduceAdd → iq4, reduceSub → iq5, reduceMul → iq6, reduceToNat → iq7, cast_ofNat_Int → iq8
open Go Go.Sl Go.Proofs Go.Proofs.Ytfjmejideoklpaa.Disk Go.Proofs.Ytfjmejideoklpaa.DiskR Go.Proofs.Ytfjmejideoklpaa.Buf Go.Proofs.Ytfjmejideoklpaa.BufRd Go.Proofs.Ytfjmejideoklpaa.BufRe Go.Proofs.Ytfjmejideoklpaa.BufP Go.Proofs.Ytfjmejideoklpaa.Jn Go.Proofs.Ytfjmejideoklpaa.JnP Go.Proofs.Ytfjmejideoklpaa.JnS Go.Proofs.Ytfjmejideoklpaa.JnE Go.Proofs.Ytfjmejideoklpaa.JnT Go.Proofs.Ytfjmejideoklpaa.JnM
theorem TY : aggN Try.prog 3 = some none ∧
  aggN Try.prog 5 = some none ∧
  aggN Try.prog 33 = some none ∧
  aggN Try.prog 34 = some none ∧
  aggN Try.prog 86 = some none ∧
  aggN Try.prog 89 = some none ∧
  aggN Try.prog 90 = some none ∧
  aggN Try.prog 93 = some none ∧
  aggN Try.prog 95 = some (some 3) ∧
  aggN Try.prog 106 = some (some 2) ∧
  aggN Try.prog 196 = some (some 2) ∧
  apI Try.prog 33 = some (5, 1, 1) ∧
  apI Try.prog 90 = some (33, 1, 24) ∧
  bIs Try.prog 95 = true ∧
  bIs Try.prog 106 = true ∧
  bIs Try.prog 196 = true ∧
  bySl Try.prog 33 = true ∧
  csz Try.prog 3 = some 1 ∧
  csz Try.prog 5 = some 1 ∧
  csz Try.prog 33 = some 1 ∧
  csz Try.prog 34 = some 1 ∧
  csz Try.prog 86 = some 1 ∧
  csz Try.prog 89 = some 1 ∧
  csz Try.prog 90 = some 1 ∧
  csz Try.prog 93 = some 1 ∧
  csz Try.prog 95 = some 3 ∧
  csz Try.prog 106 = some 2 ∧
  csz Try.prog 196 = some 2 ∧
  fIs Try.prog 95 0 = true ∧
  fIs Try.prog 106 0 = true ∧
  fIs Try.prog 106 1 = true ∧
  fIs Try.prog 196 0 = true ∧
  fIs Try.prog 196 1 = true ∧
  fOff Try.prog 95 0 = 0 ∧
  fOff Try.prog 106 0 = 0 ∧
  fOff Try.prog 106 1 = 1 ∧
  fOff Try.prog 196 0 = 0 ∧
  fOff Try.prog 196 1 = 1 ∧
  fTy Try.prog 95 0 = 33 ∧
  fTy Try.prog 106 0 = 93 ∧
  fTy Try.prog 106 1 = 3 ∧
  fTy Try.prog 196 0 = 86 ∧
  fTy Try.prog 196 1 = 3 ∧
  goes Try.prog 59 = true ∧
  goes Try.prog 61 = true ∧
  goes Try.prog 62 = true ∧
  goes Try.prog 63 = true ∧
  goes Try.prog 64 = true ∧
  goes Try.prog 121 = true ∧
  goes Try.prog 122 = true ∧
  goes Try.prog 123 = true ∧
  goes Try.prog 124 = true ∧
  goes Try.prog 125 = true ∧
  inIs Try.prog 3 = some .i64 ∧
  inIs Try.prog 5 = some .u8 ∧
  inIs Try.prog 34 = some .i64 ∧
  plcs Try.prog 95 = [(0, 1), (1, 1), (2, 1)] ∧
  plcs Try.prog 106 = [(0, 1), (1, 1)] ∧
  plcs Try.prog 196 = [(0, 1), (1, 1)] ∧
  ptIs Try.prog 86 = true ∧
  ptIs Try.prog 89 = true ∧
  ptIs Try.prog 93 = true ∧
  slEl Try.prog 33 = 5 ∧
  slEl Try.prog 90 = 33 ∧
  slIs Try.prog 33 = true ∧
  slIs Try.prog 90 = true ∧
  slSz Try.prog 33 = 1 ∧
  slSz Try.prog 90 = 1 ∧
  zcs Try.prog 95 = [.slice none 0 0, .int .i64 0, .int .i64 0] ∧
  zcs Try.prog 106 = [.pointer none, .int .i64 0] ∧
  zcs Try.prog 196 = [.pointer none, .int .i64 0] ∧
  zro Try.prog 3 = some (.int .i64 0) ∧
  zro Try.prog 5 = some (.int .u8 0) ∧
  zro Try.prog 33 = some (.slice none 0 0) ∧
  zro Try.prog 34 = some (.int .i64 0) ∧
  zro Try.prog 86 = some (.pointer none) ∧
  zro Try.prog 89 = some (.pointer none) ∧
  zro Try.prog 90 = some (.slice none 0 0) ∧
  zro Try.prog 93 = some (.pointer none) ∧
  zro Try.prog 95 = some (.agg #[.slice none 0 0, .int .i64 0, .int .i64 0]) ∧
  zro Try.prog 106 = some (.agg #[.pointer none, .int .i64 0]) ∧
  zro Try.prog 196 = some (.agg #[.pointer none, .int .i64 0]) :=
  ⟨by kernel_rfl, by kernel_rfl, by kernel_rfl, by kernel_rfl, by kernel_rfl, by kernel_rfl, by kernel_rfl, by kernel_rfl, by kernel_rfl, by kernel_rfl, by kernel_rfl, by kernel_rfl, by kernel_rfl, by kernel_rfl, by kernel_rfl, by kernel_rfl, by kernel_rfl, by kernel_rfl, by kernel_rfl, by kernel_rfl, by kernel_rfl, by kernel_rfl, by kernel_rfl, by kernel_rfl, by kernel_rfl, by kernel_rfl, by kernel_rfl, by kernel_rfl, by kernel_rfl, by kernel_rfl, by kernel_rfl, by kernel_rfl, by kernel_rfl, by kernel_rfl, by kernel_rfl, by kernel_rfl, by kernel_rfl, by kernel_rfl, by kernel_rfl, by kernel_rfl, by kernel_rfl, by kernel_rfl, by kernel_rfl, by kernel_rfl, by kernel_rfl, by kernel_rfl, by kernel_rfl, by kernel_rfl, by kernel_rfl, by kernel_rfl, by kernel_rfl, by kernel_rfl, by kernel_rfl, by kernel_rfl, by kernel_rfl, by kernel_rfl, by kernel_rfl, by kernel_rfl, by kernel_rfl, by kernel_rfl, by kernel_rfl, by kernel_rfl, by kernel_rfl, by kernel_rfl, by kernel_rfl, by kernel_rfl, by kernel_rfl, by kernel_rfl, by kernel_rfl, by kernel_rfl, by kernel_rfl, by kernel_rfl, by kernel_rfl, by kernel_rfl, by kernel_rfl, by kernel_rfl, by kernel_rfl, by kernel_rfl, by kernel_rfl, by kernel_rfl, by kernel_rfl, by kernel_rfl⟩
abbrev jP (p q n : Nat) : Asn := ob p (.cells #[.pointer (some ⟨q, 0, none⟩), .int .i64 (n : Int)] 196 (0, 0))
abbrev kP (p q n : Nat) : Asn := ob p (.cells #[.pointer (some ⟨q, 0, none⟩), .int .i64 (n : Int)] 106 (0, 0))
/-- The document's file, of a file. -/
def D.of (f : F) : D := ⟨f.safe ++ f.loose, f.safe.length, f.room⟩
def fopen (f : F) (n : Nat) : F := if n < f.safe.length + f.loose.length then ⟨(f.safe ++ f.loose).take n, [], f.room⟩ else f
theorem fopen_ok {f : F} (h : f.ok) (n : Nat) : (fopen f n).ok := by
  obtain ⟨h1, h2⟩ := h
  unfold fopen
  split
  · refine ⟨h1, ?_⟩
    simp only [List.length_take, List.length_append, List.length_nil]; omega
  · exact ⟨h1, h2⟩
theorem fopen_room (f : F) (n : Nat) : (fopen f n).room = f.room := by unfold fopen; split <;> rfl
def OpenR (q : Nat) (f : F) (r : Value) (B : List Asn) : Prop := ∃ p bs rest vs u, Scans (f.safe ++ f.loose) bs rest ∧ r = .tuple #[.pointer (some ⟨p, 0, none⟩), u, .int .i64 0] ∧
  B = [jP p q bs.length, own 33 1 u vs, blobs vs bs, isF q (fopen f (bs.flatMap rcd).length)]
theorem Open_ok {G : Hp} {q : Nat} {f : F} (hf : f.ok) (hr : f.room ≤ 65536) : Con Try.prog G 49 [.pointer (some ⟨q, 0, none⟩)] [isF q f] (OpenR q f) := by
  have hfl : f.safe.length + f.loose.length ≤ 65536 := by have := hf.2; omega
  have hll : (f.safe ++ f.loose).length = f.safe.length + f.loose.length := List.length_append
  refine Con.intro Try.func49 rfl (Nat.le_of_ble_eq_true (by kernel_rfl)) (by kernel_rfl) Try.results49 ?_
  intro H h
  ((try simp only [S, TY, reduceCtorEq, nq0, nq1, nq2, nq3, nq4, iq0, iq1, iq2, iq3, iq4, iq5, iq6, iq7, iq8]); (try (simp (disch := omega) only [W2, Int.cast_ofNat_Int]; (try simp only [S, TY, reduceCtorEq, nq0, nq1, nq2, nq3, nq4, iq0, iq1, iq2, iq3, iq4, iq5, iq6, iq7, iq8]))))
  refine (bytes_ok hf).at_ h [0] _ rfl fun r B H1 hr h1 => ?_
  subst hr
  obtain ⟨ba, bn, bc, rfl, e1, e2⟩ := h1.sl 0 rfl Rd_own
  rw [bv_length, Nat.mul_one, hll] at e1
  ((try simp only [S, TY, reduceCtorEq, nq0, nq1, nq2, nq3, nq4, iq0, iq1, iq2, iq3, iq4, iq5, iq6, iq7, iq8]); (try (simp (disch := omega) only [W2, Int.cast_ofNat_Int]; (try simp only [S, TY, reduceCtorEq, nq0, nq1, nq2, nq3, nq4, iq0, iq1, iq2, iq3, iq4, iq5, iq6, iq7, iq8]))))
  refine Con.lend_at [] [own 5 1 _ _] h1 [0] rfl (fun F hF hs => Scan_ok (l := f.safe ++ f.loose) (seps_own hs 0 rfl).left (by omega)) fun r B H2 hr h2 => ?_
  obtain ⟨bs, rest, vs, u, hsc, rfl, rfl⟩ := hr
  obtain ⟨ua, un, uc, rfl, y1, y2⟩ := h2.sl 0 rfl Rd_own
  have vl := (h2.front 1).blobs.len
  rw [Nat.mul_one, vl] at y1
  subst y1
  obtain ⟨m, hm⟩ : ∃ m, (bs.flatMap rcd).length = m := ⟨_, rfl⟩
  have hml : m ≤ f.safe.length + f.loose.length := by rw [← hm, ← hll, hsc.1, List.length_append]; omega
  rw [hm]
  by_cases g : (m : Int) < (bn : Nat)
  · have gn : ¬ ((m : Int) < 0 ∨ (f.safe.length : Int) + f.loose.length < (m : Int)) := by omega
    have ef : (f.cut (m : Int)).1 = fopen f m := by
      unfold F.cut fopen
      rw [if_neg gn, if_pos (by omega), Int.toNat_natCast]
    ((try simp only [S, TY, reduceCtorEq, nq0, nq1, nq2, nq3, nq4, iq0, iq1, iq2, iq3, iq4, iq5, iq6, iq7, iq8, g]); (try (simp (disch := omega) only [W2, Int.cast_ofNat_Int]; (try simp only [S, TY, reduceCtorEq, nq0, nq1, nq2, nq3, nq4, iq0, iq1, iq2, iq3, iq4, iq5, iq6, iq7, iq8, g]))))
    refine (cut_ok hf (m : Int)).at_ h2 [3] _ rfl fun r B H3 hr h3 => ?_
    obtain ⟨rfl, rfl⟩ := hr
    rw [ef] at h3
    ((try simp only [S, TY, reduceCtorEq, nq0, nq1, nq2, nq3, nq4, iq0, iq1, iq2, iq3, iq4, iq5, iq6, iq7, iq8]); (try (simp (disch := omega) only [W2, Int.cast_ofNat_Int]; (try simp only [S, TY, reduceCtorEq, nq0, nq1, nq2, nq3, nq4, iq0, iq1, iq2, iq3, iq4, iq5, iq6, iq7, iq8]))))
    intro p hp hg
    have h4 := h3.new hp hg (.cells #[.pointer (some ⟨q, 0, none⟩), .int .i64 (bs.length : Nat)] 196 (0, 0))
    ((try simp only [S, TY, reduceCtorEq, nq0, nq1, nq2, nq3, nq4, iq0, iq1, iq2, iq3, iq4, iq5, iq6, iq7, iq8]); (try (simp (disch := omega) only [W2, Int.cast_ofNat_Int]; (try simp only [S, TY, reduceCtorEq, nq0, nq1, nq2, nq3, nq4, iq0, iq1, iq2, iq3, iq4, iq5, iq6, iq7, iq8]))))
    refine fin_take (B := [_, _, _, _]) (h4.fronts [0, 1, 1, 0]) ⟨p, bs, rest, vs, _, hsc, rfl, by rw [hm]⟩
  · have ef : f = fopen f m := by unfold fopen; rw [if_neg (by omega)]
    ((try simp only [S, TY, reduceCtorEq, nq0, nq1, nq2, nq3, nq4, iq0, iq1, iq2, iq3, iq4, iq5, iq6, iq7, iq8, g]); (try (simp (disch := omega) only [W2, Int.cast_ofNat_Int]; (try simp only [S, TY, reduceCtorEq, nq0, nq1, nq2, nq3, nq4, iq0, iq1, iq2, iq3, iq4, iq5, iq6, iq7, iq8, g]))))
    intro p hp hg
    have h4 := h2.new hp hg (.cells #[.pointer (some ⟨q, 0, none⟩), .int .i64 (bs.length : Nat)] 196 (0, 0))
    ((try simp only [S, TY, reduceCtorEq, nq0, nq1, nq2, nq3, nq4, iq0, iq1, iq2, iq3, iq4, iq5, iq6, iq7, iq8]); (try (simp (disch := omega) only [W2, Int.cast_ofNat_Int]; (try simp only [S, TY, reduceCtorEq, nq0, nq1, nq2, nq3, nq4, iq0, iq1, iq2, iq3, iq4, iq5, iq6, iq7, iq8]))))
    refine fin_take (B := [_, _, _, _]) (h4.fronts [0, 0, 0, 1]) ⟨p, bs, rest, vs, _, hsc, rfl, by rw [hm, ← ef]⟩
theorem Open_nil {G : Hp} : Con Try.prog G 49 [.pointer none] [] (fun r B => r = .tuple #[.pointer none, .slice none 0 0, .int .i64 1] ∧ B = []) := by
  refine Con.intro Try.func49 rfl (Nat.le_of_ble_eq_true (by kernel_rfl)) (by kernel_rfl) Try.results49 ?_
  intro H h
  ((try simp only [S, TY, reduceCtorEq, nq0, nq1, nq2, nq3, nq4, iq0, iq1, iq2, iq3, iq4, iq5, iq6, iq7, iq8]); (try (simp (disch := omega) only [W2, Int.cast_ofNat_Int]; (try simp only [S, TY, reduceCtorEq, nq0, nq1, nq2, nq3, nq4, iq0, iq1, iq2, iq3, iq4, iq5, iq6, iq7, iq8]))))
  exact fin_ret h ⟨rfl, rfl⟩
def putM (f : F) (n : Nat) (b : List UInt8) : F × Nat × Int := if good b then ((f.add (rcd b)).1, if (f.add (rcd b)).2 = 0 then n + 1 else n, (f.add (rcd b)).2) else (f, n, 1)
theorem Put_ok {G : Hp} {p q n : Nat} {f : F} (hf : f.ok) (hn : n ≤ 1000000) {v : Value} {b : List UInt8} (hv : rds G 1 v (bv b)) (hl : b.length ≤ 100000) :
    Con Try.prog G 56 [.pointer (some ⟨p, 0, none⟩), v] [jP p q n, isF q f] (fun r B => r = .int .i64 (putM f n b).2.2 ∧ B = [jP p q (putM f n b).2.1, isF q (putM f n b).1]) := by
  obtain ⟨res, hres⟩ : ∃ r, putM f n b = r := ⟨_, rfl⟩
  rw [hres]
  refine Con.intro Try.func56 rfl (Nat.le_of_ble_eq_true (by kernel_rfl)) (by kernel_rfl) Try.results56 ?_
  intro H h
  have hv' := hv
  obtain ⟨va, vn, vc, rfl, _, _⟩ := hv'.slice
  ((try simp only [S, TY, reduceCtorEq, nq0, nq1, nq2, nq3, nq4, iq0, iq1, iq2, iq3, iq4, iq5, iq6, iq7, iq8]); (try (simp (disch := omega) only [W2, Int.cast_ofNat_Int]; (try simp only [S, TY, reduceCtorEq, nq0, nq1, nq2, nq3, nq4, iq0, iq1, iq2, iq3, iq4, iq5, iq6, iq7, iq8]))))
  refine (Encode_ok hv hl).at_ h [] _ rfl fun r B H1 hr h1 => ?_
  unfold EncR at hr
  by_cases hg : good b
  · rw [if_pos hg] at hr
    obtain ⟨u, rfl, rfl⟩ := hr
    obtain ⟨ua, un, uc, rfl, _, _⟩ := h1.sl 0 rfl Rd_own
    have c := (h1.front 1).c0
    ((try simp only [S, TY, reduceCtorEq, nq0, nq1, nq2, nq3, nq4, iq0, iq1, iq2, iq3, iq4, iq5, iq6, iq7, iq8, c]); (try (simp (disch := omega) only [W2, Int.cast_ofNat_Int]; (try simp only [S, TY, reduceCtorEq, nq0, nq1, nq2, nq3, nq4, iq0, iq1, iq2, iq3, iq4, iq5, iq6, iq7, iq8, c]))))
    refine Con.lend_at [isF q f] [own 5 1 _ _] h1 [2, 0] rfl (fun F hF hs => add_ok (bs := rcd b) hf (seps_own hs 0 rfl).left (by rw [rcd_len]; omega)) fun r B H2 hr h2 => ?_
    obtain ⟨rfl, rfl⟩ := hr
    have c2 := (h2.front 2).c0
    by_cases ge : (f.add (rcd b)).2 = 0
    · have e : res = ((f.add (rcd b)).1, n + 1, 0) := by rw [← hres]; unfold putM; rw [if_pos hg, ge]; rfl
      subst e
      rw [ge]
      ((try simp only [S, TY, reduceCtorEq, nq0, nq1, nq2, nq3, nq4, iq0, iq1, iq2, iq3, iq4, iq5, iq6, iq7, iq8, c2]); (try (simp (disch := omega) only [W2, Int.cast_ofNat_Int]; (try simp only [S, TY, reduceCtorEq, nq0, nq1, nq2, nq3, nq4, iq0, iq1, iq2, iq3, iq4, iq5, iq6, iq7, iq8, c2]))))
      refine sg.st (h2.front 2) rfl rfl fun H3 h3 => ?_
      simp only [front_eq, fronts_nil, fronts_cons, List.getElem?_cons_zero, List.getElem?_cons_succ, List.eraseIdx_cons_zero, List.eraseIdx_cons_succ, List.cons_append, List.nil_append, putL_cons, putL_nil, List.set_cons_zero, List.set_cons_succ, Nat.reduceAdd] at h3
      ((try simp only [S, TY, reduceCtorEq, nq0, nq1, nq2, nq3, nq4, iq0, iq1, iq2, iq3, iq4, iq5, iq6, iq7, iq8]); (try (simp (disch := omega) only [W2, Int.cast_ofNat_Int]; (try simp only [S, TY, reduceCtorEq, nq0, nq1, nq2, nq3, nq4, iq0, iq1, iq2, iq3, iq4, iq5, iq6, iq7, iq8]))))
      exact fin_take (B := [_, _]) (h3.fronts [0, 0]) ⟨rfl, rfl⟩
    · have e : res = ((f.add (rcd b)).1, n, (f.add (rcd b)).2) := by rw [← hres]; unfold putM; rw [if_pos hg, if_neg ge]
      subst e
      ((try simp only [S, TY, reduceCtorEq, nq0, nq1, nq2, nq3, nq4, iq0, iq1, iq2, iq3, iq4, iq5, iq6, iq7, iq8, ge]); (try (simp (disch := omega) only [W2, Int.cast_ofNat_Int]; (try simp only [S, TY, reduceCtorEq, nq0, nq1, nq2, nq3, nq4, iq0, iq1, iq2, iq3, iq4, iq5, iq6, iq7, iq8, ge]))))
      exact fin_take (B := [_, _]) (h2.fronts [2, 0]) ⟨rfl, rfl⟩
  · rw [if_neg hg] at hr
    obtain ⟨rfl, rfl⟩ := hr
    have e : res = (f, n, 1) := by rw [← hres]; unfold putM; rw [if_neg hg]
    subst e
    ((try simp only [S, TY, reduceCtorEq, nq0, nq1, nq2, nq3, nq4, iq0, iq1, iq2, iq3, iq4, iq5, iq6, iq7, iq8]); (try (simp (disch := omega) only [W2, Int.cast_ofNat_Int]; (try simp only [S, TY, reduceCtorEq, nq0, nq1, nq2, nq3, nq4, iq0, iq1, iq2, iq3, iq4, iq5, iq6, iq7, iq8]))))
    exact fin_ret h1 ⟨rfl, rfl⟩
theorem Put_nil {G : Hp} {v : Value} : Con Try.prog G 56 [.pointer none, v] [] (fun r B => r = .int .i64 1 ∧ B = []) := by
  refine Con.intro Try.func56 rfl (Nat.le_of_ble_eq_true (by kernel_rfl)) (by kernel_rfl) Try.results56 ?_
  intro H h
  ((try simp only [S, TY, reduceCtorEq, nq0, nq1, nq2, nq3, nq4, iq0, iq1, iq2, iq3, iq4, iq5, iq6, iq7, iq8]); (try (simp (disch := omega) only [W2, Int.cast_ofNat_Int]; (try simp only [S, TY, reduceCtorEq, nq0, nq1, nq2, nq3, nq4, iq0, iq1, iq2, iq3, iq4, iq5, iq6, iq7, iq8]))))
  exact fin_ret h ⟨rfl, rfl⟩
theorem Sync_ok {G : Hp} {p q n : Nat} {f : F} (hf : f.ok) : Con Try.prog G 51 [.pointer (some ⟨p, 0, none⟩)] [jP p q n, isF q f] (fun r B => B = [jP p q n, isF q f.sync]) := by
  refine Con.intro Try.func51 rfl (Nat.le_of_ble_eq_true (by kernel_rfl)) (by kernel_rfl) Try.results51 ?_
  intro H h
  have c := h.c0
  ((try simp only [S, TY, reduceCtorEq, nq0, nq1, nq2, nq3, nq4, iq0, iq1, iq2, iq3, iq4, iq5, iq6, iq7, iq8, c]); (try (simp (disch := omega) only [W2, Int.cast_ofNat_Int]; (try simp only [S, TY, reduceCtorEq, nq0, nq1, nq2, nq3, nq4, iq0, iq1, iq2, iq3, iq4, iq5, iq6, iq7, iq8, c]))))
  refine (sync_ok hf).at_ h [1] _ rfl fun r B H1 hr h1 => ?_
  obtain ⟨rfl, rfl⟩ := hr
  ((try simp only [S, TY, reduceCtorEq, nq0, nq1, nq2, nq3, nq4, iq0, iq1, iq2, iq3, iq4, iq5, iq6, iq7, iq8]); (try (simp (disch := omega) only [W2, Int.cast_ofNat_Int]; (try simp only [S, TY, reduceCtorEq, nq0, nq1, nq2, nq3, nq4, iq0, iq1, iq2, iq3, iq4, iq5, iq6, iq7, iq8]))))
  exact fin_take (B := [_, _]) (h1.fronts [1, 0]) rfl
theorem Sync_nil {G : Hp} : Con Try.prog G 51 [.pointer none] [] (fun r B => B = []) := by
  refine Con.intro Try.func51 rfl (Nat.le_of_ble_eq_true (by kernel_rfl)) (by kernel_rfl) Try.results51 ?_
  intro H h
  ((try simp only [S, TY, reduceCtorEq, nq0, nq1, nq2, nq3, nq4, iq0, iq1, iq2, iq3, iq4, iq5, iq6, iq7, iq8]); (try (simp (disch := omega) only [W2, Int.cast_ofNat_Int]; (try simp only [S, TY, reduceCtorEq, nq0, nq1, nq2, nq3, nq4, iq0, iq1, iq2, iq3, iq4, iq5, iq6, iq7, iq8]))))
  exact fin_ret h rfl
theorem Len_ok {G : Hp} {p q n : Nat} : Con Try.prog G 58 [.pointer (some ⟨p, 0, none⟩)] [jP p q n] (fun r B => r = .int .i64 (n : Int) ∧ B = [jP p q n]) := by
  refine Con.intro Try.func58 rfl (Nat.le_of_ble_eq_true (by kernel_rfl)) (by kernel_rfl) Try.results58 ?_
  intro H h
  have c := h.c0
  ((try simp only [S, TY, reduceCtorEq, nq0, nq1, nq2, nq3, nq4, iq0, iq1, iq2, iq3, iq4, iq5, iq6, iq7, iq8, c]); (try (simp (disch := omega) only [W2, Int.cast_ofNat_Int]; (try simp only [S, TY, reduceCtorEq, nq0, nq1, nq2, nq3, nq4, iq0, iq1, iq2, iq3, iq4, iq5, iq6, iq7, iq8, c]))))
  exact fin_ret h ⟨rfl, rfl⟩
theorem Len_nil {G : Hp} : Con Try.prog G 58 [.pointer none] [] (fun r B => r = .int .i64 0 ∧ B = []) := by
  refine Con.intro Try.func58 rfl (Nat.le_of_ble_eq_true (by kernel_rfl)) (by kernel_rfl) Try.results58 ?_
  intro H h
  ((try simp only [S, TY, reduceCtorEq, nq0, nq1, nq2, nq3, nq4, iq0, iq1, iq2, iq3, iq4, iq5, iq6, iq7, iq8]); (try (simp (disch := omega) only [W2, Int.cast_ofNat_Int]; (try simp only [S, TY, reduceCtorEq, nq0, nq1, nq2, nq3, nq4, iq0, iq1, iq2, iq3, iq4, iq5, iq6, iq7, iq8]))))
  exact fin_ret h ⟨rfl, rfl⟩
def dopen (m : D) (n : Nat) : D := if n < m.b.length then ⟨m.b.take n, n, m.room⟩ else m
def dOpenR (q : Nat) (m : D) (r : Value) (B : List Asn) : Prop := ∃ p bs rest vs u, Scans m.b bs rest ∧ r = .tuple #[.pointer (some ⟨p, 0, none⟩), u] ∧
  B = [kP p q bs.length, own 33 1 u vs, blobs vs bs, isD q (dopen m (bs.flatMap rcd).length)]
theorem dOpen_ok {G : Hp} {q : Nat} {m : D} (hl : m.b.length ≤ 65536) : Con Try.prog G 50 [.pointer (some ⟨q, 0, none⟩)] [isD q m] (dOpenR q m) := by
  refine Con.intro Try.func50 rfl (Nat.le_of_ble_eq_true (by kernel_rfl)) (by kernel_rfl) Try.results50 ?_
  intro H h
  obtain ⟨sa, sn, sc, e1, e2, h1⟩ := isD_open h
  have c := h1.c0
  ((try simp only [S, TY, reduceCtorEq, nq0, nq1, nq2, nq3, nq4, iq0, iq1, iq2, iq3, iq4, iq5, iq6, iq7, iq8, c]); (try (simp (disch := omega) only [W2, Int.cast_ofNat_Int]; (try simp only [S, TY, reduceCtorEq, nq0, nq1, nq2, nq3, nq4, iq0, iq1, iq2, iq3, iq4, iq5, iq6, iq7, iq8, c]))))
  refine Con.lend_at [] [own 5 1 _ _] h1 [1] rfl (fun F hF hs => dScan_ok (l := m.b) (seps_own hs 0 rfl).left (by omega)) fun r B H2 hr h2 => ?_
  obtain ⟨bs, rest, vs, u, hsc, rfl, rfl⟩ := hr
  obtain ⟨ua, un, uc, rfl, y1, y2⟩ := h2.sl 0 rfl Rd_own
  have vl := (h2.front 1).blobs.len
  rw [Nat.mul_one, vl] at y1
  subst y1
  have c2 := (h2.front 3).c0
  obtain ⟨k, hk⟩ : ∃ k, (bs.flatMap rcd).length = k := ⟨_, rfl⟩
  have hkl : k ≤ m.b.length := by rw [← hk, hsc.1, List.length_append]; omega
  rw [hk]
  by_cases g : (k : Int) < (sn : Nat)
  · have ef : (m.cut (k : Int)).1 = dopen m k := by
      unfold D.cut dopen
      rw [if_neg (by omega), if_pos (by omega), Int.toNat_natCast]
    ((try simp only [S, TY, reduceCtorEq, nq0, nq1, nq2, nq3, nq4, iq0, iq1, iq2, iq3, iq4, iq5, iq6, iq7, iq8, c2, g]); (try (simp (disch := omega) only [W2, Int.cast_ofNat_Int]; (try simp only [S, TY, reduceCtorEq, nq0, nq1, nq2, nq3, nq4, iq0, iq1, iq2, iq3, iq4, iq5, iq6, iq7, iq8, c2, g]))))
    have h3 := isD_shut (m := m) (h2.fronts [3, 2])
    refine (rcut (m := m) (k : Int)).at_ h3 [0] _ rfl fun r B H4 hr h4 => ?_
    obtain ⟨rfl, rfl⟩ := hr
    rw [ef] at h4
    ((try simp only [S, TY, reduceCtorEq, nq0, nq1, nq2, nq3, nq4, iq0, iq1, iq2, iq3, iq4, iq5, iq6, iq7, iq8]); (try (simp (disch := omega) only [W2, Int.cast_ofNat_Int]; (try simp only [S, TY, reduceCtorEq, nq0, nq1, nq2, nq3, nq4, iq0, iq1, iq2, iq3, iq4, iq5, iq6, iq7, iq8]))))
    intro p hp hg
    have h5 := h4.new hp hg (.cells #[.pointer (some ⟨q, 0, none⟩), .int .i64 (bs.length : Nat)] 106 (0, 0))
    ((try simp only [S, TY, reduceCtorEq, nq0, nq1, nq2, nq3, nq4, iq0, iq1, iq2, iq3, iq4, iq5, iq6, iq7, iq8]); (try (simp (disch := omega) only [W2, Int.cast_ofNat_Int]; (try simp only [S, TY, reduceCtorEq, nq0, nq1, nq2, nq3, nq4, iq0, iq1, iq2, iq3, iq4, iq5, iq6, iq7, iq8]))))
    refine fin_take (B := [_, _, _, _]) (h5.fronts [0, 1, 1, 0]) ⟨p, bs, rest, vs, _, hsc, rfl, by rw [hk]⟩
  · have ef : m = dopen m k := by unfold dopen; rw [if_neg (by omega)]
    ((try simp only [S, TY, reduceCtorEq, nq0, nq1, nq2, nq3, nq4, iq0, iq1, iq2, iq3, iq4, iq5, iq6, iq7, iq8, c2, g]); (try (simp (disch := omega) only [W2, Int.cast_ofNat_Int]; (try simp only [S, TY, reduceCtorEq, nq0, nq1, nq2, nq3, nq4, iq0, iq1, iq2, iq3, iq4, iq5, iq6, iq7, iq8, c2, g]))))
    have h3 := isD_shut (m := m) (h2.fronts [3, 2])
    intro p hp hg
    have h5 := h3.new hp hg (.cells #[.pointer (some ⟨q, 0, none⟩), .int .i64 (bs.length : Nat)] 106 (0, 0))
    ((try simp only [S, TY, reduceCtorEq, nq0, nq1, nq2, nq3, nq4, iq0, iq1, iq2, iq3, iq4, iq5, iq6, iq7, iq8]); (try (simp (disch := omega) only [W2, Int.cast_ofNat_Int]; (try simp only [S, TY, reduceCtorEq, nq0, nq1, nq2, nq3, nq4, iq0, iq1, iq2, iq3, iq4, iq5, iq6, iq7, iq8]))))
    refine fin_take (B := [_, _, _, _]) (h5.fronts [0, 1, 1, 0]) ⟨p, bs, rest, vs, _, hsc, rfl, by rw [hk, ← ef]⟩
def putD (m : D) (n : Nat) (b : List UInt8) : D × Nat × Int := if good b then ((m.add (rcd b)).1, if (m.add (rcd b)).2 = 0 then n + 1 else n, (m.add (rcd b)).2) else (m, n, 1)
theorem dPut_ok {G : Hp} {p q n : Nat} {m : D} (hm : m.b.length ≤ 16777216) (hn : n ≤ 1000000) {v : Value} {b : List UInt8} (hv : rds G 1 v (bv b)) (hl : b.length ≤ 100000) :
    Con Try.prog G 57 [.pointer (some ⟨p, 0, none⟩), v] [kP p q n, isD q m] (fun r B => r = .int .i64 (putD m n b).2.2 ∧ B = [kP p q (putD m n b).2.1, isD q (putD m n b).1]) := by
  obtain ⟨res, hres⟩ : ∃ r, putD m n b = r := ⟨_, rfl⟩
  rw [hres]
  refine Con.intro Try.func57 rfl (Nat.le_of_ble_eq_true (by kernel_rfl)) (by kernel_rfl) Try.results57 ?_
  intro H h
  have hv' := hv
  obtain ⟨va, vn, vc, rfl, _, _⟩ := hv'.slice
  ((try simp only [S, TY, reduceCtorEq, nq0, nq1, nq2, nq3, nq4, iq0, iq1, iq2, iq3, iq4, iq5, iq6, iq7, iq8]); (try (simp (disch := omega) only [W2, Int.cast_ofNat_Int]; (try simp only [S, TY, reduceCtorEq, nq0, nq1, nq2, nq3, nq4, iq0, iq1, iq2, iq3, iq4, iq5, iq6, iq7, iq8]))))
  refine (dEncode_ok hv hl).at_ h [] _ rfl fun r B H1 hr h1 => ?_
  unfold EncR at hr
  by_cases hg : good b
  · rw [if_pos hg] at hr
    obtain ⟨u, rfl, rfl⟩ := hr
    obtain ⟨ua, un, uc, rfl, _, _⟩ := h1.sl 0 rfl Rd_own
    have c := (h1.front 1).c0
    ((try simp only [S, TY, reduceCtorEq, nq0, nq1, nq2, nq3, nq4, iq0, iq1, iq2, iq3, iq4, iq5, iq6, iq7, iq8, c]); (try (simp (disch := omega) only [W2, Int.cast_ofNat_Int]; (try simp only [S, TY, reduceCtorEq, nq0, nq1, nq2, nq3, nq4, iq0, iq1, iq2, iq3, iq4, iq5, iq6, iq7, iq8, c]))))
    refine Con.lend_at [isD q m] [own 5 1 _ _] h1 [2, 0] rfl (fun F hF hs => radd (bs := rcd b) hm (seps_own hs 0 rfl).left (by rw [rcd_len]; omega)) fun r B H2 hr h2 => ?_
    obtain ⟨rfl, rfl⟩ := hr
    have c2 := (h2.front 2).c0
    by_cases ge : (m.add (rcd b)).2 = 0
    · have e : res = ((m.add (rcd b)).1, n + 1, 0) := by rw [← hres]; unfold putD; rw [if_pos hg, ge]; rfl
      subst e
      rw [ge]
      ((try simp only [S, TY, reduceCtorEq, nq0, nq1, nq2, nq3, nq4, iq0, iq1, iq2, iq3, iq4, iq5, iq6, iq7, iq8, c2]); (try (simp (disch := omega) only [W2, Int.cast_ofNat_Int]; (try simp only [S, TY, reduceCtorEq, nq0, nq1, nq2, nq3, nq4, iq0, iq1, iq2, iq3, iq4, iq5, iq6, iq7, iq8, c2]))))
      refine sg.st (h2.front 2) rfl rfl fun H3 h3 => ?_
      simp only [front_eq, fronts_nil, fronts_cons, List.getElem?_cons_zero, List.getElem?_cons_succ, List.eraseIdx_cons_zero, List.eraseIdx_cons_succ, List.cons_append, List.nil_append, putL_cons, putL_nil, List.set_cons_zero, List.set_cons_succ, Nat.reduceAdd] at h3
      ((try simp only [S, TY, reduceCtorEq, nq0, nq1, nq2, nq3, nq4, iq0, iq1, iq2, iq3, iq4, iq5, iq6, iq7, iq8]); (try (simp (disch := omega) only [W2, Int.cast_ofNat_Int]; (try simp only [S, TY, reduceCtorEq, nq0, nq1, nq2, nq3, nq4, iq0, iq1, iq2, iq3, iq4, iq5, iq6, iq7, iq8]))))
      exact fin_take (B := [_, _]) (h3.fronts [0, 0]) ⟨rfl, rfl⟩
    · have e : res = ((m.add (rcd b)).1, n, (m.add (rcd b)).2) := by rw [← hres]; unfold putD; rw [if_pos hg, if_neg ge]
      subst e
      ((try simp only [S, TY, reduceCtorEq, nq0, nq1, nq2, nq3, nq4, iq0, iq1, iq2, iq3, iq4, iq5, iq6, iq7, iq8, ge]); (try (simp (disch := omega) only [W2, Int.cast_ofNat_Int]; (try simp only [S, TY, reduceCtorEq, nq0, nq1, nq2, nq3, nq4, iq0, iq1, iq2, iq3, iq4, iq5, iq6, iq7, iq8, ge]))))
      exact fin_take (B := [_, _]) (h2.fronts [2, 0]) ⟨rfl, rfl⟩
  · rw [if_neg hg] at hr
    obtain ⟨rfl, rfl⟩ := hr
    have e : res = (m, n, 1) := by rw [← hres]; unfold putD; rw [if_neg hg]
    subst e
    ((try simp only [S, TY, reduceCtorEq, nq0, nq1, nq2, nq3, nq4, iq0, iq1, iq2, iq3, iq4, iq5, iq6, iq7, iq8]); (try (simp (disch := omega) only [W2, Int.cast_ofNat_Int]; (try simp only [S, TY, reduceCtorEq, nq0, nq1, nq2, nq3, nq4, iq0, iq1, iq2, iq3, iq4, iq5, iq6, iq7, iq8]))))
    exact fin_ret h1 ⟨rfl, rfl⟩
end Go.Proofs.Ytfjmejideoklpaa.JnO
