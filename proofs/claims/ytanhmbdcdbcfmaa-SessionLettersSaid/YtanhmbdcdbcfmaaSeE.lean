/- session's Encode and Decode, over the machine. -/
import Derived.Test.YtanhmbdcdbcfmaaSe
import Derived.Test.YtanhmbdcdbcfmaaWr
set_option linter.unusedVariables false
set_option linter.unusedSimpArgs false
set_option maxRecDepth 10000
set_option maxHeartbeats 2000000
namespace Go.Proofs.Ytanhmbdcdbcfmaa.SeE
open Nat renaming reduceEqDiff → nq0, reduceAdd → nq1, reduceLeDiff → nq2, reduceBEq → nq3, reduceMul → nq4
open Int renaming reduceBEq → iq0, reduceEq → iq1, reduceLT → iq2, reduceLE → iq3, reduceAdd → iq4, reduceSub → iq5, reduceMul → iq6, reduceToNat → iq7, cast_ofNat_Int → iq8
open Go Go.Sl Go.Proofs Go.Proofs.Ytanhmbdcdbcfmaa.Buf Go.Proofs.Ytanhmbdcdbcfmaa.BufRd Go.Proofs.Ytanhmbdcdbcfmaa.BufRe Go.Proofs.Ytanhmbdcdbcfmaa.BufP Go.Proofs.Ytanhmbdcdbcfmaa.SeP Go.Proofs.Ytanhmbdcdbcfmaa.Se Go.Proofs.Ytanhmbdcdbcfmaa.Wr
theorem TY : aggN Try.prog 3 = some none ∧
  aggN Try.prog 5 = some none ∧
  aggN Try.prog 24 = some none ∧
  aggN Try.prog 30 = some none ∧
  aggN Try.prog 57 = some none ∧
  aggN Try.prog 62 = some (some 5) ∧
  aggN Try.prog 225 = some none ∧
  aggN Try.prog 227 = some (some 2) ∧
  aggN Try.prog 232 = some none ∧
  apI Try.prog 24 = some (5, 1, 1) ∧
  apI Try.prog 57 = some (3, 1, 8) ∧
  bIs Try.prog 62 = true ∧
  bIs Try.prog 227 = true ∧
  bySl Try.prog 24 = true ∧
  csz Try.prog 3 = some 1 ∧
  csz Try.prog 5 = some 1 ∧
  csz Try.prog 24 = some 1 ∧
  csz Try.prog 30 = some 1 ∧
  csz Try.prog 57 = some 1 ∧
  csz Try.prog 62 = some 5 ∧
  csz Try.prog 225 = some 1 ∧
  csz Try.prog 227 = some 2 ∧
  csz Try.prog 232 = some 1 ∧
  fIs Try.prog 62 0 = true ∧
  fIs Try.prog 62 1 = true ∧
  fIs Try.prog 62 2 = true ∧
  fIs Try.prog 62 3 = true ∧
  fIs Try.prog 62 4 = true ∧
  fOff Try.prog 62 0 = 0 ∧
  fOff Try.prog 62 1 = 1 ∧
  fOff Try.prog 62 2 = 2 ∧
  fOff Try.prog 62 3 = 3 ∧
  fOff Try.prog 62 4 = 4 ∧
  fTy Try.prog 62 0 = 3 ∧
  fTy Try.prog 62 1 = 3 ∧
  fTy Try.prog 62 2 = 3 ∧
  fTy Try.prog 62 3 = 3 ∧
  fTy Try.prog 62 4 = 24 ∧
  goes Try.prog 33 = true ∧
  goes Try.prog 120 = true ∧
  goes Try.prog 121 = true ∧
  goes Try.prog 122 = true ∧
  goes Try.prog 125 = true ∧
  goes Try.prog 126 = true ∧
  goes Try.prog 127 = true ∧
  goes Try.prog 128 = true ∧
  inIs Try.prog 3 = some .i64 ∧
  inIs Try.prog 5 = some .u8 ∧
  inIs Try.prog 30 = some .i64 ∧
  plcs Try.prog 62 = [(0, 1), (1, 1), (2, 1), (3, 1), (4, 1)] ∧
  plcs Try.prog 227 = [(0, 1), (1, 1)] ∧
  ptIs Try.prog 225 = true ∧
  ptIs Try.prog 232 = true ∧
  slEl Try.prog 24 = 5 ∧
  slEl Try.prog 57 = 3 ∧
  slIs Try.prog 24 = true ∧
  slIs Try.prog 57 = true ∧
  slSz Try.prog 24 = 1 ∧
  slSz Try.prog 57 = 1 ∧
  zcs Try.prog 62 = [.int .i64 0, .int .i64 0, .int .i64 0, .int .i64 0, .slice none 0 0] ∧
  zcs Try.prog 227 = [.slice none 0 0, .bool false] ∧
  zro Try.prog 3 = some (.int .i64 0) ∧
  zro Try.prog 5 = some (.int .u8 0) ∧
  zro Try.prog 24 = some (.slice none 0 0) ∧
  zro Try.prog 30 = some (.int .i64 0) ∧
  zro Try.prog 57 = some (.slice none 0 0) ∧
  zro Try.prog 62 = some (.agg #[.int .i64 0, .int .i64 0, .int .i64 0, .int .i64 0, .slice none 0 0]) ∧
  zro Try.prog 225 = some (.pointer none) ∧
  zro Try.prog 227 = some (.agg #[.slice none 0 0, .bool false]) ∧
  zro Try.prog 232 = some (.pointer none) :=
  ⟨by kernel_rfl, by kernel_rfl, by kernel_rfl, by kernel_rfl, by kernel_rfl, by kernel_rfl, by kernel_rfl, by kernel_rfl, by kernel_rfl, by kernel_rfl, by kernel_rfl, by kernel_rfl, by kernel_rfl, by kernel_rfl, by kernel_rfl, by kernel_rfl, by kernel_rfl, by kernel_rfl, by kernel_rfl, by kernel_rfl, by kernel_rfl, by kernel_rfl, by kernel_rfl, by kernel_rfl, by kernel_rfl, by kernel_rfl, by kernel_rfl, by kernel_rfl, by kernel_rfl, by kernel_rfl, by kernel_rfl, by kernel_rfl, by kernel_rfl, by kernel_rfl, by kernel_rfl, by kernel_rfl, by kernel_rfl, by kernel_rfl, by kernel_rfl, by kernel_rfl, by kernel_rfl, by kernel_rfl, by kernel_rfl, by kernel_rfl, by kernel_rfl, by kernel_rfl, by kernel_rfl, by kernel_rfl, by kernel_rfl, by kernel_rfl, by kernel_rfl, by kernel_rfl, by kernel_rfl, by kernel_rfl, by kernel_rfl, by kernel_rfl, by kernel_rfl, by kernel_rfl, by kernel_rfl, by kernel_rfl, by kernel_rfl, by kernel_rfl, by kernel_rfl, by kernel_rfl, by kernel_rfl, by kernel_rfl, by kernel_rfl, by kernel_rfl, by kernel_rfl, by kernel_rfl⟩
def D32_3 : List Note := Go.Sl.nn [0, 2, 0, 1, 0, 1, 2, 3, 0, 1, 0, 1, 2, 3, 0, 1, 3, 3, 0, 0, 0, 0]
def EncR (x : Lt) (r : Value) (B : List Asn) : Prop := if x.ok = true then ∃ u, r = .tuple #[u, .int .i64 0] ∧ B = [own 5 1 u (bv x.enc)] else r = .tuple #[.slice none 0 0, .int .i64 1] ∧ B = []
theorem put_st {b : List UInt8} {K : Int} {l : List Int} (h1 : 1 ≤ K) (h8 : K ≤ 8) (h : ∀ x ∈ l, fits K x) : (W.mk b false).put K l = ⟨b ++ flat K.toNat l, false⟩ := put_fits h1 h8 h
theorem Encode_ok {G : Hp} {v : Value} (x : Lt) (hv : rds G 1 v (bv x.b)) :
    Con Try.prog G 32 [Lt.v x v] [] (EncR x) := by
  have hkk := @Lt.kk x
  unfold EncR
  have hv0 := hv
  obtain ⟨va, n, c, rfl, e1, e2⟩ := hv.slice
  rw [bv_length] at e1
  obtain ⟨m, p, a, s, b⟩ := x
  simp only [Lt.v] at *
  refine Con.intro Try.func32 rfl (Nat.le_of_ble_eq_true (by kernel_rfl)) (by kernel_rfl) Try.results32 ?_
  intro H hH
  ((try simp only [S, TY, reduceCtorEq, nq0, nq1, nq2, nq3, nq4, iq0, iq1, iq2, iq3, iq4, iq5, iq6, iq7, iq8]); (try (simp (disch := omega) only [W2, Int.cast_ofNat_Int]; (try simp only [S, TY, reduceCtorEq, nq0, nq1, nq2, nq3, nq4, iq0, iq1, iq2, iq3, iq4, iq5, iq6, iq7, iq8]))); repeat ((first | (refine cl_drawi 3 D32_3 (List.range 22) (by decide) (by kernel_rfl) ?_; unfold D32_3)); simp only [S, TY, reduceCtorEq, nq0, nq1, nq2, nq3, nq4, iq0, iq1, iq2, iq3, iq4, iq5, iq6, iq7, iq8]; (try (simp (disch := omega) only [W2, Int.cast_ofNat_Int]; (try simp only [S, TY, reduceCtorEq, nq0, nq1, nq2, nq3, nq4, iq0, iq1, iq2, iq3, iq4, iq5, iq6, iq7, iq8])))))
  intro bb hb hg
  have h1 := hH.new hb hg (.cells (ltl m p a s (.slice va n c)).toArray 62 (0, 0))
  have w1 := h1.ld
  simp only [List.length_cons, List.length_nil, Nat.reduceAdd] at w1
  ((try simp only [S, TY, reduceCtorEq, nq0, nq1, nq2, nq3, nq4, iq0, iq1, iq2, iq3, iq4, iq5, iq6, iq7, iq8, w1]); (try (simp (disch := omega) only [W2, Int.cast_ofNat_Int]; (try simp only [S, TY, reduceCtorEq, nq0, nq1, nq2, nq3, nq4, iq0, iq1, iq2, iq3, iq4, iq5, iq6, iq7, iq8, w1]))); repeat ((first | (refine cl_drawi 3 D32_3 (List.range 22) (by decide) (by kernel_rfl) ?_; unfold D32_3)); simp only [S, TY, reduceCtorEq, nq0, nq1, nq2, nq3, nq4, iq0, iq1, iq2, iq3, iq4, iq5, iq6, iq7, iq8, w1]; (try (simp (disch := omega) only [W2, Int.cast_ofNat_Int]; (try simp only [S, TY, reduceCtorEq, nq0, nq1, nq2, nq3, nq4, iq0, iq1, iq2, iq3, iq4, iq5, iq6, iq7, iq8, w1])))))
  refine (Right_ok m p a s hv0).at_ h1 [] _ rfl fun r B H3 hr h3 => ?_
  obtain ⟨rfl, rfl⟩ := hr
  by_cases gg : right m p a s b.length = true
  · obtain ⟨k1, k2, k3, k4, k5⟩ := hkk gg
    have c3 := h3.c0
    ((try simp only [S, TY, reduceCtorEq, nq0, nq1, nq2, nq3, nq4, iq0, iq1, iq2, iq3, iq4, iq5, iq6, iq7, iq8, gg, c3]); (try (simp (disch := omega) only [W2, Int.cast_ofNat_Int]; (try simp only [S, TY, reduceCtorEq, nq0, nq1, nq2, nq3, nq4, iq0, iq1, iq2, iq3, iq4, iq5, iq6, iq7, iq8, gg, c3]))); repeat ((first | (refine cl_drawi 3 D32_3 (List.range 22) (by decide) (by kernel_rfl) ?_; unfold D32_3)); simp only [S, TY, reduceCtorEq, nq0, nq1, nq2, nq3, nq4, iq0, iq1, iq2, iq3, iq4, iq5, iq6, iq7, iq8, gg, c3]; (try (simp (disch := omega) only [W2, Int.cast_ofNat_Int]; (try simp only [S, TY, reduceCtorEq, nq0, nq1, nq2, nq3, nq4, iq0, iq1, iq2, iq3, iq4, iq5, iq6, iq7, iq8, gg, c3])))))
    intro q hq hqg
    have h4 := newW (h3.new hq hqg _)
    have c4 := (h4.front 1).c0
    ((try simp only [S, TY, reduceCtorEq, nq0, nq1, nq2, nq3, nq4, iq0, iq1, iq2, iq3, iq4, iq5, iq6, iq7, iq8, c3, c4]); (try (simp (disch := omega) only [W2, Int.cast_ofNat_Int]; (try simp only [S, TY, reduceCtorEq, nq0, nq1, nq2, nq3, nq4, iq0, iq1, iq2, iq3, iq4, iq5, iq6, iq7, iq8, c3, c4]))); repeat ((first | (refine cl_drawi 3 D32_3 (List.range 22) (by decide) (by kernel_rfl) ?_; unfold D32_3)); simp only [S, TY, reduceCtorEq, nq0, nq1, nq2, nq3, nq4, iq0, iq1, iq2, iq3, iq4, iq5, iq6, iq7, iq8, c3, c4]; (try (simp (disch := omega) only [W2, Int.cast_ofNat_Int]; (try simp only [S, TY, reduceCtorEq, nq0, nq1, nq2, nq3, nq4, iq0, iq1, iq2, iq3, iq4, iq5, iq6, iq7, iq8, c3, c4])))))
    intro b5 hb5 hg5
    have h5 := h4.newsl (e := 3) (sz := 1) (n := 2) (xs := iv [m, p]) hb5 hg5 rfl
    have c5 := (h5.front 2).c0
    ((try simp only [S, TY, reduceCtorEq, nq0, nq1, nq2, nq3, nq4, iq0, iq1, iq2, iq3, iq4, iq5, iq6, iq7, iq8, c3, c4, c5]); (try (simp (disch := omega) only [W2, Int.cast_ofNat_Int]; (try simp only [S, TY, reduceCtorEq, nq0, nq1, nq2, nq3, nq4, iq0, iq1, iq2, iq3, iq4, iq5, iq6, iq7, iq8, c3, c4, c5]))); repeat ((first | (refine cl_drawi 3 D32_3 (List.range 22) (by decide) (by kernel_rfl) ?_; unfold D32_3)); simp only [S, TY, reduceCtorEq, nq0, nq1, nq2, nq3, nq4, iq0, iq1, iq2, iq3, iq4, iq5, iq6, iq7, iq8, c3, c4, c5]; (try (simp (disch := omega) only [W2, Int.cast_ofNat_Int]; (try simp only [S, TY, reduceCtorEq, nq0, nq1, nq2, nq3, nq4, iq0, iq1, iq2, iq3, iq4, iq5, iq6, iq7, iq8, c3, c4, c5])))))
    refine Con.lend_at [isW q ⟨[], false⟩] [own 3 1 _ _] h5 [1, 0] rfl (fun F hF hs => put_ok (n := 5) (l := [m, p]) (seps_own hs 0 rfl).left (by simp)) fun r B H6 hr h6 => ?_
    obtain ⟨rfl, rfl⟩ := hr
    have c6 := (h6.front 2).c0
    rw [put_st (K := 5) (by omega) (by omega) (by intro x hx; simp only [List.mem_cons, List.not_mem_nil, or_false] at hx; rcases hx with rfl | rfl <;> exact ⟨by omega, .inr (by simp <;> omega)⟩)] at h6
    ((try simp only [S, TY, reduceCtorEq, nq0, nq1, nq2, nq3, nq4, iq0, iq1, iq2, iq3, iq4, iq5, iq6, iq7, iq8, c3, c4, c5, c6]); (try (simp (disch := omega) only [W2, Int.cast_ofNat_Int]; (try simp only [S, TY, reduceCtorEq, nq0, nq1, nq2, nq3, nq4, iq0, iq1, iq2, iq3, iq4, iq5, iq6, iq7, iq8, c3, c4, c5, c6]))); repeat ((first | (refine cl_drawi 3 D32_3 (List.range 22) (by decide) (by kernel_rfl) ?_; unfold D32_3)); simp only [S, TY, reduceCtorEq, nq0, nq1, nq2, nq3, nq4, iq0, iq1, iq2, iq3, iq4, iq5, iq6, iq7, iq8, c3, c4, c5, c6]; (try (simp (disch := omega) only [W2, Int.cast_ofNat_Int]; (try simp only [S, TY, reduceCtorEq, nq0, nq1, nq2, nq3, nq4, iq0, iq1, iq2, iq3, iq4, iq5, iq6, iq7, iq8, c3, c4, c5, c6])))))
    intro b7 hb7 hg7
    have h7 := h6.newsl (e := 3) (sz := 1) (n := 2) (xs := iv [a, s]) hb7 hg7 rfl
    have c7 := (h7.front 3).c0
    ((try simp only [S, TY, reduceCtorEq, nq0, nq1, nq2, nq3, nq4, iq0, iq1, iq2, iq3, iq4, iq5, iq6, iq7, iq8, c3, c4, c5, c6, c7]); (try (simp (disch := omega) only [W2, Int.cast_ofNat_Int]; (try simp only [S, TY, reduceCtorEq, nq0, nq1, nq2, nq3, nq4, iq0, iq1, iq2, iq3, iq4, iq5, iq6, iq7, iq8, c3, c4, c5, c6, c7]))); repeat ((first | (refine cl_drawi 3 D32_3 (List.range 22) (by decide) (by kernel_rfl) ?_; unfold D32_3)); simp only [S, TY, reduceCtorEq, nq0, nq1, nq2, nq3, nq4, iq0, iq1, iq2, iq3, iq4, iq5, iq6, iq7, iq8, c3, c4, c5, c6, c7]; (try (simp (disch := omega) only [W2, Int.cast_ofNat_Int]; (try simp only [S, TY, reduceCtorEq, nq0, nq1, nq2, nq3, nq4, iq0, iq1, iq2, iq3, iq4, iq5, iq6, iq7, iq8, c3, c4, c5, c6, c7])))))
    refine Con.lend_at [isW q _] [own 3 1 _ _] h7 [1, 0] rfl (fun F hF hs => put_ok (n := 6) (l := [a, s]) (seps_own hs 0 rfl).left (by simp [flat_length])) fun r B H8 hr h8 => ?_
    obtain ⟨rfl, rfl⟩ := hr
    have c8 := (h8.front 3).c0
    rw [put_st (K := 6) (by omega) (by omega) (by intro x hx; simp only [List.mem_cons, List.not_mem_nil, or_false] at hx; rcases hx with rfl | rfl <;> exact ⟨by omega, .inr (by simp <;> omega)⟩)] at h8
    ((try simp only [S, TY, reduceCtorEq, nq0, nq1, nq2, nq3, nq4, iq0, iq1, iq2, iq3, iq4, iq5, iq6, iq7, iq8, c3, c4, c5, c6, c7, c8]); (try (simp (disch := omega) only [W2, Int.cast_ofNat_Int]; (try simp only [S, TY, reduceCtorEq, nq0, nq1, nq2, nq3, nq4, iq0, iq1, iq2, iq3, iq4, iq5, iq6, iq7, iq8, c3, c4, c5, c6, c7, c8]))); repeat ((first | (refine cl_drawi 3 D32_3 (List.range 22) (by decide) (by kernel_rfl) ?_; unfold D32_3)); simp only [S, TY, reduceCtorEq, nq0, nq1, nq2, nq3, nq4, iq0, iq1, iq2, iq3, iq4, iq5, iq6, iq7, iq8, c3, c4, c5, c6, c7, c8]; (try (simp (disch := omega) only [W2, Int.cast_ofNat_Int]; (try simp only [S, TY, reduceCtorEq, nq0, nq1, nq2, nq3, nq4, iq0, iq1, iq2, iq3, iq4, iq5, iq6, iq7, iq8, c3, c4, c5, c6, c7, c8])))))
    refine (bytes_ok hv0 (by simp [flat_length] <;> omega)).at_ h8 [0] _ rfl fun r B H11 hr h11 => ?_
    obtain ⟨rfl, rfl⟩ := hr
    unfold W.bytes at h11
    rw [put_st (K := 2) (by omega) (by omega) (by intro x hx; simp only [List.mem_cons, List.not_mem_nil, or_false] at hx; rcases hx with rfl; exact ⟨by omega, .inr (by simp <;> omega)⟩)] at h11
    ((try simp only [S, TY, reduceCtorEq, nq0, nq1, nq2, nq3, nq4, iq0, iq1, iq2, iq3, iq4, iq5, iq6, iq7, iq8, c3, c4, c5, c6, c7, c8]); (try (simp (disch := omega) only [W2, Int.cast_ofNat_Int]; (try simp only [S, TY, reduceCtorEq, nq0, nq1, nq2, nq3, nq4, iq0, iq1, iq2, iq3, iq4, iq5, iq6, iq7, iq8, c3, c4, c5, c6, c7, c8]))); repeat ((first | (refine cl_drawi 3 D32_3 (List.range 22) (by decide) (by kernel_rfl) ?_; unfold D32_3)); simp only [S, TY, reduceCtorEq, nq0, nq1, nq2, nq3, nq4, iq0, iq1, iq2, iq3, iq4, iq5, iq6, iq7, iq8, c3, c4, c5, c6, c7, c8]; (try (simp (disch := omega) only [W2, Int.cast_ofNat_Int]; (try simp only [S, TY, reduceCtorEq, nq0, nq1, nq2, nq3, nq4, iq0, iq1, iq2, iq3, iq4, iq5, iq6, iq7, iq8, c3, c4, c5, c6, c7, c8])))))
    refine (Buf.done_ok (by simp [flat_length] <;> omega)).at_ h11 [0] _ rfl fun r B H12 hr h12 => ?_
    rw [if_neg (by simp)] at hr
    obtain ⟨va, rfl, rfl⟩ := hr
    ((try simp only [S, TY, reduceCtorEq, nq0, nq1, nq2, nq3, nq4, iq0, iq1, iq2, iq3, iq4, iq5, iq6, iq7, iq8, c3, c4, c5, c6, c7, c8]); (try (simp (disch := omega) only [W2, Int.cast_ofNat_Int]; (try simp only [S, TY, reduceCtorEq, nq0, nq1, nq2, nq3, nq4, iq0, iq1, iq2, iq3, iq4, iq5, iq6, iq7, iq8, c3, c4, c5, c6, c7, c8]))); repeat ((first | (refine cl_drawi 3 D32_3 (List.range 22) (by decide) (by kernel_rfl) ?_; unfold D32_3)); simp only [S, TY, reduceCtorEq, nq0, nq1, nq2, nq3, nq4, iq0, iq1, iq2, iq3, iq4, iq5, iq6, iq7, iq8, c3, c4, c5, c6, c7, c8]; (try (simp (disch := omega) only [W2, Int.cast_ofNat_Int]; (try simp only [S, TY, reduceCtorEq, nq0, nq1, nq2, nq3, nq4, iq0, iq1, iq2, iq3, iq4, iq5, iq6, iq7, iq8, c3, c4, c5, c6, c7, c8])))))
    exact fin_take (B := [_]) h12 (by rw [if_pos (show Lt.ok ⟨m, p, a, s, b⟩ = true from gg)]; exact ⟨va, rfl, by simp [Lt.enc, flat, List.append_assoc]⟩)
  · ((try simp only [S, TY, reduceCtorEq, nq0, nq1, nq2, nq3, nq4, iq0, iq1, iq2, iq3, iq4, iq5, iq6, iq7, iq8, gg]); (try (simp (disch := omega) only [W2, Int.cast_ofNat_Int]; (try simp only [S, TY, reduceCtorEq, nq0, nq1, nq2, nq3, nq4, iq0, iq1, iq2, iq3, iq4, iq5, iq6, iq7, iq8, gg]))); repeat ((first | (refine cl_drawi 3 D32_3 (List.range 22) (by decide) (by kernel_rfl) ?_; unfold D32_3)); simp only [S, TY, reduceCtorEq, nq0, nq1, nq2, nq3, nq4, iq0, iq1, iq2, iq3, iq4, iq5, iq6, iq7, iq8, gg]; (try (simp (disch := omega) only [W2, Int.cast_ofNat_Int]; (try simp only [S, TY, reduceCtorEq, nq0, nq1, nq2, nq3, nq4, iq0, iq1, iq2, iq3, iq4, iq5, iq6, iq7, iq8, gg])))))
    exact fin_take (B := []) h3 (by rw [if_neg (show ¬ Lt.ok ⟨m, p, a, s, b⟩ = true from gg)]; exact ⟨rfl, rfl⟩)
abbrev z0 : List Value := ltl 0 0 0 0 (.slice none 0 0)
def DecR (l : List UInt8) (r : Value) (B : List Asn) : Prop := match ldec l with
  | some x => ∃ u, r = .tuple #[Lt.v x u, .int .i64 0] ∧ B = [own 5 1 u (bv x.b)]
  | none => r = .tuple #[.agg z0.toArray, .int .i64 2] ∧ B = []
theorem Decode_ok {G : Hp} {v : Value} {l : List UInt8} (hv : rds G 1 v (bv l)) (hl : l.length ≤ 100000) : Con Try.prog G 35 [v] [] (DecR l) := by
  refine Con.intro Try.func35 rfl (Nat.le_of_ble_eq_true (by kernel_rfl)) (by kernel_rfl) Try.results35 ?_
  intro H hH
  ((try simp only [S, TY, reduceCtorEq, nq0, nq1, nq2, nq3, nq4, iq0, iq1, iq2, iq3, iq4, iq5, iq6, iq7, iq8]); (try (simp (disch := omega) only [W2, Int.cast_ofNat_Int]; (try simp only [S, TY, reduceCtorEq, nq0, nq1, nq2, nq3, nq4, iq0, iq1, iq2, iq3, iq4, iq5, iq6, iq7, iq8]))))
  intro b hb hg
  have h1 := hH.new hb hg (.cells z0.toArray 62 (0, 0))
  ((try simp only [S, TY, reduceCtorEq, nq0, nq1, nq2, nq3, nq4, iq0, iq1, iq2, iq3, iq4, iq5, iq6, iq7, iq8]); (try (simp (disch := omega) only [W2, Int.cast_ofNat_Int]; (try simp only [S, TY, reduceCtorEq, nq0, nq1, nq2, nq3, nq4, iq0, iq1, iq2, iq3, iq4, iq5, iq6, iq7, iq8]))))
  refine (read_ok hv (by omega)).at_ h1 [] _ rfl fun r B H2 hr hA => ?_
  obtain ⟨p, rfl, rfl⟩ := hr
  have zA : (R.mk l false).b.length ≤ 100000 := hl
  obtain ⟨r1, x1, q1⟩ : ∃ r x, R.get (R.mk l false) 5 = (r, x) := ⟨_, _, rfl⟩
  have z1 : r1.b.length ≤ 100000 := by have := get_len (R.mk l false) 5; rw [q1] at this; simp only at this zA; omega
  ((try simp only [S, TY, reduceCtorEq, nq0, nq1, nq2, nq3, nq4, iq0, iq1, iq2, iq3, iq4, iq5, iq6, iq7, iq8]); (try (simp (disch := omega) only [W2, Int.cast_ofNat_Int]; (try simp only [S, TY, reduceCtorEq, nq0, nq1, nq2, nq3, nq4, iq0, iq1, iq2, iq3, iq4, iq5, iq6, iq7, iq8]))))
  refine (get_ok (r := (R.mk l false)) 5 (by omega)).at_ hA [0] _ rfl fun r B h_ hr h1 => ?_
  rw [q1] at hr
  obtain ⟨rfl, rfl⟩ := hr
  obtain ⟨r2, x2, q2⟩ : ∃ r x, R.get r1 5 = (r, x) := ⟨_, _, rfl⟩
  have z2 : r2.b.length ≤ 100000 := by have := get_len r1 5; rw [q2] at this; simp only at this z1; omega
  ((try simp only [S, TY, reduceCtorEq, nq0, nq1, nq2, nq3, nq4, iq0, iq1, iq2, iq3, iq4, iq5, iq6, iq7, iq8]); (try (simp (disch := omega) only [W2, Int.cast_ofNat_Int]; (try simp only [S, TY, reduceCtorEq, nq0, nq1, nq2, nq3, nq4, iq0, iq1, iq2, iq3, iq4, iq5, iq6, iq7, iq8]))))
  refine (get_ok (r := r1) 5 (by omega)).at_ h1 [0] _ rfl fun r B h_ hr h2 => ?_
  rw [q2] at hr
  obtain ⟨rfl, rfl⟩ := hr
  obtain ⟨r3, x3, q3⟩ : ∃ r x, R.get r2 6 = (r, x) := ⟨_, _, rfl⟩
  have z3 : r3.b.length ≤ 100000 := by have := get_len r2 6; rw [q3] at this; simp only at this z2; omega
  ((try simp only [S, TY, reduceCtorEq, nq0, nq1, nq2, nq3, nq4, iq0, iq1, iq2, iq3, iq4, iq5, iq6, iq7, iq8]); (try (simp (disch := omega) only [W2, Int.cast_ofNat_Int]; (try simp only [S, TY, reduceCtorEq, nq0, nq1, nq2, nq3, nq4, iq0, iq1, iq2, iq3, iq4, iq5, iq6, iq7, iq8]))))
  refine (get_ok (r := r2) 6 (by omega)).at_ h2 [0] _ rfl fun r B h_ hr h3 => ?_
  rw [q3] at hr
  obtain ⟨rfl, rfl⟩ := hr
  obtain ⟨r4, x4, q4⟩ : ∃ r x, R.get r3 6 = (r, x) := ⟨_, _, rfl⟩
  have z4 : r4.b.length ≤ 100000 := by have := get_len r3 6; rw [q4] at this; simp only at this z3; omega
  ((try simp only [S, TY, reduceCtorEq, nq0, nq1, nq2, nq3, nq4, iq0, iq1, iq2, iq3, iq4, iq5, iq6, iq7, iq8]); (try (simp (disch := omega) only [W2, Int.cast_ofNat_Int]; (try simp only [S, TY, reduceCtorEq, nq0, nq1, nq2, nq3, nq4, iq0, iq1, iq2, iq3, iq4, iq5, iq6, iq7, iq8]))))
  refine (get_ok (r := r3) 6 (by omega)).at_ h3 [0] _ rfl fun r B h_ hr h4 => ?_
  rw [q4] at hr
  obtain ⟨rfl, rfl⟩ := hr
  obtain ⟨r5, x5, q5⟩ : ∃ r x, R.bytes r4 1000 = (r, x) := ⟨_, _, rfl⟩
  have z5 := SeP.bytes_len r4 1000
  rw [q5] at z5
  simp only at z5
  have hp := ldec_at q1 q2 q3 q4 q5
  ((try simp only [S, TY, reduceCtorEq, nq0, nq1, nq2, nq3, nq4, iq0, iq1, iq2, iq3, iq4, iq5, iq6, iq7, iq8]); (try (simp (disch := omega) only [W2, Int.cast_ofNat_Int]; (try simp only [S, TY, reduceCtorEq, nq0, nq1, nq2, nq3, nq4, iq0, iq1, iq2, iq3, iq4, iq5, iq6, iq7, iq8]))))
  refine (bytes_ok (r := r4) 1000 (by omega)).at_ h4 [0] _ rfl fun r B H9 hr h9 => ?_
  rw [q5] at hr
  subst hr
  obtain ⟨ua, un, uc, rfl, f1, f2⟩ := h9.sl 0 rfl Rd_own
  ((try simp only [S, TY, reduceCtorEq, nq0, nq1, nq2, nq3, nq4, iq0, iq1, iq2, iq3, iq4, iq5, iq6, iq7, iq8]); (try (simp (disch := omega) only [W2, Int.cast_ofNat_Int]; (try simp only [S, TY, reduceCtorEq, nq0, nq1, nq2, nq3, nq4, iq0, iq1, iq2, iq3, iq4, iq5, iq6, iq7, iq8]))))
  intro b7 hb7 hg7
  have h10 := h9.new hb7 hg7 (.cells z0.toArray 62 (0, 0))
  ((try simp only [S, TY, reduceCtorEq, nq0, nq1, nq2, nq3, nq4, iq0, iq1, iq2, iq3, iq4, iq5, iq6, iq7, iq8]); (try (simp (disch := omega) only [W2, Int.cast_ofNat_Int]; (try simp only [S, TY, reduceCtorEq, nq0, nq1, nq2, nq3, nq4, iq0, iq1, iq2, iq3, iq4, iq5, iq6, iq7, iq8]))))
  refine sg.stAll (vs := ltl x1 x2 x3 x4 (.slice ua un uc)) h10 rfl rfl fun H11 h11 => ?_
  ((try simp only [S, TY, reduceCtorEq, nq0, nq1, nq2, nq3, nq4, iq0, iq1, iq2, iq3, iq4, iq5, iq6, iq7, iq8]); (try (simp (disch := omega) only [W2, Int.cast_ofNat_Int]; (try simp only [S, TY, reduceCtorEq, nq0, nq1, nq2, nq3, nq4, iq0, iq1, iq2, iq3, iq4, iq5, iq6, iq7, iq8]))))
  refine (BufRe.done_ok (r := r5)).at_ h11 [2] _ rfl fun r B H12 hr h12 => ?_
  obtain ⟨rfl, rfl⟩ := hr
  have w12 := (h12.front 1).ld
  simp only [List.length_cons, List.length_nil, Nat.reduceAdd] at w12
  have bad : ∀ H, ldec l = none → sg G [ob b (.cells z0.toArray 62 (0, 0))] H → fin (DecR l) (.returned (.tuple #[.agg z0.toArray, .int .i64 2])) H := by
    intro H hn h
    exact fin_take (B := []) h (by unfold DecR; rw [hn]; exact ⟨rfl, rfl⟩)
  by_cases d0 : R.done r5 = 0
  · ((try simp only [S, TY, reduceCtorEq, nq0, nq1, nq2, nq3, nq4, iq0, iq1, iq2, iq3, iq4, iq5, iq6, iq7, iq8, d0, w12]); (try (simp (disch := omega) only [W2, Int.cast_ofNat_Int]; (try simp only [S, TY, reduceCtorEq, nq0, nq1, nq2, nq3, nq4, iq0, iq1, iq2, iq3, iq4, iq5, iq6, iq7, iq8, d0, w12]))))
    refine Con.lend_at [] [own 5 1 _ _] h12 [2] rfl (fun F hF hs => Right_ok (l := x5) x1 x2 x3 x4 (seps_own hs 0 rfl).left) fun r B H13 hr h13 => ?_
    obtain ⟨rfl, rfl⟩ := hr
    by_cases rr : right x1 x2 x3 x4 x5.length = true
    · rw [if_pos ⟨d0, rr⟩] at hp
      have w13 := (h13.front 2).ld
      simp only [List.length_cons, List.length_nil, Nat.reduceAdd] at w13
      ((try simp only [S, TY, reduceCtorEq, nq0, nq1, nq2, nq3, nq4, iq0, iq1, iq2, iq3, iq4, iq5, iq6, iq7, iq8, rr, w13]); (try (simp (disch := omega) only [W2, Int.cast_ofNat_Int]; (try simp only [S, TY, reduceCtorEq, nq0, nq1, nq2, nq3, nq4, iq0, iq1, iq2, iq3, iq4, iq5, iq6, iq7, iq8, rr, w13]))))
      refine sg.stAll (vs := ltl x1 x2 x3 x4 (.slice ua un uc)) (h13.front 3) rfl rfl fun H14 h14 => ?_
      have w14 := h14.ld
      simp only [List.length_cons, List.length_nil, Nat.reduceAdd] at w14
      ((try simp only [S, TY, reduceCtorEq, nq0, nq1, nq2, nq3, nq4, iq0, iq1, iq2, iq3, iq4, iq5, iq6, iq7, iq8, w14]); (try (simp (disch := omega) only [W2, Int.cast_ofNat_Int]; (try simp only [S, TY, reduceCtorEq, nq0, nq1, nq2, nq3, nq4, iq0, iq1, iq2, iq3, iq4, iq5, iq6, iq7, iq8, w14]))))
      exact fin_take (B := [_]) (h14.front 1) (by unfold DecR; rw [hp]; exact ⟨_, rfl, rfl⟩)
    · rw [if_neg (fun q => rr q.2)] at hp
      rw [Bool.not_eq_true] at rr
      ((try simp only [S, TY, reduceCtorEq, nq0, nq1, nq2, nq3, nq4, iq0, iq1, iq2, iq3, iq4, iq5, iq6, iq7, iq8, rr]); (try (simp (disch := omega) only [W2, Int.cast_ofNat_Int]; (try simp only [S, TY, reduceCtorEq, nq0, nq1, nq2, nq3, nq4, iq0, iq1, iq2, iq3, iq4, iq5, iq6, iq7, iq8, rr]))))
      refine sg.stAll (vs := z0) (h13.front 3) rfl rfl fun H14 h14 => ?_
      have w14 := h14.ld
      simp only [List.length_cons, List.length_nil, Nat.reduceAdd] at w14
      ((try simp only [S, TY, reduceCtorEq, nq0, nq1, nq2, nq3, nq4, iq0, iq1, iq2, iq3, iq4, iq5, iq6, iq7, iq8, w14]); (try (simp (disch := omega) only [W2, Int.cast_ofNat_Int]; (try simp only [S, TY, reduceCtorEq, nq0, nq1, nq2, nq3, nq4, iq0, iq1, iq2, iq3, iq4, iq5, iq6, iq7, iq8, w14]))))
      exact bad _ hp h14.take1
  · rw [if_neg (fun q => d0 q.1)] at hp
    ((try simp only [S, TY, reduceCtorEq, nq0, nq1, nq2, nq3, nq4, iq0, iq1, iq2, iq3, iq4, iq5, iq6, iq7, iq8, d0]); (try (simp (disch := omega) only [W2, Int.cast_ofNat_Int]; (try simp only [S, TY, reduceCtorEq, nq0, nq1, nq2, nq3, nq4, iq0, iq1, iq2, iq3, iq4, iq5, iq6, iq7, iq8, d0]))))
    refine sg.stAll (vs := z0) (h12.front 3) rfl rfl fun H14 h14 => ?_
    have w14 := h14.ld
    simp only [List.length_cons, List.length_nil, Nat.reduceAdd] at w14
    ((try simp only [S, TY, reduceCtorEq, nq0, nq1, nq2, nq3, nq4, iq0, iq1, iq2, iq3, iq4, iq5, iq6, iq7, iq8, w14]); (try (simp (disch := omega) only [W2, Int.cast_ofNat_Int]; (try simp only [S, TY, reduceCtorEq, nq0, nq1, nq2, nq3, nq4, iq0, iq1, iq2, iq3, iq4, iq5, iq6, iq7, iq8, w14]))))
    exact bad _ hp h14.take1
end Go.Proofs.Ytanhmbdcdbcfmaa.SeE
