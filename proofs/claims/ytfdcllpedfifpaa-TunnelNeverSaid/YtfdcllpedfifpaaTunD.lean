/- tunnel's Same, Encode, Decode, over the machine. -/
import Derived.Test.YtfdcllpedfifpaaTun
set_option linter.unusedVariables false
set_option linter.unusedSimpArgs false
set_option maxRecDepth 10000
namespace Go.Proofs.Ytfdcllpedfifpaa.TunD
open Go Go.Sl Go.Proofs Go.Proofs.Ytfdcllpedfifpaa.Buf Go.Proofs.Ytfdcllpedfifpaa.BufRd Go.Proofs.Ytfdcllpedfifpaa.BufRe Go.Proofs.Ytfdcllpedfifpaa.BufP Go.Proofs.Ytfdcllpedfifpaa.TunP Go.Proofs.Ytfdcllpedfifpaa.Tun
theorem TY : aggN Try.prog 3 = some none ∧
  aggN Try.prog 5 = some none ∧
  aggN Try.prog 29 = some none ∧
  aggN Try.prog 33 = some none ∧
  aggN Try.prog 98 = some none ∧
  aggN Try.prog 100 = some (some 8) ∧
  aggN Try.prog 126 = some none ∧
  aggN Try.prog 128 = some (some 2) ∧
  aggN Try.prog 131 = some none ∧
  aggN Try.prog 165 = some none ∧
  apI Try.prog 33 = some (5, 1, 1) ∧
  apI Try.prog 165 = some (3, 1, 8) ∧
  bIs Try.prog 100 = true ∧
  bIs Try.prog 128 = true ∧
  bySl Try.prog 33 = true ∧
  csz Try.prog 3 = some 1 ∧
  csz Try.prog 5 = some 1 ∧
  csz Try.prog 29 = some 1 ∧
  csz Try.prog 33 = some 1 ∧
  csz Try.prog 98 = some 1 ∧
  csz Try.prog 100 = some 8 ∧
  csz Try.prog 126 = some 1 ∧
  csz Try.prog 128 = some 2 ∧
  csz Try.prog 131 = some 1 ∧
  csz Try.prog 165 = some 1 ∧
  fIs Try.prog 100 0 = true ∧
  fIs Try.prog 100 1 = true ∧
  fIs Try.prog 100 2 = true ∧
  fIs Try.prog 100 3 = true ∧
  fIs Try.prog 100 4 = true ∧
  fIs Try.prog 100 5 = true ∧
  fIs Try.prog 100 6 = true ∧
  fIs Try.prog 100 7 = true ∧
  fOff Try.prog 100 0 = 0 ∧
  fOff Try.prog 100 1 = 1 ∧
  fOff Try.prog 100 2 = 2 ∧
  fOff Try.prog 100 3 = 3 ∧
  fOff Try.prog 100 4 = 4 ∧
  fOff Try.prog 100 5 = 5 ∧
  fOff Try.prog 100 6 = 6 ∧
  fOff Try.prog 100 7 = 7 ∧
  fTy Try.prog 100 0 = 98 ∧
  fTy Try.prog 100 1 = 3 ∧
  fTy Try.prog 100 2 = 3 ∧
  fTy Try.prog 100 3 = 3 ∧
  fTy Try.prog 100 4 = 3 ∧
  fTy Try.prog 100 5 = 3 ∧
  fTy Try.prog 100 6 = 3 ∧
  fTy Try.prog 100 7 = 33 ∧
  goes Try.prog 72 = true ∧
  goes Try.prog 86 = true ∧
  goes Try.prog 87 = true ∧
  goes Try.prog 88 = true ∧
  goes Try.prog 89 = true ∧
  goes Try.prog 90 = true ∧
  goes Try.prog 92 = true ∧
  goes Try.prog 120 = true ∧
  goes Try.prog 121 = true ∧
  inIs Try.prog 3 = some .i64 ∧
  inIs Try.prog 5 = some .u8 ∧
  inIs Try.prog 29 = some .i64 ∧
  inIs Try.prog 98 = some .i64 ∧
  plcs Try.prog 100 = [(0, 1), (1, 1), (2, 1), (3, 1), (4, 1), (5, 1), (6, 1), (7, 1)] ∧
  plcs Try.prog 128 = [(0, 1), (1, 1)] ∧
  ptIs Try.prog 126 = true ∧
  ptIs Try.prog 131 = true ∧
  slEl Try.prog 33 = 5 ∧
  slEl Try.prog 165 = 3 ∧
  slIs Try.prog 33 = true ∧
  slIs Try.prog 165 = true ∧
  slSz Try.prog 33 = 1 ∧
  slSz Try.prog 165 = 1 ∧
  zcs Try.prog 100 = [.int .i64 0, .int .i64 0, .int .i64 0, .int .i64 0, .int .i64 0, .int .i64 0, .int .i64 0, .slice none 0 0] ∧
  zcs Try.prog 128 = [.slice none 0 0, .bool false] ∧
  zro Try.prog 3 = some (.int .i64 0) ∧
  zro Try.prog 5 = some (.int .u8 0) ∧
  zro Try.prog 29 = some (.int .i64 0) ∧
  zro Try.prog 33 = some (.slice none 0 0) ∧
  zro Try.prog 98 = some (.int .i64 0) ∧
  zro Try.prog 100 = some (.agg #[.int .i64 0, .int .i64 0, .int .i64 0, .int .i64 0, .int .i64 0, .int .i64 0, .int .i64 0, .slice none 0 0]) ∧
  zro Try.prog 126 = some (.pointer none) ∧
  zro Try.prog 128 = some (.agg #[.slice none 0 0, .bool false]) ∧
  zro Try.prog 131 = some (.pointer none) ∧
  zro Try.prog 165 = some (.slice none 0 0) :=
  ⟨by kernel_rfl, by kernel_rfl, by kernel_rfl, by kernel_rfl, by kernel_rfl, by kernel_rfl, by kernel_rfl, by kernel_rfl, by kernel_rfl, by kernel_rfl, by kernel_rfl, by kernel_rfl, by kernel_rfl, by kernel_rfl, by kernel_rfl, by kernel_rfl, by kernel_rfl, by kernel_rfl, by kernel_rfl, by kernel_rfl, by kernel_rfl, by kernel_rfl, by kernel_rfl, by kernel_rfl, by kernel_rfl, by kernel_rfl, by kernel_rfl, by kernel_rfl, by kernel_rfl, by kernel_rfl, by kernel_rfl, by kernel_rfl, by kernel_rfl, by kernel_rfl, by kernel_rfl, by kernel_rfl, by kernel_rfl, by kernel_rfl, by kernel_rfl, by kernel_rfl, by kernel_rfl, by kernel_rfl, by kernel_rfl, by kernel_rfl, by kernel_rfl, by kernel_rfl, by kernel_rfl, by kernel_rfl, by kernel_rfl, by kernel_rfl, by kernel_rfl, by kernel_rfl, by kernel_rfl, by kernel_rfl, by kernel_rfl, by kernel_rfl, by kernel_rfl, by kernel_rfl, by kernel_rfl, by kernel_rfl, by kernel_rfl, by kernel_rfl, by kernel_rfl, by kernel_rfl, by kernel_rfl, by kernel_rfl, by kernel_rfl, by kernel_rfl, by kernel_rfl, by kernel_rfl, by kernel_rfl, by kernel_rfl, by kernel_rfl, by kernel_rfl, by kernel_rfl, by kernel_rfl, by kernel_rfl, by kernel_rfl, by kernel_rfl, by kernel_rfl, by kernel_rfl, by kernel_rfl, by kernel_rfl, by kernel_rfl⟩
def D74_4 : List Note := Go.Sl.nn [0, 0, 1, 2, 3, 0, 1, 2, 3, 0, 1, 3, 3, 0, 0, 0, 0]
def samep (x y : Pk) : Bool := decide (x.k = y.k ∧ x.o = y.o ∧ x.f = y.f ∧ x.t = y.t ∧ x.p = y.p ∧ x.g = y.g ∧ x.i = y.i ∧ x.fr = y.fr)
abbrev Pk.v (x : Pk) (u : Value) : Value := pkv x.k x.o x.f x.t x.p x.g x.i u
theorem Same_ok {G : Hp} {u v : Value} (x y : Pk) (hu : rds G 1 u (bv x.fr)) (hv : rds G 1 v (bv y.fr)) :
    Con Try.prog G 73 [Pk.v x u, Pk.v y v] [] (fun r B => r = .bool (samep x y) ∧ B = []) := by
  obtain ⟨k, o, f, t, p, g, i, fr⟩ := x
  obtain ⟨k', o', f', t', p', g', i', fr'⟩ := y
  simp only [Pk.v] at *
  refine Con.intro Try.func73 rfl (Nat.le_of_ble_eq_true (by kernel_rfl)) (by kernel_rfl) Try.results73 ?_
  intro H hH
  ((try simp only [S, TY, reduceCtorEq, Nat.reduceEqDiff, Nat.reduceAdd, Nat.reduceLeDiff, Nat.reduceBEq, Int.reduceBEq, Nat.reduceMul, Int.reduceEq, Int.reduceLT, Int.reduceLE, Int.reduceAdd, Int.reduceSub, Int.reduceMul, Int.reduceToNat, Int.cast_ofNat_Int]); (try (simp (disch := omega) only [W2, Int.cast_ofNat_Int]; (try simp only [S, TY, reduceCtorEq, Nat.reduceEqDiff, Nat.reduceAdd, Nat.reduceLeDiff, Nat.reduceBEq, Int.reduceBEq, Nat.reduceMul, Int.reduceEq, Int.reduceLT, Int.reduceLE, Int.reduceAdd, Int.reduceSub, Int.reduceMul, Int.reduceToNat, Int.cast_ofNat_Int]))))
  intro b hb hg
  ((try simp only [S, TY, reduceCtorEq, Nat.reduceEqDiff, Nat.reduceAdd, Nat.reduceLeDiff, Nat.reduceBEq, Int.reduceBEq, Nat.reduceMul, Int.reduceEq, Int.reduceLT, Int.reduceLE, Int.reduceAdd, Int.reduceSub, Int.reduceMul, Int.reduceToNat, Int.cast_ofNat_Int]); (try (simp (disch := omega) only [W2, Int.cast_ofNat_Int]; (try simp only [S, TY, reduceCtorEq, Nat.reduceEqDiff, Nat.reduceAdd, Nat.reduceLeDiff, Nat.reduceBEq, Int.reduceBEq, Nat.reduceMul, Int.reduceEq, Int.reduceLT, Int.reduceLE, Int.reduceAdd, Int.reduceSub, Int.reduceMul, Int.reduceToNat, Int.cast_ofNat_Int]))))
  intro b2 hb2 hg2
  ((try simp only [S, TY, reduceCtorEq, Nat.reduceEqDiff, Nat.reduceAdd, Nat.reduceLeDiff, Nat.reduceBEq, Int.reduceBEq, Nat.reduceMul, Int.reduceEq, Int.reduceLT, Int.reduceLE, Int.reduceAdd, Int.reduceSub, Int.reduceMul, Int.reduceToNat, Int.cast_ofNat_Int]); (try (simp (disch := omega) only [W2, Int.cast_ofNat_Int]; (try simp only [S, TY, reduceCtorEq, Nat.reduceEqDiff, Nat.reduceAdd, Nat.reduceLeDiff, Nat.reduceBEq, Int.reduceBEq, Nat.reduceMul, Int.reduceEq, Int.reduceLT, Int.reduceLE, Int.reduceAdd, Int.reduceSub, Int.reduceMul, Int.reduceToNat, Int.cast_ofNat_Int]))))
  generalize hq : Hp.set (Hp.set H b _) b2 _ = H1
  have h2 : sg G [ob b2 (.cells (pkl k' o' f' t' p' g' i' v).toArray 100 (0, 0)), ob b (.cells (pkl k o f t p g i u).toArray 100 (0, 0))] H1 := hq ▸ (hH.new hb hg _).new hb2 hg2 _
  have c2 := h2.c0
  have c1 := (h2.front 1).c0
  by_cases all : k = k' ∧ o = o' ∧ f = f' ∧ t = t' ∧ p = p' ∧ g = g' ∧ i = i'
  · obtain ⟨rfl, rfl, rfl, rfl, rfl, rfl, rfl⟩ := all
    ((try simp only [S, TY, reduceCtorEq, Nat.reduceEqDiff, Nat.reduceAdd, Nat.reduceLeDiff, Nat.reduceBEq, Int.reduceBEq, Nat.reduceMul, Int.reduceEq, Int.reduceLT, Int.reduceLE, Int.reduceAdd, Int.reduceSub, Int.reduceMul, Int.reduceToNat, Int.cast_ofNat_Int, c1, c2]); (try (simp (disch := omega) only [W2, Int.cast_ofNat_Int]; (try simp only [S, TY, reduceCtorEq, Nat.reduceEqDiff, Nat.reduceAdd, Nat.reduceLeDiff, Nat.reduceBEq, Int.reduceBEq, Nat.reduceMul, Int.reduceEq, Int.reduceLT, Int.reduceLE, Int.reduceAdd, Int.reduceSub, Int.reduceMul, Int.reduceToNat, Int.cast_ofNat_Int, c1, c2]))))
    refine (Eth.Equal_ok hu hv).at_ h2 [] _ rfl fun r B H3 hr h3 => ?_
    obtain ⟨rfl, rfl⟩ := hr
    ((try simp only [S, TY, reduceCtorEq, Nat.reduceEqDiff, Nat.reduceAdd, Nat.reduceLeDiff, Nat.reduceBEq, Int.reduceBEq, Nat.reduceMul, Int.reduceEq, Int.reduceLT, Int.reduceLE, Int.reduceAdd, Int.reduceSub, Int.reduceMul, Int.reduceToNat, Int.cast_ofNat_Int]); (try (simp (disch := omega) only [W2, Int.cast_ofNat_Int]; (try simp only [S, TY, reduceCtorEq, Nat.reduceEqDiff, Nat.reduceAdd, Nat.reduceLeDiff, Nat.reduceBEq, Int.reduceBEq, Nat.reduceMul, Int.reduceEq, Int.reduceLT, Int.reduceLE, Int.reduceAdd, Int.reduceSub, Int.reduceMul, Int.reduceToNat, Int.cast_ofNat_Int]))))
    exact fin_take (B := []) h3 ⟨by unfold samep; exact bb (by simp), rfl⟩
  · have hs : samep ⟨k, o, f, t, p, g, i, fr⟩ ⟨k', o', f', t', p', g', i', fr'⟩ = false := by
      unfold samep
      rw [decide_eq_false_iff_not]
      simp only
      exact fun q => all ⟨q.1, q.2.1, q.2.2.1, q.2.2.2.1, q.2.2.2.2.1, q.2.2.2.2.2.1, q.2.2.2.2.2.2.1⟩
    rw [hs]
    ((try simp only [S, TY, reduceCtorEq, Nat.reduceEqDiff, Nat.reduceAdd, Nat.reduceLeDiff, Nat.reduceBEq, Int.reduceBEq, Nat.reduceMul, Int.reduceEq, Int.reduceLT, Int.reduceLE, Int.reduceAdd, Int.reduceSub, Int.reduceMul, Int.reduceToNat, Int.cast_ofNat_Int, c1, c2]); (try (simp (disch := omega) only [W2, Int.cast_ofNat_Int]; (try simp only [S, TY, reduceCtorEq, Nat.reduceEqDiff, Nat.reduceAdd, Nat.reduceLeDiff, Nat.reduceBEq, Int.reduceBEq, Nat.reduceMul, Int.reduceEq, Int.reduceLT, Int.reduceLE, Int.reduceAdd, Int.reduceSub, Int.reduceMul, Int.reduceToNat, Int.cast_ofNat_Int, c1, c2]))))
    repeat' (refine Gate.intro (fun g => ?_) (fun g => ?_) <;> ((try simp only [S, TY, reduceCtorEq, Nat.reduceEqDiff, Nat.reduceAdd, Nat.reduceLeDiff, Nat.reduceBEq, Int.reduceBEq, Nat.reduceMul, Int.reduceEq, Int.reduceLT, Int.reduceLE, Int.reduceAdd, Int.reduceSub, Int.reduceMul, Int.reduceToNat, Int.cast_ofNat_Int, c1, c2, g]); (try (simp (disch := omega) only [W2, Int.cast_ofNat_Int]; (try simp only [S, TY, reduceCtorEq, Nat.reduceEqDiff, Nat.reduceAdd, Nat.reduceLeDiff, Nat.reduceBEq, Int.reduceBEq, Nat.reduceMul, Int.reduceEq, Int.reduceLT, Int.reduceLE, Int.reduceAdd, Int.reduceSub, Int.reduceMul, Int.reduceToNat, Int.cast_ofNat_Int, c1, c2, g])))))
    all_goals first | exact fin_take (B := []) h2 ⟨rfl, rfl⟩ | (exfalso; omega)
theorem put_st {b : List UInt8} {K : Int} {l : List Int} (h1 : 1 ≤ K) (h8 : K ≤ 8) (h : ∀ x ∈ l, fits K x) : (W.mk b false).put K l = ⟨b ++ flat K.toNat l, false⟩ := put_fits h1 h8 h
def EncR (x : Pk) (r : Value) (B : List Asn) : Prop := if x.ok = true then ∃ u, r = .tuple #[u, .int .i64 0] ∧ B = [own 5 1 u (bv x.enc)] else r = .tuple #[.slice none 0 0, .int .i64 1] ∧ B = []
theorem Encode_ok {G : Hp} {v : Value} (x : Pk) (hv : rds G 1 v (bv x.fr)) :
    Con Try.prog G 74 [Pk.v x v] [] (EncR x) := by
  have hkk := @Pk.kk x
  have hEnc : EncR x = EncR x := rfl
  unfold EncR at hEnc ⊢
  obtain ⟨a, n, c, rfl, e1, e2⟩ := hv.slice
  rw [bv_length] at e1
  obtain ⟨k, o, f, t, p, g, i, fr⟩ := x
  simp only [Pk.v] at *
  refine Con.intro Try.func74 rfl (Nat.le_of_ble_eq_true (by kernel_rfl)) (by kernel_rfl) Try.results74 ?_
  intro H hH
  ((try simp only [S, TY, reduceCtorEq, Nat.reduceEqDiff, Nat.reduceAdd, Nat.reduceLeDiff, Nat.reduceBEq, Int.reduceBEq, Nat.reduceMul, Int.reduceEq, Int.reduceLT, Int.reduceLE, Int.reduceAdd, Int.reduceSub, Int.reduceMul, Int.reduceToNat, Int.cast_ofNat_Int]); (try (simp (disch := omega) only [W2, Int.cast_ofNat_Int]; (try simp only [S, TY, reduceCtorEq, Nat.reduceEqDiff, Nat.reduceAdd, Nat.reduceLeDiff, Nat.reduceBEq, Int.reduceBEq, Nat.reduceMul, Int.reduceEq, Int.reduceLT, Int.reduceLE, Int.reduceAdd, Int.reduceSub, Int.reduceMul, Int.reduceToNat, Int.cast_ofNat_Int]))); repeat ((first | (refine cl_drawi 4 D74_4 (List.range 17) (by decide) (by kernel_rfl) ?_; unfold D74_4)); simp only [S, TY, reduceCtorEq, Nat.reduceEqDiff, Nat.reduceAdd, Nat.reduceLeDiff, Nat.reduceBEq, Int.reduceBEq, Nat.reduceMul, Int.reduceEq, Int.reduceLT, Int.reduceLE, Int.reduceAdd, Int.reduceSub, Int.reduceMul, Int.reduceToNat, Int.cast_ofNat_Int]; (try (simp (disch := omega) only [W2, Int.cast_ofNat_Int]; (try simp only [S, TY, reduceCtorEq, Nat.reduceEqDiff, Nat.reduceAdd, Nat.reduceLeDiff, Nat.reduceBEq, Int.reduceBEq, Nat.reduceMul, Int.reduceEq, Int.reduceLT, Int.reduceLE, Int.reduceAdd, Int.reduceSub, Int.reduceMul, Int.reduceToNat, Int.cast_ofNat_Int])))))
  intro b hb hg
  have h1 := hH.new hb hg (.cells (pkl k o f t p g i (.slice a n c)).toArray 100 (0, 0))
  have w1 := h1.ld
  simp only [List.length_cons, List.length_nil, Nat.reduceAdd] at w1
  ((try simp only [S, TY, reduceCtorEq, Nat.reduceEqDiff, Nat.reduceAdd, Nat.reduceLeDiff, Nat.reduceBEq, Int.reduceBEq, Nat.reduceMul, Int.reduceEq, Int.reduceLT, Int.reduceLE, Int.reduceAdd, Int.reduceSub, Int.reduceMul, Int.reduceToNat, Int.cast_ofNat_Int, w1]); (try (simp (disch := omega) only [W2, Int.cast_ofNat_Int]; (try simp only [S, TY, reduceCtorEq, Nat.reduceEqDiff, Nat.reduceAdd, Nat.reduceLeDiff, Nat.reduceBEq, Int.reduceBEq, Nat.reduceMul, Int.reduceEq, Int.reduceLT, Int.reduceLE, Int.reduceAdd, Int.reduceSub, Int.reduceMul, Int.reduceToNat, Int.cast_ofNat_Int, w1]))); repeat ((first | (refine cl_drawi 4 D74_4 (List.range 17) (by decide) (by kernel_rfl) ?_; unfold D74_4)); simp only [S, TY, reduceCtorEq, Nat.reduceEqDiff, Nat.reduceAdd, Nat.reduceLeDiff, Nat.reduceBEq, Int.reduceBEq, Nat.reduceMul, Int.reduceEq, Int.reduceLT, Int.reduceLE, Int.reduceAdd, Int.reduceSub, Int.reduceMul, Int.reduceToNat, Int.cast_ofNat_Int, w1]; (try (simp (disch := omega) only [W2, Int.cast_ofNat_Int]; (try simp only [S, TY, reduceCtorEq, Nat.reduceEqDiff, Nat.reduceAdd, Nat.reduceLeDiff, Nat.reduceBEq, Int.reduceBEq, Nat.reduceMul, Int.reduceEq, Int.reduceLT, Int.reduceLE, Int.reduceAdd, Int.reduceSub, Int.reduceMul, Int.reduceToNat, Int.cast_ofNat_Int, w1])))))
  refine (Right_ok k o f t p g i hv).at_ h1 [] _ rfl fun r B H3 hr h3 => ?_
  obtain ⟨rfl, rfl⟩ := hr
  by_cases gg : right k o f t p g i fr.length = true
  · have hk := hkk gg
    have c3 := h3.c0
    ((try simp only [S, TY, reduceCtorEq, Nat.reduceEqDiff, Nat.reduceAdd, Nat.reduceLeDiff, Nat.reduceBEq, Int.reduceBEq, Nat.reduceMul, Int.reduceEq, Int.reduceLT, Int.reduceLE, Int.reduceAdd, Int.reduceSub, Int.reduceMul, Int.reduceToNat, Int.cast_ofNat_Int, gg, c3]); (try (simp (disch := omega) only [W2, Int.cast_ofNat_Int]; (try simp only [S, TY, reduceCtorEq, Nat.reduceEqDiff, Nat.reduceAdd, Nat.reduceLeDiff, Nat.reduceBEq, Int.reduceBEq, Nat.reduceMul, Int.reduceEq, Int.reduceLT, Int.reduceLE, Int.reduceAdd, Int.reduceSub, Int.reduceMul, Int.reduceToNat, Int.cast_ofNat_Int, gg, c3]))); repeat ((first | (refine cl_drawi 4 D74_4 (List.range 17) (by decide) (by kernel_rfl) ?_; unfold D74_4)); simp only [S, TY, reduceCtorEq, Nat.reduceEqDiff, Nat.reduceAdd, Nat.reduceLeDiff, Nat.reduceBEq, Int.reduceBEq, Nat.reduceMul, Int.reduceEq, Int.reduceLT, Int.reduceLE, Int.reduceAdd, Int.reduceSub, Int.reduceMul, Int.reduceToNat, Int.cast_ofNat_Int, gg, c3]; (try (simp (disch := omega) only [W2, Int.cast_ofNat_Int]; (try simp only [S, TY, reduceCtorEq, Nat.reduceEqDiff, Nat.reduceAdd, Nat.reduceLeDiff, Nat.reduceBEq, Int.reduceBEq, Nat.reduceMul, Int.reduceEq, Int.reduceLT, Int.reduceLE, Int.reduceAdd, Int.reduceSub, Int.reduceMul, Int.reduceToNat, Int.cast_ofNat_Int, gg, c3])))))
    intro q hq hqg
    have h4 := isW_shut (w := ⟨[], false⟩) ((h3.nil_ 5 1).new hq hqg _)
    have c4 := (h4.front 1).c0
    ((try simp only [S, TY, reduceCtorEq, Nat.reduceEqDiff, Nat.reduceAdd, Nat.reduceLeDiff, Nat.reduceBEq, Int.reduceBEq, Nat.reduceMul, Int.reduceEq, Int.reduceLT, Int.reduceLE, Int.reduceAdd, Int.reduceSub, Int.reduceMul, Int.reduceToNat, Int.cast_ofNat_Int, c4]); (try (simp (disch := omega) only [W2, Int.cast_ofNat_Int]; (try simp only [S, TY, reduceCtorEq, Nat.reduceEqDiff, Nat.reduceAdd, Nat.reduceLeDiff, Nat.reduceBEq, Int.reduceBEq, Nat.reduceMul, Int.reduceEq, Int.reduceLT, Int.reduceLE, Int.reduceAdd, Int.reduceSub, Int.reduceMul, Int.reduceToNat, Int.cast_ofNat_Int, c4]))); repeat ((first | (refine cl_drawi 4 D74_4 (List.range 17) (by decide) (by kernel_rfl) ?_; unfold D74_4)); simp only [S, TY, reduceCtorEq, Nat.reduceEqDiff, Nat.reduceAdd, Nat.reduceLeDiff, Nat.reduceBEq, Int.reduceBEq, Nat.reduceMul, Int.reduceEq, Int.reduceLT, Int.reduceLE, Int.reduceAdd, Int.reduceSub, Int.reduceMul, Int.reduceToNat, Int.cast_ofNat_Int, c4]; (try (simp (disch := omega) only [W2, Int.cast_ofNat_Int]; (try simp only [S, TY, reduceCtorEq, Nat.reduceEqDiff, Nat.reduceAdd, Nat.reduceLeDiff, Nat.reduceBEq, Int.reduceBEq, Nat.reduceMul, Int.reduceEq, Int.reduceLT, Int.reduceLE, Int.reduceAdd, Int.reduceSub, Int.reduceMul, Int.reduceToNat, Int.cast_ofNat_Int, c4])))))
    intro b5 hb5 hg5
    have h5 := h4.newsl (e := 3) (sz := 1) (n := 6) (xs := iv [1, k, o, f, t, p]) hb5 hg5 rfl
    have c5 := (h5.front 2).c0
    ((try simp only [S, TY, reduceCtorEq, Nat.reduceEqDiff, Nat.reduceAdd, Nat.reduceLeDiff, Nat.reduceBEq, Int.reduceBEq, Nat.reduceMul, Int.reduceEq, Int.reduceLT, Int.reduceLE, Int.reduceAdd, Int.reduceSub, Int.reduceMul, Int.reduceToNat, Int.cast_ofNat_Int, c5]); (try (simp (disch := omega) only [W2, Int.cast_ofNat_Int]; (try simp only [S, TY, reduceCtorEq, Nat.reduceEqDiff, Nat.reduceAdd, Nat.reduceLeDiff, Nat.reduceBEq, Int.reduceBEq, Nat.reduceMul, Int.reduceEq, Int.reduceLT, Int.reduceLE, Int.reduceAdd, Int.reduceSub, Int.reduceMul, Int.reduceToNat, Int.cast_ofNat_Int, c5]))); repeat ((first | (refine cl_drawi 4 D74_4 (List.range 17) (by decide) (by kernel_rfl) ?_; unfold D74_4)); simp only [S, TY, reduceCtorEq, Nat.reduceEqDiff, Nat.reduceAdd, Nat.reduceLeDiff, Nat.reduceBEq, Int.reduceBEq, Nat.reduceMul, Int.reduceEq, Int.reduceLT, Int.reduceLE, Int.reduceAdd, Int.reduceSub, Int.reduceMul, Int.reduceToNat, Int.cast_ofNat_Int, c5]; (try (simp (disch := omega) only [W2, Int.cast_ofNat_Int]; (try simp only [S, TY, reduceCtorEq, Nat.reduceEqDiff, Nat.reduceAdd, Nat.reduceLeDiff, Nat.reduceBEq, Int.reduceBEq, Nat.reduceMul, Int.reduceEq, Int.reduceLT, Int.reduceLE, Int.reduceAdd, Int.reduceSub, Int.reduceMul, Int.reduceToNat, Int.cast_ofNat_Int, c5])))))
    refine Con.lend_at [isW q ⟨[], false⟩] [own 3 1 _ _] h5 [1, 0] rfl (fun F hF hs => put_ok (n := 1) (l := [1, k, o, f, t, p]) (seps_own hs 0 rfl).left (by simp)) fun r B H6 hr h6 => ?_
    obtain ⟨rfl, rfl⟩ := hr
    have c6 := (h6.front 2).c0
    rw [put_st (K := 1) (by omega) (by omega) (by intro x hx; simp only [List.mem_cons, List.not_mem_nil, or_false] at hx; rcases hx with rfl | rfl | rfl | rfl | rfl | rfl <;> exact ⟨by omega, .inr (by simp <;> omega)⟩)] at h6
    ((try simp only [S, TY, reduceCtorEq, Nat.reduceEqDiff, Nat.reduceAdd, Nat.reduceLeDiff, Nat.reduceBEq, Int.reduceBEq, Nat.reduceMul, Int.reduceEq, Int.reduceLT, Int.reduceLE, Int.reduceAdd, Int.reduceSub, Int.reduceMul, Int.reduceToNat, Int.cast_ofNat_Int, c6]); (try (simp (disch := omega) only [W2, Int.cast_ofNat_Int]; (try simp only [S, TY, reduceCtorEq, Nat.reduceEqDiff, Nat.reduceAdd, Nat.reduceLeDiff, Nat.reduceBEq, Int.reduceBEq, Nat.reduceMul, Int.reduceEq, Int.reduceLT, Int.reduceLE, Int.reduceAdd, Int.reduceSub, Int.reduceMul, Int.reduceToNat, Int.cast_ofNat_Int, c6]))); repeat ((first | (refine cl_drawi 4 D74_4 (List.range 17) (by decide) (by kernel_rfl) ?_; unfold D74_4)); simp only [S, TY, reduceCtorEq, Nat.reduceEqDiff, Nat.reduceAdd, Nat.reduceLeDiff, Nat.reduceBEq, Int.reduceBEq, Nat.reduceMul, Int.reduceEq, Int.reduceLT, Int.reduceLE, Int.reduceAdd, Int.reduceSub, Int.reduceMul, Int.reduceToNat, Int.cast_ofNat_Int, c6]; (try (simp (disch := omega) only [W2, Int.cast_ofNat_Int]; (try simp only [S, TY, reduceCtorEq, Nat.reduceEqDiff, Nat.reduceAdd, Nat.reduceLeDiff, Nat.reduceBEq, Int.reduceBEq, Nat.reduceMul, Int.reduceEq, Int.reduceLT, Int.reduceLE, Int.reduceAdd, Int.reduceSub, Int.reduceMul, Int.reduceToNat, Int.cast_ofNat_Int, c6])))))
    intro b7 hb7 hg7
    have h7 := h6.newsl (e := 3) (sz := 1) (n := 1) (xs := iv [g]) hb7 hg7 rfl
    have c7 := (h7.front 3).c0
    ((try simp only [S, TY, reduceCtorEq, Nat.reduceEqDiff, Nat.reduceAdd, Nat.reduceLeDiff, Nat.reduceBEq, Int.reduceBEq, Nat.reduceMul, Int.reduceEq, Int.reduceLT, Int.reduceLE, Int.reduceAdd, Int.reduceSub, Int.reduceMul, Int.reduceToNat, Int.cast_ofNat_Int, c6, c7]); (try (simp (disch := omega) only [W2, Int.cast_ofNat_Int]; (try simp only [S, TY, reduceCtorEq, Nat.reduceEqDiff, Nat.reduceAdd, Nat.reduceLeDiff, Nat.reduceBEq, Int.reduceBEq, Nat.reduceMul, Int.reduceEq, Int.reduceLT, Int.reduceLE, Int.reduceAdd, Int.reduceSub, Int.reduceMul, Int.reduceToNat, Int.cast_ofNat_Int, c6, c7]))); repeat ((first | (refine cl_drawi 4 D74_4 (List.range 17) (by decide) (by kernel_rfl) ?_; unfold D74_4)); simp only [S, TY, reduceCtorEq, Nat.reduceEqDiff, Nat.reduceAdd, Nat.reduceLeDiff, Nat.reduceBEq, Int.reduceBEq, Nat.reduceMul, Int.reduceEq, Int.reduceLT, Int.reduceLE, Int.reduceAdd, Int.reduceSub, Int.reduceMul, Int.reduceToNat, Int.cast_ofNat_Int, c6, c7]; (try (simp (disch := omega) only [W2, Int.cast_ofNat_Int]; (try simp only [S, TY, reduceCtorEq, Nat.reduceEqDiff, Nat.reduceAdd, Nat.reduceLeDiff, Nat.reduceBEq, Int.reduceBEq, Nat.reduceMul, Int.reduceEq, Int.reduceLT, Int.reduceLE, Int.reduceAdd, Int.reduceSub, Int.reduceMul, Int.reduceToNat, Int.cast_ofNat_Int, c6, c7])))))
    refine Con.lend_at [isW q _] [own 3 1 _ _] h7 [1, 0] rfl (fun F hF hs => put_ok (n := 5) (l := [g]) (seps_own hs 0 rfl).left (by simp [flat_length])) fun r B H8 hr h8 => ?_
    obtain ⟨rfl, rfl⟩ := hr
    have c8 := (h8.front 3).c0
    rw [put_st (K := 5) (by omega) (by omega) (by intro x hx; simp only [List.mem_cons, List.not_mem_nil, or_false] at hx; rcases hx with rfl; exact ⟨by omega, .inr (by simp <;> omega)⟩)] at h8
    ((try simp only [S, TY, reduceCtorEq, Nat.reduceEqDiff, Nat.reduceAdd, Nat.reduceLeDiff, Nat.reduceBEq, Int.reduceBEq, Nat.reduceMul, Int.reduceEq, Int.reduceLT, Int.reduceLE, Int.reduceAdd, Int.reduceSub, Int.reduceMul, Int.reduceToNat, Int.cast_ofNat_Int, c6, c7, c8]); (try (simp (disch := omega) only [W2, Int.cast_ofNat_Int]; (try simp only [S, TY, reduceCtorEq, Nat.reduceEqDiff, Nat.reduceAdd, Nat.reduceLeDiff, Nat.reduceBEq, Int.reduceBEq, Nat.reduceMul, Int.reduceEq, Int.reduceLT, Int.reduceLE, Int.reduceAdd, Int.reduceSub, Int.reduceMul, Int.reduceToNat, Int.cast_ofNat_Int, c6, c7, c8]))); repeat ((first | (refine cl_drawi 4 D74_4 (List.range 17) (by decide) (by kernel_rfl) ?_; unfold D74_4)); simp only [S, TY, reduceCtorEq, Nat.reduceEqDiff, Nat.reduceAdd, Nat.reduceLeDiff, Nat.reduceBEq, Int.reduceBEq, Nat.reduceMul, Int.reduceEq, Int.reduceLT, Int.reduceLE, Int.reduceAdd, Int.reduceSub, Int.reduceMul, Int.reduceToNat, Int.cast_ofNat_Int, c6, c7, c8]; (try (simp (disch := omega) only [W2, Int.cast_ofNat_Int]; (try simp only [S, TY, reduceCtorEq, Nat.reduceEqDiff, Nat.reduceAdd, Nat.reduceLeDiff, Nat.reduceBEq, Int.reduceBEq, Nat.reduceMul, Int.reduceEq, Int.reduceLT, Int.reduceLE, Int.reduceAdd, Int.reduceSub, Int.reduceMul, Int.reduceToNat, Int.cast_ofNat_Int, c6, c7, c8])))))
    intro b9 hb9 hg9
    have h9 := h8.newsl (e := 3) (sz := 1) (n := 1) (xs := iv [i]) hb9 hg9 rfl
    have c9 := (h9.front 4).c0
    ((try simp only [S, TY, reduceCtorEq, Nat.reduceEqDiff, Nat.reduceAdd, Nat.reduceLeDiff, Nat.reduceBEq, Int.reduceBEq, Nat.reduceMul, Int.reduceEq, Int.reduceLT, Int.reduceLE, Int.reduceAdd, Int.reduceSub, Int.reduceMul, Int.reduceToNat, Int.cast_ofNat_Int, c6, c7, c8, c9]); (try (simp (disch := omega) only [W2, Int.cast_ofNat_Int]; (try simp only [S, TY, reduceCtorEq, Nat.reduceEqDiff, Nat.reduceAdd, Nat.reduceLeDiff, Nat.reduceBEq, Int.reduceBEq, Nat.reduceMul, Int.reduceEq, Int.reduceLT, Int.reduceLE, Int.reduceAdd, Int.reduceSub, Int.reduceMul, Int.reduceToNat, Int.cast_ofNat_Int, c6, c7, c8, c9]))); repeat ((first | (refine cl_drawi 4 D74_4 (List.range 17) (by decide) (by kernel_rfl) ?_; unfold D74_4)); simp only [S, TY, reduceCtorEq, Nat.reduceEqDiff, Nat.reduceAdd, Nat.reduceLeDiff, Nat.reduceBEq, Int.reduceBEq, Nat.reduceMul, Int.reduceEq, Int.reduceLT, Int.reduceLE, Int.reduceAdd, Int.reduceSub, Int.reduceMul, Int.reduceToNat, Int.cast_ofNat_Int, c6, c7, c8, c9]; (try (simp (disch := omega) only [W2, Int.cast_ofNat_Int]; (try simp only [S, TY, reduceCtorEq, Nat.reduceEqDiff, Nat.reduceAdd, Nat.reduceLeDiff, Nat.reduceBEq, Int.reduceBEq, Nat.reduceMul, Int.reduceEq, Int.reduceLT, Int.reduceLE, Int.reduceAdd, Int.reduceSub, Int.reduceMul, Int.reduceToNat, Int.cast_ofNat_Int, c6, c7, c8, c9])))))
    refine Con.lend_at [isW q _] [own 3 1 _ _] h9 [1, 0] rfl (fun F hF hs => put_ok (n := 6) (l := [i]) (seps_own hs 0 rfl).left (by simp [flat_length])) fun r B H10 hr h10 => ?_
    obtain ⟨rfl, rfl⟩ := hr
    have c10 := (h10.front 4).c0
    rw [put_st (K := 6) (by omega) (by omega) (by intro x hx; simp only [List.mem_cons, List.not_mem_nil, or_false] at hx; rcases hx with rfl; exact ⟨by omega, .inr (by simp <;> omega)⟩)] at h10
    ((try simp only [S, TY, reduceCtorEq, Nat.reduceEqDiff, Nat.reduceAdd, Nat.reduceLeDiff, Nat.reduceBEq, Int.reduceBEq, Nat.reduceMul, Int.reduceEq, Int.reduceLT, Int.reduceLE, Int.reduceAdd, Int.reduceSub, Int.reduceMul, Int.reduceToNat, Int.cast_ofNat_Int, c6, c7, c8, c9, c10]); (try (simp (disch := omega) only [W2, Int.cast_ofNat_Int]; (try simp only [S, TY, reduceCtorEq, Nat.reduceEqDiff, Nat.reduceAdd, Nat.reduceLeDiff, Nat.reduceBEq, Int.reduceBEq, Nat.reduceMul, Int.reduceEq, Int.reduceLT, Int.reduceLE, Int.reduceAdd, Int.reduceSub, Int.reduceMul, Int.reduceToNat, Int.cast_ofNat_Int, c6, c7, c8, c9, c10]))); repeat ((first | (refine cl_drawi 4 D74_4 (List.range 17) (by decide) (by kernel_rfl) ?_; unfold D74_4)); simp only [S, TY, reduceCtorEq, Nat.reduceEqDiff, Nat.reduceAdd, Nat.reduceLeDiff, Nat.reduceBEq, Int.reduceBEq, Nat.reduceMul, Int.reduceEq, Int.reduceLT, Int.reduceLE, Int.reduceAdd, Int.reduceSub, Int.reduceMul, Int.reduceToNat, Int.cast_ofNat_Int, c6, c7, c8, c9, c10]; (try (simp (disch := omega) only [W2, Int.cast_ofNat_Int]; (try simp only [S, TY, reduceCtorEq, Nat.reduceEqDiff, Nat.reduceAdd, Nat.reduceLeDiff, Nat.reduceBEq, Int.reduceBEq, Nat.reduceMul, Int.reduceEq, Int.reduceLT, Int.reduceLE, Int.reduceAdd, Int.reduceSub, Int.reduceMul, Int.reduceToNat, Int.cast_ofNat_Int, c6, c7, c8, c9, c10])))))
    refine (bytes_ok hv (by simp [flat_length] <;> omega)).at_ h10 [0] _ rfl fun r B H11 hr h11 => ?_
    obtain ⟨rfl, rfl⟩ := hr
    unfold W.bytes at h11
    rw [put_st (K := 2) (by omega) (by omega) (by intro x hx; simp only [List.mem_cons, List.not_mem_nil, or_false] at hx; rcases hx with rfl; exact ⟨by omega, .inr (by simp <;> omega)⟩)] at h11
    have c11 := (h11.front 4).c0
    ((try simp only [S, TY, reduceCtorEq, Nat.reduceEqDiff, Nat.reduceAdd, Nat.reduceLeDiff, Nat.reduceBEq, Int.reduceBEq, Nat.reduceMul, Int.reduceEq, Int.reduceLT, Int.reduceLE, Int.reduceAdd, Int.reduceSub, Int.reduceMul, Int.reduceToNat, Int.cast_ofNat_Int, c6, c7, c8, c9, c10, c11]); (try (simp (disch := omega) only [W2, Int.cast_ofNat_Int]; (try simp only [S, TY, reduceCtorEq, Nat.reduceEqDiff, Nat.reduceAdd, Nat.reduceLeDiff, Nat.reduceBEq, Int.reduceBEq, Nat.reduceMul, Int.reduceEq, Int.reduceLT, Int.reduceLE, Int.reduceAdd, Int.reduceSub, Int.reduceMul, Int.reduceToNat, Int.cast_ofNat_Int, c6, c7, c8, c9, c10, c11]))); repeat ((first | (refine cl_drawi 4 D74_4 (List.range 17) (by decide) (by kernel_rfl) ?_; unfold D74_4)); simp only [S, TY, reduceCtorEq, Nat.reduceEqDiff, Nat.reduceAdd, Nat.reduceLeDiff, Nat.reduceBEq, Int.reduceBEq, Nat.reduceMul, Int.reduceEq, Int.reduceLT, Int.reduceLE, Int.reduceAdd, Int.reduceSub, Int.reduceMul, Int.reduceToNat, Int.cast_ofNat_Int, c6, c7, c8, c9, c10, c11]; (try (simp (disch := omega) only [W2, Int.cast_ofNat_Int]; (try simp only [S, TY, reduceCtorEq, Nat.reduceEqDiff, Nat.reduceAdd, Nat.reduceLeDiff, Nat.reduceBEq, Int.reduceBEq, Nat.reduceMul, Int.reduceEq, Int.reduceLT, Int.reduceLE, Int.reduceAdd, Int.reduceSub, Int.reduceMul, Int.reduceToNat, Int.cast_ofNat_Int, c6, c7, c8, c9, c10, c11])))))
    refine (Buf.done_ok (by simp [flat_length] <;> omega)).at_ h11 [0] _ rfl fun r B H12 hr h12 => ?_
    rw [if_neg (by simp)] at hr
    obtain ⟨va, rfl, rfl⟩ := hr
    ((try simp only [S, TY, reduceCtorEq, Nat.reduceEqDiff, Nat.reduceAdd, Nat.reduceLeDiff, Nat.reduceBEq, Int.reduceBEq, Nat.reduceMul, Int.reduceEq, Int.reduceLT, Int.reduceLE, Int.reduceAdd, Int.reduceSub, Int.reduceMul, Int.reduceToNat, Int.cast_ofNat_Int, c6, c7, c8, c9, c10, c11]); (try (simp (disch := omega) only [W2, Int.cast_ofNat_Int]; (try simp only [S, TY, reduceCtorEq, Nat.reduceEqDiff, Nat.reduceAdd, Nat.reduceLeDiff, Nat.reduceBEq, Int.reduceBEq, Nat.reduceMul, Int.reduceEq, Int.reduceLT, Int.reduceLE, Int.reduceAdd, Int.reduceSub, Int.reduceMul, Int.reduceToNat, Int.cast_ofNat_Int, c6, c7, c8, c9, c10, c11]))); repeat ((first | (refine cl_drawi 4 D74_4 (List.range 17) (by decide) (by kernel_rfl) ?_; unfold D74_4)); simp only [S, TY, reduceCtorEq, Nat.reduceEqDiff, Nat.reduceAdd, Nat.reduceLeDiff, Nat.reduceBEq, Int.reduceBEq, Nat.reduceMul, Int.reduceEq, Int.reduceLT, Int.reduceLE, Int.reduceAdd, Int.reduceSub, Int.reduceMul, Int.reduceToNat, Int.cast_ofNat_Int, c6, c7, c8, c9, c10, c11]; (try (simp (disch := omega) only [W2, Int.cast_ofNat_Int]; (try simp only [S, TY, reduceCtorEq, Nat.reduceEqDiff, Nat.reduceAdd, Nat.reduceLeDiff, Nat.reduceBEq, Int.reduceBEq, Nat.reduceMul, Int.reduceEq, Int.reduceLT, Int.reduceLE, Int.reduceAdd, Int.reduceSub, Int.reduceMul, Int.reduceToNat, Int.cast_ofNat_Int, c6, c7, c8, c9, c10, c11])))))
    exact fin_take (B := [_]) h12 (by rw [if_pos (show Pk.ok ⟨k, o, f, t, p, g, i, fr⟩ = true from gg)]; exact ⟨va, rfl, by simp [Pk.enc, flat, List.append_assoc]⟩)
  · ((try simp only [S, TY, reduceCtorEq, Nat.reduceEqDiff, Nat.reduceAdd, Nat.reduceLeDiff, Nat.reduceBEq, Int.reduceBEq, Nat.reduceMul, Int.reduceEq, Int.reduceLT, Int.reduceLE, Int.reduceAdd, Int.reduceSub, Int.reduceMul, Int.reduceToNat, Int.cast_ofNat_Int, gg]); (try (simp (disch := omega) only [W2, Int.cast_ofNat_Int]; (try simp only [S, TY, reduceCtorEq, Nat.reduceEqDiff, Nat.reduceAdd, Nat.reduceLeDiff, Nat.reduceBEq, Int.reduceBEq, Nat.reduceMul, Int.reduceEq, Int.reduceLT, Int.reduceLE, Int.reduceAdd, Int.reduceSub, Int.reduceMul, Int.reduceToNat, Int.cast_ofNat_Int, gg]))); repeat ((first | (refine cl_drawi 4 D74_4 (List.range 17) (by decide) (by kernel_rfl) ?_; unfold D74_4)); simp only [S, TY, reduceCtorEq, Nat.reduceEqDiff, Nat.reduceAdd, Nat.reduceLeDiff, Nat.reduceBEq, Int.reduceBEq, Nat.reduceMul, Int.reduceEq, Int.reduceLT, Int.reduceLE, Int.reduceAdd, Int.reduceSub, Int.reduceMul, Int.reduceToNat, Int.cast_ofNat_Int, gg]; (try (simp (disch := omega) only [W2, Int.cast_ofNat_Int]; (try simp only [S, TY, reduceCtorEq, Nat.reduceEqDiff, Nat.reduceAdd, Nat.reduceLeDiff, Nat.reduceBEq, Int.reduceBEq, Nat.reduceMul, Int.reduceEq, Int.reduceLT, Int.reduceLE, Int.reduceAdd, Int.reduceSub, Int.reduceMul, Int.reduceToNat, Int.cast_ofNat_Int, gg])))))
    exact fin_take (B := []) h3 (by rw [if_neg (show ¬ Pk.ok ⟨k, o, f, t, p, g, i, fr⟩ = true from gg)]; exact ⟨rfl, rfl⟩)
def DecR (l : List UInt8) (r : Value) (B : List Asn) : Prop := match pdec l with
  | some x => ∃ u, r = .tuple #[Pk.v x u, .int .i64 0] ∧ B = [own 5 1 u (bv x.fr)]
  | none => r = .tuple #[pkv 0 0 0 0 0 0 0 (.slice none 0 0), .int .i64 2] ∧ B = []
theorem pdec_at {l : List UInt8} {r0 r1 r2 r3 r4 r5 r6 r7 r8 : R} {x0 x1 x2 x3 x4 x5 x6 x7 : Nat} {x8 : List UInt8} (e0 : R.get ⟨l, false⟩ 1 = (r0, x0)) (e1 : R.get r0 1 = (r1, x1)) (e2 : R.get r1 1 = (r2, x2)) (e3 : R.get r2 1 = (r3, x3))
    (e4 : R.get r3 1 = (r4, x4)) (e5 : R.get r4 1 = (r5, x5)) (e6 : R.get r5 5 = (r6, x6)) (e7 : R.get r6 6 = (r7, x7)) (e8 : R.bytes r7 1514 = (r8, x8)) :
    pdec l = if R.done r8 = 0 ∧ x0 = 1 ∧ right x1 x2 x3 x4 x5 x6 x7 x8.length = true then some ⟨x1, x2, x3, x4, x5, x6, x7, x8⟩ else none := by
  unfold pdec
  simp only [e0, e1, e2, e3, e4, e5, e6, e7, e8]
theorem bytes_len (r : R) (m : Int) : (R.bytes r m).2.length ≤ r.b.length := by
  have := get_len r 2
  unfold R.bytes
  split <;> simp <;> omega
theorem Decode_ok {G : Hp} {v : Value} {l : List UInt8} (hv : rds G 1 v (bv l)) (hl : l.length ≤ 100000) : Con Try.prog G 75 [v] [] (DecR l) := by
  refine Con.intro Try.func75 rfl (Nat.le_of_ble_eq_true (by kernel_rfl)) (by kernel_rfl) Try.results75 ?_
  intro H hH
  ((try simp only [S, TY, reduceCtorEq, Nat.reduceEqDiff, Nat.reduceAdd, Nat.reduceLeDiff, Nat.reduceBEq, Int.reduceBEq, Nat.reduceMul, Int.reduceEq, Int.reduceLT, Int.reduceLE, Int.reduceAdd, Int.reduceSub, Int.reduceMul, Int.reduceToNat, Int.cast_ofNat_Int]); (try (simp (disch := omega) only [W2, Int.cast_ofNat_Int]; (try simp only [S, TY, reduceCtorEq, Nat.reduceEqDiff, Nat.reduceAdd, Nat.reduceLeDiff, Nat.reduceBEq, Int.reduceBEq, Nat.reduceMul, Int.reduceEq, Int.reduceLT, Int.reduceLE, Int.reduceAdd, Int.reduceSub, Int.reduceMul, Int.reduceToNat, Int.cast_ofNat_Int]))))
  intro b hb hg
  have h1 := hH.new hb hg (.cells (pkl 0 0 0 0 0 0 0 (.slice none 0 0)).toArray 100 (0, 0))
  ((try simp only [S, TY, reduceCtorEq, Nat.reduceEqDiff, Nat.reduceAdd, Nat.reduceLeDiff, Nat.reduceBEq, Int.reduceBEq, Nat.reduceMul, Int.reduceEq, Int.reduceLT, Int.reduceLE, Int.reduceAdd, Int.reduceSub, Int.reduceMul, Int.reduceToNat, Int.cast_ofNat_Int]); (try (simp (disch := omega) only [W2, Int.cast_ofNat_Int]; (try simp only [S, TY, reduceCtorEq, Nat.reduceEqDiff, Nat.reduceAdd, Nat.reduceLeDiff, Nat.reduceBEq, Int.reduceBEq, Nat.reduceMul, Int.reduceEq, Int.reduceLT, Int.reduceLE, Int.reduceAdd, Int.reduceSub, Int.reduceMul, Int.reduceToNat, Int.cast_ofNat_Int]))))
  refine (read_ok hv (by omega)).at_ h1 [] _ rfl fun r B H2 hr hA => ?_
  obtain ⟨p, rfl, rfl⟩ := hr
  have zA : (R.mk l false).b.length ≤ 100000 := hl
  obtain ⟨r0, x0, q0⟩ : ∃ r x, R.get (R.mk l false) 1 = (r, x) := ⟨_, _, rfl⟩
  have z0 : r0.b.length ≤ 100000 := by have := get_len (R.mk l false) 1; rw [q0] at this; simp only at this zA; omega
  ((try simp only [S, TY, reduceCtorEq, Nat.reduceEqDiff, Nat.reduceAdd, Nat.reduceLeDiff, Nat.reduceBEq, Int.reduceBEq, Nat.reduceMul, Int.reduceEq, Int.reduceLT, Int.reduceLE, Int.reduceAdd, Int.reduceSub, Int.reduceMul, Int.reduceToNat, Int.cast_ofNat_Int]); (try (simp (disch := omega) only [W2, Int.cast_ofNat_Int]; (try simp only [S, TY, reduceCtorEq, Nat.reduceEqDiff, Nat.reduceAdd, Nat.reduceLeDiff, Nat.reduceBEq, Int.reduceBEq, Nat.reduceMul, Int.reduceEq, Int.reduceLT, Int.reduceLE, Int.reduceAdd, Int.reduceSub, Int.reduceMul, Int.reduceToNat, Int.cast_ofNat_Int]))))
  refine (get_ok (r := (R.mk l false)) 1 (by omega)).at_ hA [0] _ rfl fun r B h_ hr h0 => ?_
  rw [q0] at hr
  obtain ⟨rfl, rfl⟩ := hr
  obtain ⟨r1, x1, q1⟩ : ∃ r x, R.get r0 1 = (r, x) := ⟨_, _, rfl⟩
  have z1 : r1.b.length ≤ 100000 := by have := get_len r0 1; rw [q1] at this; simp only at this z0; omega
  ((try simp only [S, TY, reduceCtorEq, Nat.reduceEqDiff, Nat.reduceAdd, Nat.reduceLeDiff, Nat.reduceBEq, Int.reduceBEq, Nat.reduceMul, Int.reduceEq, Int.reduceLT, Int.reduceLE, Int.reduceAdd, Int.reduceSub, Int.reduceMul, Int.reduceToNat, Int.cast_ofNat_Int]); (try (simp (disch := omega) only [W2, Int.cast_ofNat_Int]; (try simp only [S, TY, reduceCtorEq, Nat.reduceEqDiff, Nat.reduceAdd, Nat.reduceLeDiff, Nat.reduceBEq, Int.reduceBEq, Nat.reduceMul, Int.reduceEq, Int.reduceLT, Int.reduceLE, Int.reduceAdd, Int.reduceSub, Int.reduceMul, Int.reduceToNat, Int.cast_ofNat_Int]))))
  refine (get_ok (r := r0) 1 (by omega)).at_ h0 [0] _ rfl fun r B h_ hr h1 => ?_
  rw [q1] at hr
  obtain ⟨rfl, rfl⟩ := hr
  obtain ⟨r2, x2, q2⟩ : ∃ r x, R.get r1 1 = (r, x) := ⟨_, _, rfl⟩
  have z2 : r2.b.length ≤ 100000 := by have := get_len r1 1; rw [q2] at this; simp only at this z1; omega
  ((try simp only [S, TY, reduceCtorEq, Nat.reduceEqDiff, Nat.reduceAdd, Nat.reduceLeDiff, Nat.reduceBEq, Int.reduceBEq, Nat.reduceMul, Int.reduceEq, Int.reduceLT, Int.reduceLE, Int.reduceAdd, Int.reduceSub, Int.reduceMul, Int.reduceToNat, Int.cast_ofNat_Int]); (try (simp (disch := omega) only [W2, Int.cast_ofNat_Int]; (try simp only [S, TY, reduceCtorEq, Nat.reduceEqDiff, Nat.reduceAdd, Nat.reduceLeDiff, Nat.reduceBEq, Int.reduceBEq, Nat.reduceMul, Int.reduceEq, Int.reduceLT, Int.reduceLE, Int.reduceAdd, Int.reduceSub, Int.reduceMul, Int.reduceToNat, Int.cast_ofNat_Int]))))
  refine (get_ok (r := r1) 1 (by omega)).at_ h1 [0] _ rfl fun r B h_ hr h2 => ?_
  rw [q2] at hr
  obtain ⟨rfl, rfl⟩ := hr
  obtain ⟨r3, x3, q3⟩ : ∃ r x, R.get r2 1 = (r, x) := ⟨_, _, rfl⟩
  have z3 : r3.b.length ≤ 100000 := by have := get_len r2 1; rw [q3] at this; simp only at this z2; omega
  ((try simp only [S, TY, reduceCtorEq, Nat.reduceEqDiff, Nat.reduceAdd, Nat.reduceLeDiff, Nat.reduceBEq, Int.reduceBEq, Nat.reduceMul, Int.reduceEq, Int.reduceLT, Int.reduceLE, Int.reduceAdd, Int.reduceSub, Int.reduceMul, Int.reduceToNat, Int.cast_ofNat_Int]); (try (simp (disch := omega) only [W2, Int.cast_ofNat_Int]; (try simp only [S, TY, reduceCtorEq, Nat.reduceEqDiff, Nat.reduceAdd, Nat.reduceLeDiff, Nat.reduceBEq, Int.reduceBEq, Nat.reduceMul, Int.reduceEq, Int.reduceLT, Int.reduceLE, Int.reduceAdd, Int.reduceSub, Int.reduceMul, Int.reduceToNat, Int.cast_ofNat_Int]))))
  refine (get_ok (r := r2) 1 (by omega)).at_ h2 [0] _ rfl fun r B h_ hr h3 => ?_
  rw [q3] at hr
  obtain ⟨rfl, rfl⟩ := hr
  obtain ⟨r4, x4, q4⟩ : ∃ r x, R.get r3 1 = (r, x) := ⟨_, _, rfl⟩
  have z4 : r4.b.length ≤ 100000 := by have := get_len r3 1; rw [q4] at this; simp only at this z3; omega
  ((try simp only [S, TY, reduceCtorEq, Nat.reduceEqDiff, Nat.reduceAdd, Nat.reduceLeDiff, Nat.reduceBEq, Int.reduceBEq, Nat.reduceMul, Int.reduceEq, Int.reduceLT, Int.reduceLE, Int.reduceAdd, Int.reduceSub, Int.reduceMul, Int.reduceToNat, Int.cast_ofNat_Int]); (try (simp (disch := omega) only [W2, Int.cast_ofNat_Int]; (try simp only [S, TY, reduceCtorEq, Nat.reduceEqDiff, Nat.reduceAdd, Nat.reduceLeDiff, Nat.reduceBEq, Int.reduceBEq, Nat.reduceMul, Int.reduceEq, Int.reduceLT, Int.reduceLE, Int.reduceAdd, Int.reduceSub, Int.reduceMul, Int.reduceToNat, Int.cast_ofNat_Int]))))
  refine (get_ok (r := r3) 1 (by omega)).at_ h3 [0] _ rfl fun r B h_ hr h4 => ?_
  rw [q4] at hr
  obtain ⟨rfl, rfl⟩ := hr
  obtain ⟨r5, x5, q5⟩ : ∃ r x, R.get r4 1 = (r, x) := ⟨_, _, rfl⟩
  have z5 : r5.b.length ≤ 100000 := by have := get_len r4 1; rw [q5] at this; simp only at this z4; omega
  ((try simp only [S, TY, reduceCtorEq, Nat.reduceEqDiff, Nat.reduceAdd, Nat.reduceLeDiff, Nat.reduceBEq, Int.reduceBEq, Nat.reduceMul, Int.reduceEq, Int.reduceLT, Int.reduceLE, Int.reduceAdd, Int.reduceSub, Int.reduceMul, Int.reduceToNat, Int.cast_ofNat_Int]); (try (simp (disch := omega) only [W2, Int.cast_ofNat_Int]; (try simp only [S, TY, reduceCtorEq, Nat.reduceEqDiff, Nat.reduceAdd, Nat.reduceLeDiff, Nat.reduceBEq, Int.reduceBEq, Nat.reduceMul, Int.reduceEq, Int.reduceLT, Int.reduceLE, Int.reduceAdd, Int.reduceSub, Int.reduceMul, Int.reduceToNat, Int.cast_ofNat_Int]))))
  refine (get_ok (r := r4) 1 (by omega)).at_ h4 [0] _ rfl fun r B h_ hr h5 => ?_
  rw [q5] at hr
  obtain ⟨rfl, rfl⟩ := hr
  obtain ⟨r6, x6, q6⟩ : ∃ r x, R.get r5 5 = (r, x) := ⟨_, _, rfl⟩
  have z6 : r6.b.length ≤ 100000 := by have := get_len r5 5; rw [q6] at this; simp only at this z5; omega
  ((try simp only [S, TY, reduceCtorEq, Nat.reduceEqDiff, Nat.reduceAdd, Nat.reduceLeDiff, Nat.reduceBEq, Int.reduceBEq, Nat.reduceMul, Int.reduceEq, Int.reduceLT, Int.reduceLE, Int.reduceAdd, Int.reduceSub, Int.reduceMul, Int.reduceToNat, Int.cast_ofNat_Int]); (try (simp (disch := omega) only [W2, Int.cast_ofNat_Int]; (try simp only [S, TY, reduceCtorEq, Nat.reduceEqDiff, Nat.reduceAdd, Nat.reduceLeDiff, Nat.reduceBEq, Int.reduceBEq, Nat.reduceMul, Int.reduceEq, Int.reduceLT, Int.reduceLE, Int.reduceAdd, Int.reduceSub, Int.reduceMul, Int.reduceToNat, Int.cast_ofNat_Int]))))
  refine (get_ok (r := r5) 5 (by omega)).at_ h5 [0] _ rfl fun r B h_ hr h6 => ?_
  rw [q6] at hr
  obtain ⟨rfl, rfl⟩ := hr
  obtain ⟨r7, x7, q7⟩ : ∃ r x, R.get r6 6 = (r, x) := ⟨_, _, rfl⟩
  have z7 : r7.b.length ≤ 100000 := by have := get_len r6 6; rw [q7] at this; simp only at this z6; omega
  ((try simp only [S, TY, reduceCtorEq, Nat.reduceEqDiff, Nat.reduceAdd, Nat.reduceLeDiff, Nat.reduceBEq, Int.reduceBEq, Nat.reduceMul, Int.reduceEq, Int.reduceLT, Int.reduceLE, Int.reduceAdd, Int.reduceSub, Int.reduceMul, Int.reduceToNat, Int.cast_ofNat_Int]); (try (simp (disch := omega) only [W2, Int.cast_ofNat_Int]; (try simp only [S, TY, reduceCtorEq, Nat.reduceEqDiff, Nat.reduceAdd, Nat.reduceLeDiff, Nat.reduceBEq, Int.reduceBEq, Nat.reduceMul, Int.reduceEq, Int.reduceLT, Int.reduceLE, Int.reduceAdd, Int.reduceSub, Int.reduceMul, Int.reduceToNat, Int.cast_ofNat_Int]))))
  refine (get_ok (r := r6) 6 (by omega)).at_ h6 [0] _ rfl fun r B h_ hr h7 => ?_
  rw [q7] at hr
  obtain ⟨rfl, rfl⟩ := hr
  obtain ⟨r8, x8, q8⟩ : ∃ r x, R.bytes r7 1514 = (r, x) := ⟨_, _, rfl⟩
  have z8 := bytes_len r7 1514
  rw [q8] at z8
  simp only at z8
  have hp := pdec_at q0 q1 q2 q3 q4 q5 q6 q7 q8
  ((try simp only [S, TY, reduceCtorEq, Nat.reduceEqDiff, Nat.reduceAdd, Nat.reduceLeDiff, Nat.reduceBEq, Int.reduceBEq, Nat.reduceMul, Int.reduceEq, Int.reduceLT, Int.reduceLE, Int.reduceAdd, Int.reduceSub, Int.reduceMul, Int.reduceToNat, Int.cast_ofNat_Int]); (try (simp (disch := omega) only [W2, Int.cast_ofNat_Int]; (try simp only [S, TY, reduceCtorEq, Nat.reduceEqDiff, Nat.reduceAdd, Nat.reduceLeDiff, Nat.reduceBEq, Int.reduceBEq, Nat.reduceMul, Int.reduceEq, Int.reduceLT, Int.reduceLE, Int.reduceAdd, Int.reduceSub, Int.reduceMul, Int.reduceToNat, Int.cast_ofNat_Int]))))
  refine (bytes_ok (r := r7) 1514 (by omega)).at_ h7 [0] _ rfl fun r B H9 hr h9 => ?_
  rw [q8] at hr
  subst hr
  obtain ⟨ua, un, uc, rfl, f1, f2⟩ := h9.sl 0 rfl Rd_own
  ((try simp only [S, TY, reduceCtorEq, Nat.reduceEqDiff, Nat.reduceAdd, Nat.reduceLeDiff, Nat.reduceBEq, Int.reduceBEq, Nat.reduceMul, Int.reduceEq, Int.reduceLT, Int.reduceLE, Int.reduceAdd, Int.reduceSub, Int.reduceMul, Int.reduceToNat, Int.cast_ofNat_Int]); (try (simp (disch := omega) only [W2, Int.cast_ofNat_Int]; (try simp only [S, TY, reduceCtorEq, Nat.reduceEqDiff, Nat.reduceAdd, Nat.reduceLeDiff, Nat.reduceBEq, Int.reduceBEq, Nat.reduceMul, Int.reduceEq, Int.reduceLT, Int.reduceLE, Int.reduceAdd, Int.reduceSub, Int.reduceMul, Int.reduceToNat, Int.cast_ofNat_Int]))))
  intro b7 hb7 hg7
  have h10 := h9.new hb7 hg7 (.cells (pkl 0 0 0 0 0 0 0 (.slice none 0 0)).toArray 100 (0, 0))
  ((try simp only [S, TY, reduceCtorEq, Nat.reduceEqDiff, Nat.reduceAdd, Nat.reduceLeDiff, Nat.reduceBEq, Int.reduceBEq, Nat.reduceMul, Int.reduceEq, Int.reduceLT, Int.reduceLE, Int.reduceAdd, Int.reduceSub, Int.reduceMul, Int.reduceToNat, Int.cast_ofNat_Int]); (try (simp (disch := omega) only [W2, Int.cast_ofNat_Int]; (try simp only [S, TY, reduceCtorEq, Nat.reduceEqDiff, Nat.reduceAdd, Nat.reduceLeDiff, Nat.reduceBEq, Int.reduceBEq, Nat.reduceMul, Int.reduceEq, Int.reduceLT, Int.reduceLE, Int.reduceAdd, Int.reduceSub, Int.reduceMul, Int.reduceToNat, Int.cast_ofNat_Int]))))
  refine sg.stAll (vs := pkl x1 x2 x3 x4 x5 x6 x7 (.slice ua un uc)) h10 rfl rfl fun H11 h11 => ?_
  ((try simp only [S, TY, reduceCtorEq, Nat.reduceEqDiff, Nat.reduceAdd, Nat.reduceLeDiff, Nat.reduceBEq, Int.reduceBEq, Nat.reduceMul, Int.reduceEq, Int.reduceLT, Int.reduceLE, Int.reduceAdd, Int.reduceSub, Int.reduceMul, Int.reduceToNat, Int.cast_ofNat_Int]); (try (simp (disch := omega) only [W2, Int.cast_ofNat_Int]; (try simp only [S, TY, reduceCtorEq, Nat.reduceEqDiff, Nat.reduceAdd, Nat.reduceLeDiff, Nat.reduceBEq, Int.reduceBEq, Nat.reduceMul, Int.reduceEq, Int.reduceLT, Int.reduceLE, Int.reduceAdd, Int.reduceSub, Int.reduceMul, Int.reduceToNat, Int.cast_ofNat_Int]))))
  refine (BufRe.done_ok (r := r8)).at_ h11 [2] _ rfl fun r B H12 hr h12 => ?_
  obtain ⟨rfl, rfl⟩ := hr
  have w12 := (h12.front 1).ld
  simp only [List.length_cons, List.length_nil, Nat.reduceAdd] at w12
  have bad : ∀ H, pdec l = none → sg G [ob b (.cells (pkl 0 0 0 0 0 0 0 (.slice none 0 0)).toArray 100 (0, 0))] H → fin (DecR l) (.returned (.tuple #[pkv 0 0 0 0 0 0 0 (.slice none 0 0), .int .i64 2])) H := by
    intro H hn h
    exact fin_take (B := []) h (by unfold DecR; rw [hn]; exact ⟨rfl, rfl⟩)
  by_cases d0 : R.done r8 = 0
  · by_cases v1 : x0 = 1
    · subst v1
      ((try simp only [S, TY, reduceCtorEq, Nat.reduceEqDiff, Nat.reduceAdd, Nat.reduceLeDiff, Nat.reduceBEq, Int.reduceBEq, Nat.reduceMul, Int.reduceEq, Int.reduceLT, Int.reduceLE, Int.reduceAdd, Int.reduceSub, Int.reduceMul, Int.reduceToNat, Int.cast_ofNat_Int, d0, w12]); (try (simp (disch := omega) only [W2, Int.cast_ofNat_Int]; (try simp only [S, TY, reduceCtorEq, Nat.reduceEqDiff, Nat.reduceAdd, Nat.reduceLeDiff, Nat.reduceBEq, Int.reduceBEq, Nat.reduceMul, Int.reduceEq, Int.reduceLT, Int.reduceLE, Int.reduceAdd, Int.reduceSub, Int.reduceMul, Int.reduceToNat, Int.cast_ofNat_Int, d0, w12]))))
      refine Con.lend_at [] [own 5 1 _ _] h12 [2] rfl (fun F hF hs => Right_ok (l := x8) x1 x2 x3 x4 x5 x6 x7 (seps_own hs 0 rfl).left) fun r B H13 hr h13 => ?_
      obtain ⟨rfl, rfl⟩ := hr
      by_cases rr : right x1 x2 x3 x4 x5 x6 x7 x8.length = true
      · rw [if_pos ⟨d0, rfl, rr⟩] at hp
        have w13 := (h13.front 2).ld
        simp only [List.length_cons, List.length_nil, Nat.reduceAdd] at w13
        ((try simp only [S, TY, reduceCtorEq, Nat.reduceEqDiff, Nat.reduceAdd, Nat.reduceLeDiff, Nat.reduceBEq, Int.reduceBEq, Nat.reduceMul, Int.reduceEq, Int.reduceLT, Int.reduceLE, Int.reduceAdd, Int.reduceSub, Int.reduceMul, Int.reduceToNat, Int.cast_ofNat_Int, rr, w13]); (try (simp (disch := omega) only [W2, Int.cast_ofNat_Int]; (try simp only [S, TY, reduceCtorEq, Nat.reduceEqDiff, Nat.reduceAdd, Nat.reduceLeDiff, Nat.reduceBEq, Int.reduceBEq, Nat.reduceMul, Int.reduceEq, Int.reduceLT, Int.reduceLE, Int.reduceAdd, Int.reduceSub, Int.reduceMul, Int.reduceToNat, Int.cast_ofNat_Int, rr, w13]))))
        refine sg.stAll (vs := pkl x1 x2 x3 x4 x5 x6 x7 (.slice ua un uc)) (h13.front 3) rfl rfl fun H14 h14 => ?_
        have w14 := h14.ld
        simp only [List.length_cons, List.length_nil, Nat.reduceAdd] at w14
        ((try simp only [S, TY, reduceCtorEq, Nat.reduceEqDiff, Nat.reduceAdd, Nat.reduceLeDiff, Nat.reduceBEq, Int.reduceBEq, Nat.reduceMul, Int.reduceEq, Int.reduceLT, Int.reduceLE, Int.reduceAdd, Int.reduceSub, Int.reduceMul, Int.reduceToNat, Int.cast_ofNat_Int, w14]); (try (simp (disch := omega) only [W2, Int.cast_ofNat_Int]; (try simp only [S, TY, reduceCtorEq, Nat.reduceEqDiff, Nat.reduceAdd, Nat.reduceLeDiff, Nat.reduceBEq, Int.reduceBEq, Nat.reduceMul, Int.reduceEq, Int.reduceLT, Int.reduceLE, Int.reduceAdd, Int.reduceSub, Int.reduceMul, Int.reduceToNat, Int.cast_ofNat_Int, w14]))))
        exact fin_take (B := [_]) (h14.front 1) (by unfold DecR; rw [hp]; exact ⟨_, rfl, rfl⟩)
      · rw [if_neg (fun q => rr q.2.2)] at hp
        rw [Bool.not_eq_true] at rr
        ((try simp only [S, TY, reduceCtorEq, Nat.reduceEqDiff, Nat.reduceAdd, Nat.reduceLeDiff, Nat.reduceBEq, Int.reduceBEq, Nat.reduceMul, Int.reduceEq, Int.reduceLT, Int.reduceLE, Int.reduceAdd, Int.reduceSub, Int.reduceMul, Int.reduceToNat, Int.cast_ofNat_Int, rr]); (try (simp (disch := omega) only [W2, Int.cast_ofNat_Int]; (try simp only [S, TY, reduceCtorEq, Nat.reduceEqDiff, Nat.reduceAdd, Nat.reduceLeDiff, Nat.reduceBEq, Int.reduceBEq, Nat.reduceMul, Int.reduceEq, Int.reduceLT, Int.reduceLE, Int.reduceAdd, Int.reduceSub, Int.reduceMul, Int.reduceToNat, Int.cast_ofNat_Int, rr]))))
        refine sg.stAll (vs := pkl 0 0 0 0 0 0 0 (.slice none 0 0)) (h13.front 3) rfl rfl fun H14 h14 => ?_
        have w14 := h14.ld
        simp only [List.length_cons, List.length_nil, Nat.reduceAdd] at w14
        ((try simp only [S, TY, reduceCtorEq, Nat.reduceEqDiff, Nat.reduceAdd, Nat.reduceLeDiff, Nat.reduceBEq, Int.reduceBEq, Nat.reduceMul, Int.reduceEq, Int.reduceLT, Int.reduceLE, Int.reduceAdd, Int.reduceSub, Int.reduceMul, Int.reduceToNat, Int.cast_ofNat_Int, w14]); (try (simp (disch := omega) only [W2, Int.cast_ofNat_Int]; (try simp only [S, TY, reduceCtorEq, Nat.reduceEqDiff, Nat.reduceAdd, Nat.reduceLeDiff, Nat.reduceBEq, Int.reduceBEq, Nat.reduceMul, Int.reduceEq, Int.reduceLT, Int.reduceLE, Int.reduceAdd, Int.reduceSub, Int.reduceMul, Int.reduceToNat, Int.cast_ofNat_Int, w14]))))
        exact bad _ hp h14.take1
    · rw [if_neg (fun q => v1 q.2.1)] at hp
      have v1' : ¬ (x0 : Int) = 1 := by omega
      ((try simp only [S, TY, reduceCtorEq, Nat.reduceEqDiff, Nat.reduceAdd, Nat.reduceLeDiff, Nat.reduceBEq, Int.reduceBEq, Nat.reduceMul, Int.reduceEq, Int.reduceLT, Int.reduceLE, Int.reduceAdd, Int.reduceSub, Int.reduceMul, Int.reduceToNat, Int.cast_ofNat_Int, d0, v1']); (try (simp (disch := omega) only [W2, Int.cast_ofNat_Int]; (try simp only [S, TY, reduceCtorEq, Nat.reduceEqDiff, Nat.reduceAdd, Nat.reduceLeDiff, Nat.reduceBEq, Int.reduceBEq, Nat.reduceMul, Int.reduceEq, Int.reduceLT, Int.reduceLE, Int.reduceAdd, Int.reduceSub, Int.reduceMul, Int.reduceToNat, Int.cast_ofNat_Int, d0, v1']))))
      refine sg.stAll (vs := pkl 0 0 0 0 0 0 0 (.slice none 0 0)) (h12.front 3) rfl rfl fun H14 h14 => ?_
      have w14 := h14.ld
      simp only [List.length_cons, List.length_nil, Nat.reduceAdd] at w14
      ((try simp only [S, TY, reduceCtorEq, Nat.reduceEqDiff, Nat.reduceAdd, Nat.reduceLeDiff, Nat.reduceBEq, Int.reduceBEq, Nat.reduceMul, Int.reduceEq, Int.reduceLT, Int.reduceLE, Int.reduceAdd, Int.reduceSub, Int.reduceMul, Int.reduceToNat, Int.cast_ofNat_Int, w14]); (try (simp (disch := omega) only [W2, Int.cast_ofNat_Int]; (try simp only [S, TY, reduceCtorEq, Nat.reduceEqDiff, Nat.reduceAdd, Nat.reduceLeDiff, Nat.reduceBEq, Int.reduceBEq, Nat.reduceMul, Int.reduceEq, Int.reduceLT, Int.reduceLE, Int.reduceAdd, Int.reduceSub, Int.reduceMul, Int.reduceToNat, Int.cast_ofNat_Int, w14]))))
      exact bad _ hp h14.take1
  · rw [if_neg (fun q => d0 q.1)] at hp
    ((try simp only [S, TY, reduceCtorEq, Nat.reduceEqDiff, Nat.reduceAdd, Nat.reduceLeDiff, Nat.reduceBEq, Int.reduceBEq, Nat.reduceMul, Int.reduceEq, Int.reduceLT, Int.reduceLE, Int.reduceAdd, Int.reduceSub, Int.reduceMul, Int.reduceToNat, Int.cast_ofNat_Int, d0]); (try (simp (disch := omega) only [W2, Int.cast_ofNat_Int]; (try simp only [S, TY, reduceCtorEq, Nat.reduceEqDiff, Nat.reduceAdd, Nat.reduceLeDiff, Nat.reduceBEq, Int.reduceBEq, Nat.reduceMul, Int.reduceEq, Int.reduceLT, Int.reduceLE, Int.reduceAdd, Int.reduceSub, Int.reduceMul, Int.reduceToNat, Int.cast_ofNat_Int, d0]))))
    refine sg.stAll (vs := pkl 0 0 0 0 0 0 0 (.slice none 0 0)) (h12.front 3) rfl rfl fun H14 h14 => ?_
    have w14 := h14.ld
    simp only [List.length_cons, List.length_nil, Nat.reduceAdd] at w14
    ((try simp only [S, TY, reduceCtorEq, Nat.reduceEqDiff, Nat.reduceAdd, Nat.reduceLeDiff, Nat.reduceBEq, Int.reduceBEq, Nat.reduceMul, Int.reduceEq, Int.reduceLT, Int.reduceLE, Int.reduceAdd, Int.reduceSub, Int.reduceMul, Int.reduceToNat, Int.cast_ofNat_Int, w14]); (try (simp (disch := omega) only [W2, Int.cast_ofNat_Int]; (try simp only [S, TY, reduceCtorEq, Nat.reduceEqDiff, Nat.reduceAdd, Nat.reduceLeDiff, Nat.reduceBEq, Int.reduceBEq, Nat.reduceMul, Int.reduceEq, Int.reduceLT, Int.reduceLE, Int.reduceAdd, Int.reduceSub, Int.reduceMul, Int.reduceToNat, Int.cast_ofNat_Int, w14]))))
    exact bad _ hp h14.take1
end Go.Proofs.Ytfdcllpedfifpaa.TunD
