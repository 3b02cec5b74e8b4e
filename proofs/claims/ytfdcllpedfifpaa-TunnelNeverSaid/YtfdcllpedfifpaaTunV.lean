/- TunnelNever: the law's walk. -/
import Derived.Test.YtfdcllpedfifpaaTunT
set_option linter.unusedVariables false
set_option linter.unusedSimpArgs false
set_option linter.constructorNameAsVariable false
set_option maxRecDepth 10000
set_option maxHeartbeats 1000000
namespace Go.Proofs.Ytfdcllpedfifpaa.TunV
open Go Go.Sl Go.Proofs Go.Proofs.Ytfdcllpedfifpaa.Buf Go.Proofs.Ytfdcllpedfifpaa.BufRd Go.Proofs.Ytfdcllpedfifpaa.BufRe Go.Proofs.Ytfdcllpedfifpaa.BufP Go.Proofs.Ytfdcllpedfifpaa.TunP Go.Proofs.Ytfdcllpedfifpaa.Tun Go.Proofs.Ytfdcllpedfifpaa.TunD Go.Proofs.Ytfdcllpedfifpaa.TunA Go.Proofs.Ytfdcllpedfifpaa.TunR Go.Proofs.Ytfdcllpedfifpaa.TunW Go.Proofs.Ytfdcllpedfifpaa.TunT
theorem TY : abIs Try.prog 101 = true ∧
  abSz Try.prog 101 = 1 ∧
  aggN Try.prog 3 = some none ∧
  aggN Try.prog 5 = some none ∧
  aggN Try.prog 9 = some none ∧
  aggN Try.prog 29 = some none ∧
  aggN Try.prog 33 = some none ∧
  aggN Try.prog 100 = some (some 8) ∧
  aggN Try.prog 101 = some (some 2) ∧
  apI Try.prog 33 = some (5, 1, 1) ∧
  arIs Try.prog 101 = true ∧
  arLen Try.prog 101 = 2 ∧
  arSz Try.prog 101 = 1 ∧
  bIs Try.prog 100 = true ∧
  bySl Try.prog 33 = true ∧
  csz Try.prog 3 = some 1 ∧
  csz Try.prog 5 = some 1 ∧
  csz Try.prog 9 = some 1 ∧
  csz Try.prog 29 = some 1 ∧
  csz Try.prog 33 = some 1 ∧
  csz Try.prog 100 = some 8 ∧
  csz Try.prog 101 = some 2 ∧
  eqF Try.prog 101 = some [.i, .i] ∧
  fIs Try.prog 100 1 = true ∧
  fIs Try.prog 100 2 = true ∧
  fIs Try.prog 100 3 = true ∧
  fIs Try.prog 100 4 = true ∧
  fIs Try.prog 100 6 = true ∧
  fIs Try.prog 100 7 = true ∧
  fOff Try.prog 100 1 = 1 ∧
  fOff Try.prog 100 2 = 2 ∧
  fOff Try.prog 100 3 = 3 ∧
  fOff Try.prog 100 4 = 4 ∧
  fOff Try.prog 100 6 = 6 ∧
  fOff Try.prog 100 7 = 7 ∧
  fTy Try.prog 100 1 = 3 ∧
  fTy Try.prog 100 2 = 3 ∧
  fTy Try.prog 100 3 = 3 ∧
  fTy Try.prog 100 4 = 3 ∧
  fTy Try.prog 100 6 = 3 ∧
  fTy Try.prog 100 7 = 33 ∧
  goes Try.prog 66 = true ∧
  goes Try.prog 67 = true ∧
  goes Try.prog 68 = true ∧
  inIs Try.prog 3 = some .i64 ∧
  inIs Try.prog 5 = some .u8 ∧
  inIs Try.prog 29 = some .i64 ∧
  plcs Try.prog 100 = [(0, 1), (1, 1), (2, 1), (3, 1), (4, 1), (5, 1), (6, 1), (7, 1)] ∧
  slEl Try.prog 33 = 5 ∧
  slIs Try.prog 33 = true ∧
  slSz Try.prog 33 = 1 ∧
  stIs Try.prog 9 = true ∧
  zcs Try.prog 100 = [.int .i64 0, .int .i64 0, .int .i64 0, .int .i64 0, .int .i64 0, .int .i64 0, .int .i64 0, .slice none 0 0] ∧
  zcs Try.prog 101 = [.int .i64 0, .int .i64 0] ∧
  zro Try.prog 3 = some (.int .i64 0) ∧
  zro Try.prog 5 = some (.int .u8 0) ∧
  zro Try.prog 9 = some (.string ByteArray.empty) ∧
  zro Try.prog 29 = some (.int .i64 0) ∧
  zro Try.prog 33 = some (.slice none 0 0) ∧
  zro Try.prog 100 = some (.agg #[.int .i64 0, .int .i64 0, .int .i64 0, .int .i64 0, .int .i64 0, .int .i64 0, .int .i64 0, .slice none 0 0]) ∧
  zro Try.prog 101 = some (.agg #[.int .i64 0, .int .i64 0]) :=
  ⟨by kernel_rfl, by kernel_rfl, by kernel_rfl, by kernel_rfl, by kernel_rfl, by kernel_rfl, by kernel_rfl, by kernel_rfl, by kernel_rfl, by kernel_rfl, by kernel_rfl, by kernel_rfl, by kernel_rfl, by kernel_rfl, by kernel_rfl, by kernel_rfl, by kernel_rfl, by kernel_rfl, by kernel_rfl, by kernel_rfl, by kernel_rfl, by kernel_rfl, by kernel_rfl, by kernel_rfl, by kernel_rfl, by kernel_rfl, by kernel_rfl, by kernel_rfl, by kernel_rfl, by kernel_rfl, by kernel_rfl, by kernel_rfl, by kernel_rfl, by kernel_rfl, by kernel_rfl, by kernel_rfl, by kernel_rfl, by kernel_rfl, by kernel_rfl, by kernel_rfl, by kernel_rfl, by kernel_rfl, by kernel_rfl, by kernel_rfl, by kernel_rfl, by kernel_rfl, by kernel_rfl, by kernel_rfl, by kernel_rfl, by kernel_rfl, by kernel_rfl, by kernel_rfl, by kernel_rfl, by kernel_rfl, by kernel_rfl, by kernel_rfl, by kernel_rfl, by kernel_rfl, by kernel_rfl, by kernel_rfl, by kernel_rfl⟩
theorem once {x : Pk} {t g : Int} (h : agE x t g = 0) : (nxt x t g).ok = true ∧ x.t ≠ x.o ∧ t ≠ x.o ∧ t ≠ x.t ∧ ∀ t' g', agE (nxt x t g) t' g' = 8 := by
  unfold agE at h
  split at h
  · cases h
  split at h
  · cases h
  split at h
  · cases h
  rename_i h1 h2 h3
  rw [Bool.not_eq_false] at h3
  have h4 := h3
  unfold Pk.ok right way at h4
  simp only [decide_eq_true_eq, nxt] at h4
  refine ⟨h3, by omega, by omega, by omega, fun t' g' => ?_⟩
  unfold agE
  rw [h3, if_neg (by simp), if_pos (by simp [nxt])]
theorem never {G : Hp} {u : Value} (x : Pk) (t0 t1 a0 a1 : Int) (hu : rds G 1 u (bv x.fr)) :
    Con Try.prog G 14 [Pk.v x u, .agg #[.int .i64 t0, .int .i64 t1], .agg #[.int .i64 a0, .int .i64 a1]] [] (fun r B => r = .bool true ∧ B = []) := by
  refine Con.intro Try.func14 rfl (Nat.le_of_ble_eq_true (by kernel_rfl)) (by kernel_rfl) Try.results14 ?_
  intro H hH
  obtain ⟨ua, un, uc, rfl, e1, e2⟩ := hu.slice
  ((try simp only [S, TY, reduceCtorEq, Nat.reduceEqDiff, Nat.reduceAdd, Nat.reduceLeDiff, Nat.reduceBEq, Int.reduceBEq, Nat.reduceMul, Int.reduceEq, Int.reduceLT, Int.reduceLE, Int.reduceAdd, Int.reduceSub, Int.reduceMul, Int.reduceToNat, Int.cast_ofNat_Int]); (try (simp (disch := omega) only [W2, Int.cast_ofNat_Int]; (try simp only [S, TY, reduceCtorEq, Nat.reduceEqDiff, Nat.reduceAdd, Nat.reduceLeDiff, Nat.reduceBEq, Int.reduceBEq, Nat.reduceMul, Int.reduceEq, Int.reduceLT, Int.reduceLE, Int.reduceAdd, Int.reduceSub, Int.reduceMul, Int.reduceToNat, Int.cast_ofNat_Int]))))
  intro b3 hb3 hg3
  have h1 := hH.new hb3 hg3 (.cells (pkl x.k x.o x.f x.t x.p x.g x.i (.slice ua un uc)).toArray 100 (0, 0))
  ((try simp only [S, TY, reduceCtorEq, Nat.reduceEqDiff, Nat.reduceAdd, Nat.reduceLeDiff, Nat.reduceBEq, Int.reduceBEq, Nat.reduceMul, Int.reduceEq, Int.reduceLT, Int.reduceLE, Int.reduceAdd, Int.reduceSub, Int.reduceMul, Int.reduceToNat, Int.cast_ofNat_Int]); (try (simp (disch := omega) only [W2, Int.cast_ofNat_Int]; (try simp only [S, TY, reduceCtorEq, Nat.reduceEqDiff, Nat.reduceAdd, Nat.reduceLeDiff, Nat.reduceBEq, Int.reduceBEq, Nat.reduceMul, Int.reduceEq, Int.reduceLT, Int.reduceLE, Int.reduceAdd, Int.reduceSub, Int.reduceMul, Int.reduceToNat, Int.cast_ofNat_Int]))))
  intro b4 hb4 hg4
  have h2 := h1.new hb4 hg4 (.cells #[.int .i64 t0, .int .i64 t1] 101 (0, 0))
  ((try simp only [S, TY, reduceCtorEq, Nat.reduceEqDiff, Nat.reduceAdd, Nat.reduceLeDiff, Nat.reduceBEq, Int.reduceBEq, Nat.reduceMul, Int.reduceEq, Int.reduceLT, Int.reduceLE, Int.reduceAdd, Int.reduceSub, Int.reduceMul, Int.reduceToNat, Int.cast_ofNat_Int]); (try (simp (disch := omega) only [W2, Int.cast_ofNat_Int]; (try simp only [S, TY, reduceCtorEq, Nat.reduceEqDiff, Nat.reduceAdd, Nat.reduceLeDiff, Nat.reduceBEq, Int.reduceBEq, Nat.reduceMul, Int.reduceEq, Int.reduceLT, Int.reduceLE, Int.reduceAdd, Int.reduceSub, Int.reduceMul, Int.reduceToNat, Int.cast_ofNat_Int]))))
  intro b5 hb5 hg5
  have h3 := h2.new hb5 hg5 (.cells #[.int .i64 a0, .int .i64 a1] 101 (0, 0))
  have w3 := ((h3.front 2)).ld
  simp only [List.length_cons, List.length_nil, Nat.reduceAdd] at w3
  ((try simp only [S, TY, reduceCtorEq, Nat.reduceEqDiff, Nat.reduceAdd, Nat.reduceLeDiff, Nat.reduceBEq, Int.reduceBEq, Nat.reduceMul, Int.reduceEq, Int.reduceLT, Int.reduceLE, Int.reduceAdd, Int.reduceSub, Int.reduceMul, Int.reduceToNat, Int.cast_ofNat_Int, w3]); (try (simp (disch := omega) only [W2, Int.cast_ofNat_Int]; (try simp only [S, TY, reduceCtorEq, Nat.reduceEqDiff, Nat.reduceAdd, Nat.reduceLeDiff, Nat.reduceBEq, Int.reduceBEq, Nat.reduceMul, Int.reduceEq, Int.reduceLT, Int.reduceLE, Int.reduceAdd, Int.reduceSub, Int.reduceMul, Int.reduceToNat, Int.cast_ofNat_Int, w3]))))
  refine (Fits_ok x hu).at_ h3 [] _ rfl fun r B H5 hr h5 => ?_
  obtain ⟨rfl, rfl⟩ := hr
  by_cases k1 : x.fr.length ≤ 3000
  · have w5 := ((h5.front 2)).ld
    simp only [List.length_cons, List.length_nil, Nat.reduceAdd] at w5
    have c5 := (h5.front 1).c0
    ((try simp only [S, TY, reduceCtorEq, Nat.reduceEqDiff, Nat.reduceAdd, Nat.reduceLeDiff, Nat.reduceBEq, Int.reduceBEq, Nat.reduceMul, Int.reduceEq, Int.reduceLT, Int.reduceLE, Int.reduceAdd, Int.reduceSub, Int.reduceMul, Int.reduceToNat, Int.cast_ofNat_Int, k1, w5, c5]); (try (simp (disch := omega) only [W2, Int.cast_ofNat_Int]; (try simp only [S, TY, reduceCtorEq, Nat.reduceEqDiff, Nat.reduceAdd, Nat.reduceLeDiff, Nat.reduceBEq, Int.reduceBEq, Nat.reduceMul, Int.reduceEq, Int.reduceLT, Int.reduceLE, Int.reduceAdd, Int.reduceSub, Int.reduceMul, Int.reduceToNat, Int.cast_ofNat_Int, k1, w5, c5]))))
    refine (Again_ok x t0 t1 hu (by omega)).at_ h5 [] _ rfl fun r B H6 hr h6 => ?_
    unfold AgR at hr
    by_cases hE : agE x t0 t1 = 0
    · rw [if_pos hE] at hr
      obtain ⟨v, rfl, rfl⟩ := hr
      obtain ⟨va, vn, vc, rfl, _, _⟩ := h6.sl 0 rfl Rd_own
      obtain ⟨o1, o2, o3, o4, o5⟩ := once hE
      ((try simp only [S, TY, reduceCtorEq, Nat.reduceEqDiff, Nat.reduceAdd, Nat.reduceLeDiff, Nat.reduceBEq, Int.reduceBEq, Nat.reduceMul, Int.reduceEq, Int.reduceLT, Int.reduceLE, Int.reduceAdd, Int.reduceSub, Int.reduceMul, Int.reduceToNat, Int.cast_ofNat_Int]); (try (simp (disch := omega) only [W2, Int.cast_ofNat_Int]; (try simp only [S, TY, reduceCtorEq, Nat.reduceEqDiff, Nat.reduceAdd, Nat.reduceLeDiff, Nat.reduceBEq, Int.reduceBEq, Nat.reduceMul, Int.reduceEq, Int.reduceLT, Int.reduceLE, Int.reduceAdd, Int.reduceSub, Int.reduceMul, Int.reduceToNat, Int.cast_ofNat_Int]))))
      intro b9 hb9 hg9
      have h7 := h6.new hb9 hg9 (.cells z0.toArray 100 (0, 0))
      ((try simp only [S, TY, reduceCtorEq, Nat.reduceEqDiff, Nat.reduceAdd, Nat.reduceLeDiff, Nat.reduceBEq, Int.reduceBEq, Nat.reduceMul, Int.reduceEq, Int.reduceLT, Int.reduceLE, Int.reduceAdd, Int.reduceSub, Int.reduceMul, Int.reduceToNat, Int.cast_ofNat_Int]); (try (simp (disch := omega) only [W2, Int.cast_ofNat_Int]; (try simp only [S, TY, reduceCtorEq, Nat.reduceEqDiff, Nat.reduceAdd, Nat.reduceLeDiff, Nat.reduceBEq, Int.reduceBEq, Nat.reduceMul, Int.reduceEq, Int.reduceLT, Int.reduceLE, Int.reduceAdd, Int.reduceSub, Int.reduceMul, Int.reduceToNat, Int.cast_ofNat_Int]))))
      refine sg.stAll (vs := pkl 2 x.o x.t t0 x.p t1 x.i (.slice va vn vc)) h7 rfl rfl fun H8 h8 => ?_
      have w8 := (h8).ld
      simp only [List.length_cons, List.length_nil, Nat.reduceAdd] at w8
      have c8 := (h8.front 2).c0
      ((try simp only [S, TY, reduceCtorEq, Nat.reduceEqDiff, Nat.reduceAdd, Nat.reduceLeDiff, Nat.reduceBEq, Int.reduceBEq, Nat.reduceMul, Int.reduceEq, Int.reduceLT, Int.reduceLE, Int.reduceAdd, Int.reduceSub, Int.reduceMul, Int.reduceToNat, Int.cast_ofNat_Int, w8, c8]); (try (simp (disch := omega) only [W2, Int.cast_ofNat_Int]; (try simp only [S, TY, reduceCtorEq, Nat.reduceEqDiff, Nat.reduceAdd, Nat.reduceLeDiff, Nat.reduceBEq, Int.reduceBEq, Nat.reduceMul, Int.reduceEq, Int.reduceLT, Int.reduceLE, Int.reduceAdd, Int.reduceSub, Int.reduceMul, Int.reduceToNat, Int.cast_ofNat_Int, w8, c8]))))
      refine Con.lend_at [] [own 5 1 _ _] h8 [1] rfl (fun F hF hs => Again_ok (nxt x t0 t1) a0 a1 (seps_own hs 0 rfl).left (by show x.fr.length ≤ _; omega)) fun r B H9 hr h9 => ?_
      unfold AgR at hr
      rw [o5, if_neg (by decide)] at hr
      obtain ⟨rfl, rfl⟩ := hr
      ((try simp only [S, TY, reduceCtorEq, Nat.reduceEqDiff, Nat.reduceAdd, Nat.reduceLeDiff, Nat.reduceBEq, Int.reduceBEq, Nat.reduceMul, Int.reduceEq, Int.reduceLT, Int.reduceLE, Int.reduceAdd, Int.reduceSub, Int.reduceMul, Int.reduceToNat, Int.cast_ofNat_Int]); (try (simp (disch := omega) only [W2, Int.cast_ofNat_Int]; (try simp only [S, TY, reduceCtorEq, Nat.reduceEqDiff, Nat.reduceAdd, Nat.reduceLeDiff, Nat.reduceBEq, Int.reduceBEq, Nat.reduceMul, Int.reduceEq, Int.reduceLT, Int.reduceLE, Int.reduceAdd, Int.reduceSub, Int.reduceMul, Int.reduceToNat, Int.cast_ofNat_Int]))))
      intro b10 hb10 hg10
      have h10 := h9.new hb10 hg10 (.cells z0.toArray 100 (0, 0))
      ((try simp only [S, TY, reduceCtorEq, Nat.reduceEqDiff, Nat.reduceAdd, Nat.reduceLeDiff, Nat.reduceBEq, Int.reduceBEq, Nat.reduceMul, Int.reduceEq, Int.reduceLT, Int.reduceLE, Int.reduceAdd, Int.reduceSub, Int.reduceMul, Int.reduceToNat, Int.cast_ofNat_Int]); (try (simp (disch := omega) only [W2, Int.cast_ofNat_Int]; (try simp only [S, TY, reduceCtorEq, Nat.reduceEqDiff, Nat.reduceAdd, Nat.reduceLeDiff, Nat.reduceBEq, Int.reduceBEq, Nat.reduceMul, Int.reduceEq, Int.reduceLT, Int.reduceLE, Int.reduceAdd, Int.reduceSub, Int.reduceMul, Int.reduceToNat, Int.cast_ofNat_Int]))))
      refine sg.stAll (vs := z0) h10 rfl rfl fun H11 h11 => ?_
      have c11 := h11.c0
      ((try simp only [S, TY, reduceCtorEq, Nat.reduceEqDiff, Nat.reduceAdd, Nat.reduceLeDiff, Nat.reduceBEq, Int.reduceBEq, Nat.reduceMul, Int.reduceEq, Int.reduceLT, Int.reduceLE, Int.reduceAdd, Int.reduceSub, Int.reduceMul, Int.reduceToNat, Int.cast_ofNat_Int, c11]); (try (simp (disch := omega) only [W2, Int.cast_ofNat_Int]; (try simp only [S, TY, reduceCtorEq, Nat.reduceEqDiff, Nat.reduceAdd, Nat.reduceLeDiff, Nat.reduceBEq, Int.reduceBEq, Nat.reduceMul, Int.reduceEq, Int.reduceLT, Int.reduceLE, Int.reduceAdd, Int.reduceSub, Int.reduceMul, Int.reduceToNat, Int.cast_ofNat_Int, c11]))))
      refine (alive).at_ h11 [] _ rfl fun r B H12 hr h12 => ?_
      obtain ⟨rfl, rfl⟩ := hr
      have c12 := (h12.front 2).c0
      have d12 := (h12.front 5).c0
      have s1 := rStr_of (P := Try.prog) (h12.rdsi 1 rfl Rd_own)
      have s2 := rStr_of (P := Try.prog) (h12.ro hu)
      have p1 : ¬ x.o = x.t := fun q => o2 q.symm
      have p2 : ¬ x.t = t0 := fun q => o4 q.symm
      have p3 : ¬ x.o = t0 := fun q => o3 q.symm
      ((try simp only [S, TY, reduceCtorEq, Nat.reduceEqDiff, Nat.reduceAdd, Nat.reduceLeDiff, Nat.reduceBEq, Int.reduceBEq, Nat.reduceMul, Int.reduceEq, Int.reduceLT, Int.reduceLE, Int.reduceAdd, Int.reduceSub, Int.reduceMul, Int.reduceToNat, Int.cast_ofNat_Int, c12, d12, s1, s2, p1, p2, p3]); (try (simp (disch := omega) only [W2, Int.cast_ofNat_Int]; (try simp only [S, TY, reduceCtorEq, Nat.reduceEqDiff, Nat.reduceAdd, Nat.reduceLeDiff, Nat.reduceBEq, Int.reduceBEq, Nat.reduceMul, Int.reduceEq, Int.reduceLT, Int.reduceLE, Int.reduceAdd, Int.reduceSub, Int.reduceMul, Int.reduceToNat, Int.cast_ofNat_Int, c12, d12, s1, s2, p1, p2, p3]))))
      exact fin_take (B := []) h12 ⟨rfl, rfl⟩
    · rw [if_neg hE] at hr
      obtain ⟨rfl, rfl⟩ := hr
      ((try simp only [S, TY, reduceCtorEq, Nat.reduceEqDiff, Nat.reduceAdd, Nat.reduceLeDiff, Nat.reduceBEq, Int.reduceBEq, Nat.reduceMul, Int.reduceEq, Int.reduceLT, Int.reduceLE, Int.reduceAdd, Int.reduceSub, Int.reduceMul, Int.reduceToNat, Int.cast_ofNat_Int]); (try (simp (disch := omega) only [W2, Int.cast_ofNat_Int]; (try simp only [S, TY, reduceCtorEq, Nat.reduceEqDiff, Nat.reduceAdd, Nat.reduceLeDiff, Nat.reduceBEq, Int.reduceBEq, Nat.reduceMul, Int.reduceEq, Int.reduceLT, Int.reduceLE, Int.reduceAdd, Int.reduceSub, Int.reduceMul, Int.reduceToNat, Int.cast_ofNat_Int]))))
      intro b9 hb9 hg9
      have h7 := h6.new hb9 hg9 (.cells z0.toArray 100 (0, 0))
      ((try simp only [S, TY, reduceCtorEq, Nat.reduceEqDiff, Nat.reduceAdd, Nat.reduceLeDiff, Nat.reduceBEq, Int.reduceBEq, Nat.reduceMul, Int.reduceEq, Int.reduceLT, Int.reduceLE, Int.reduceAdd, Int.reduceSub, Int.reduceMul, Int.reduceToNat, Int.cast_ofNat_Int]); (try (simp (disch := omega) only [W2, Int.cast_ofNat_Int]; (try simp only [S, TY, reduceCtorEq, Nat.reduceEqDiff, Nat.reduceAdd, Nat.reduceLeDiff, Nat.reduceBEq, Int.reduceBEq, Nat.reduceMul, Int.reduceEq, Int.reduceLT, Int.reduceLE, Int.reduceAdd, Int.reduceSub, Int.reduceMul, Int.reduceToNat, Int.cast_ofNat_Int]))))
      refine sg.stAll (vs := z0) h7 rfl rfl fun H8 h8 => ?_
      ((try simp only [S, TY, reduceCtorEq, Nat.reduceEqDiff, Nat.reduceAdd, Nat.reduceLeDiff, Nat.reduceBEq, Int.reduceBEq, Nat.reduceMul, Int.reduceEq, Int.reduceLT, Int.reduceLE, Int.reduceAdd, Int.reduceSub, Int.reduceMul, Int.reduceToNat, Int.cast_ofNat_Int, hE]); (try (simp (disch := omega) only [W2, Int.cast_ofNat_Int]; (try simp only [S, TY, reduceCtorEq, Nat.reduceEqDiff, Nat.reduceAdd, Nat.reduceLeDiff, Nat.reduceBEq, Int.reduceBEq, Nat.reduceMul, Int.reduceEq, Int.reduceLT, Int.reduceLE, Int.reduceAdd, Int.reduceSub, Int.reduceMul, Int.reduceToNat, Int.cast_ofNat_Int, hE]))))
      refine (alive).at_ h8 [] _ rfl fun r B H9 hr h9 => ?_
      obtain ⟨rfl, rfl⟩ := hr
      have c9 := h9.c0
      ((try simp only [S, TY, reduceCtorEq, Nat.reduceEqDiff, Nat.reduceAdd, Nat.reduceLeDiff, Nat.reduceBEq, Int.reduceBEq, Nat.reduceMul, Int.reduceEq, Int.reduceLT, Int.reduceLE, Int.reduceAdd, Int.reduceSub, Int.reduceMul, Int.reduceToNat, Int.cast_ofNat_Int, c9]); (try (simp (disch := omega) only [W2, Int.cast_ofNat_Int]; (try simp only [S, TY, reduceCtorEq, Nat.reduceEqDiff, Nat.reduceAdd, Nat.reduceLeDiff, Nat.reduceBEq, Int.reduceBEq, Nat.reduceMul, Int.reduceEq, Int.reduceLT, Int.reduceLE, Int.reduceAdd, Int.reduceSub, Int.reduceMul, Int.reduceToNat, Int.cast_ofNat_Int, c9]))))
      exact fin_take (B := []) h9 ⟨rfl, rfl⟩
  · ((try simp only [S, TY, reduceCtorEq, Nat.reduceEqDiff, Nat.reduceAdd, Nat.reduceLeDiff, Nat.reduceBEq, Int.reduceBEq, Nat.reduceMul, Int.reduceEq, Int.reduceLT, Int.reduceLE, Int.reduceAdd, Int.reduceSub, Int.reduceMul, Int.reduceToNat, Int.cast_ofNat_Int, k1]); (try (simp (disch := omega) only [W2, Int.cast_ofNat_Int]; (try simp only [S, TY, reduceCtorEq, Nat.reduceEqDiff, Nat.reduceAdd, Nat.reduceLeDiff, Nat.reduceBEq, Int.reduceBEq, Nat.reduceMul, Int.reduceEq, Int.reduceLT, Int.reduceLE, Int.reduceAdd, Int.reduceSub, Int.reduceMul, Int.reduceToNat, Int.cast_ofNat_Int, k1]))))
    refine (alive).at_ h5 [] _ rfl fun r B H6 hr h6 => ?_
    obtain ⟨rfl, rfl⟩ := hr
    ((try simp only [S, TY, reduceCtorEq, Nat.reduceEqDiff, Nat.reduceAdd, Nat.reduceLeDiff, Nat.reduceBEq, Int.reduceBEq, Nat.reduceMul, Int.reduceEq, Int.reduceLT, Int.reduceLE, Int.reduceAdd, Int.reduceSub, Int.reduceMul, Int.reduceToNat, Int.cast_ofNat_Int]); (try (simp (disch := omega) only [W2, Int.cast_ofNat_Int]; (try simp only [S, TY, reduceCtorEq, Nat.reduceEqDiff, Nat.reduceAdd, Nat.reduceLeDiff, Nat.reduceBEq, Int.reduceBEq, Nat.reduceMul, Int.reduceEq, Int.reduceLT, Int.reduceLE, Int.reduceAdd, Int.reduceSub, Int.reduceMul, Int.reduceToNat, Int.cast_ofNat_Int]))))
    exact fin_take (B := []) h6 ⟨rfl, rfl⟩
theorem arr2 {G : Hp} {v : Value} {y : (Ty.arr 2 (.int .i64)).den} (h : Ty.V G (.arr 2 (.int .i64)) v y) : ∃ a b : Int, v = .agg #[.int .i64 a, .int .i64 b] := by
  rcases h with ⟨_, cs, rfl, css, rfl, h1, h2⟩ | ⟨h, _⟩
  · obtain ⟨h3, h4, h5⟩ := h2
    obtain ⟨c, d, rfl⟩ : ∃ c d, css = [c, d] := by
      match css, h1 with
      | [c, d], _ => exact ⟨c, d, rfl⟩
    obtain ⟨e, f, rfl⟩ : ∃ e f, y = [e, f] := by
      match y, h3 with
      | [c, d], _ => exact ⟨c, d, rfl⟩
    obtain ⟨q1, _⟩ := h5 0 c e rfl rfl
    obtain ⟨q2, _⟩ := h5 1 d f rfl rfl
    subst q1; subst q2
    exact ⟨e, f, rfl⟩
  · cases h
theorem pkt {G : Hp} {v : Value} {y : (Ty.st (.pr (.int .i64) (.pr (.int .i64) (.pr (.int .i64) (.pr (.int .i64) (.pr (.int .i64) (.pr (.int .i64) (.pr (.int .i64) (.pr .bytes .un))))))))).den}
    (h : Ty.V G (.st (.pr (.int .i64) (.pr (.int .i64) (.pr (.int .i64) (.pr (.int .i64) (.pr (.int .i64) (.pr (.int .i64) (.pr (.int .i64) (.pr .bytes .un))))))))) v y) : ∃ (x : Pk) (u : Value), v = Pk.v x u ∧ rds G 1 u (bv x.fr) := by
  rcases h with ⟨_, cs, rfl, h0⟩ | ⟨h, _⟩
  · obtain ⟨_, _, rfl, _, ⟨rfl, _⟩, _, _, rfl, _, ⟨rfl, _⟩, _, _, rfl, _, ⟨rfl, _⟩, _, _, rfl, _, ⟨rfl, _⟩, _, _, rfl, _, ⟨rfl, _⟩, _, _, rfl, _, ⟨rfl, _⟩, _, _, rfl, _, ⟨rfl, _⟩, _, _, rfl, _, ⟨u, rfl, hu⟩, rfl⟩ := h0
    exact ⟨⟨_, _, _, _, _, _, _, _⟩, u, rfl, hu⟩
  · cases h
theorem neverV {G : Hp} {v0 v1 v2 : Value} {y0 : (Ty.st (.pr (.int .i64) (.pr (.int .i64) (.pr (.int .i64) (.pr (.int .i64) (.pr (.int .i64) (.pr (.int .i64) (.pr (.int .i64) (.pr .bytes .un))))))))).den} {y1 y2 : (Ty.arr 2 (.int .i64)).den}
    (h0 : Ty.V G (.st (.pr (.int .i64) (.pr (.int .i64) (.pr (.int .i64) (.pr (.int .i64) (.pr (.int .i64) (.pr (.int .i64) (.pr (.int .i64) (.pr .bytes .un))))))))) v0 y0) (h1 : Ty.V G (.arr 2 (.int .i64)) v1 y1) (h2 : Ty.V G (.arr 2 (.int .i64)) v2 y2) :
    Con Try.prog G 14 [v0, v1, v2] [] (fun r B => r = .bool true ∧ B = []) := by
  obtain ⟨x, u, rfl, hu⟩ := pkt h0
  obtain ⟨a, b, rfl⟩ := arr2 h1
  obtain ⟨c, d, rfl⟩ := arr2 h2
  exact never x a b c d hu
theorem tellsV {G : Hp} {v0 v1 v2 : Value} {y0 y1 : (Ty.st (.pr (.int .i64) (.pr (.int .i64) (.pr (.int .i64) (.pr (.int .i64) (.pr (.int .i64) (.pr (.int .i64) (.pr (.int .i64) (.pr .bytes .un))))))))).den} {y2 : (Ty.arr 2 (.int .i64)).den}
    (h0 : Ty.V G (.st (.pr (.int .i64) (.pr (.int .i64) (.pr (.int .i64) (.pr (.int .i64) (.pr (.int .i64) (.pr (.int .i64) (.pr (.int .i64) (.pr .bytes .un))))))))) v0 y0) (h1 : Ty.V G (.st (.pr (.int .i64) (.pr (.int .i64) (.pr (.int .i64) (.pr (.int .i64) (.pr (.int .i64) (.pr (.int .i64) (.pr (.int .i64) (.pr .bytes .un))))))))) v1 y1) (h2 : Ty.V G (.arr 2 (.int .i64)) v2 y2) :
    Con Try.prog G 12 [v0, v1, v2] [] (fun r B => r = .bool true ∧ B = []) := by
  obtain ⟨x, u, rfl, hu⟩ := pkt h0
  obtain ⟨y, w, rfl, hw⟩ := pkt h1
  obtain ⟨c, d, rfl⟩ := arr2 h2
  exact tells x y c d hu hw
end Go.Proofs.Ytfdcllpedfifpaa.TunV
