/- The law's functions on files that may be torn, over the machine. -/
import Derived.Test.YtkdcapgjmcjdjaaDiskR
import Derived.Test.YtkdcapgjmcjdjaaRow
set_option linter.unusedVariables false
set_option linter.unusedSimpArgs false
set_option maxRecDepth 10000
namespace Go.Proofs.Ytkdcapgjmcjdjaa.DiskL
open Go Go.Sl Go.Proofs Go.Proofs.Ytkdcapgjmcjdjaa.Disk Go.Proofs.Ytkdcapgjmcjdjaa.DiskR
theorem TY : aggN Try.prog 3 = some none ∧
  aggN Try.prog 5 = some none ∧
  aggN Try.prog 9 = some none ∧
  aggN Try.prog 40 = some none ∧
  aggN Try.prog 42 = some none ∧
  aggN Try.prog 43 = some none ∧
  aggN Try.prog 47 = some none ∧
  aggN Try.prog 52 = some (some 3) ∧
  apI Try.prog 40 = some (52, 3, 40) ∧
  apI Try.prog 47 = some (5, 1, 1) ∧
  bIs Try.prog 52 = true ∧
  bySl Try.prog 47 = true ∧
  csz Try.prog 3 = some 1 ∧
  csz Try.prog 5 = some 1 ∧
  csz Try.prog 9 = some 1 ∧
  csz Try.prog 40 = some 1 ∧
  csz Try.prog 42 = some 1 ∧
  csz Try.prog 43 = some 1 ∧
  csz Try.prog 47 = some 1 ∧
  csz Try.prog 52 = some 3 ∧
  fIs Try.prog 52 1 = true ∧
  fOff Try.prog 52 1 = 1 ∧
  fTy Try.prog 52 1 = 47 ∧
  goes Try.prog 24 = true ∧
  goes Try.prog 26 = true ∧
  goes Try.prog 27 = true ∧
  goes Try.prog 28 = true ∧
  goes Try.prog 29 = true ∧
  goes Try.prog 30 = true ∧
  goes Try.prog 31 = true ∧
  inIs Try.prog 3 = some .i64 ∧
  inIs Try.prog 5 = some .u8 ∧
  inIs Try.prog 43 = some .i64 ∧
  plcs Try.prog 52 = [(0, 1), (1, 1), (2, 1)] ∧
  ptIs Try.prog 42 = true ∧
  slEl Try.prog 40 = 52 ∧
  slEl Try.prog 47 = 5 ∧
  slIs Try.prog 40 = true ∧
  slIs Try.prog 47 = true ∧
  slSz Try.prog 40 = 3 ∧
  slSz Try.prog 47 = 1 ∧
  stIs Try.prog 9 = true ∧
  zcs Try.prog 52 = [.int .u8 0, .slice none 0 0, .int .i64 0] ∧
  zro Try.prog 3 = some (.int .i64 0) ∧
  zro Try.prog 5 = some (.int .u8 0) ∧
  zro Try.prog 9 = some (.string ByteArray.empty) ∧
  zro Try.prog 40 = some (.slice none 0 0) ∧
  zro Try.prog 42 = some (.pointer none) ∧
  zro Try.prog 43 = some (.int .i64 0) ∧
  zro Try.prog 47 = some (.slice none 0 0) ∧
  zro Try.prog 52 = some (.agg #[.int .u8 0, .slice none 0 0, .int .i64 0]) :=
  ⟨by kernel_rfl, by kernel_rfl, by kernel_rfl, by kernel_rfl, by kernel_rfl, by kernel_rfl, by kernel_rfl, by kernel_rfl, by kernel_rfl, by kernel_rfl, by kernel_rfl, by kernel_rfl, by kernel_rfl, by kernel_rfl, by kernel_rfl, by kernel_rfl, by kernel_rfl, by kernel_rfl, by kernel_rfl, by kernel_rfl, by kernel_rfl, by kernel_rfl, by kernel_rfl, by kernel_rfl, by kernel_rfl, by kernel_rfl, by kernel_rfl, by kernel_rfl, by kernel_rfl, by kernel_rfl, by kernel_rfl, by kernel_rfl, by kernel_rfl, by kernel_rfl, by kernel_rfl, by kernel_rfl, by kernel_rfl, by kernel_rfl, by kernel_rfl, by kernel_rfl, by kernel_rfl, by kernel_rfl, by kernel_rfl, by kernel_rfl, by kernel_rfl, by kernel_rfl, by kernel_rfl, by kernel_rfl, by kernel_rfl, by kernel_rfl, by kernel_rfl⟩
theorem alive {G : Hp} : Con Try.prog G 23 [] [] (fun v B => v = .bool true ∧ B = []) := by
  refine Con.intro Try.func23 rfl (Nat.le_of_ble_eq_true (by kernel_rfl)) (by kernel_rfl) Try.results23 ?_
  intro H hH
  ((try simp only [S, TY, reduceCtorEq, Nat.reduceEqDiff, Nat.reduceAdd, Nat.reduceLeDiff, Nat.reduceMul, Nat.ble_eq, Int.toNat_natCast, Nat.mul_one, Nat.add_zero, decide_true, decide_false, beq_self_eq_true, bne_self_eq_false, beq_iff_eq, bne_iff_ne, ne_eq, Int.reduceEq, Int.reduceLT, Int.reduceLE, Int.reduceAdd, Int.reduceSub, bs_toList, mk_toList, bs_size, mk_size, not_true_eq_false, not_false_eq_true, List.length_nil, Int.cast_ofNat_Int, Int.natCast_zero, Int.natCast_one]); (try simp (disch := omega) only [wrap_id, Int.natCast_zero, Int.sub_zero, Int.toNat_natCast, Int.toNat_zero, Int.cast_ofNat_Int, Int.sub_self]))
  refine (new_ok 8 (by omega) (by omega)).at_ hH [] [] rfl fun v B H1 hv h1 => ?_
  obtain ⟨p, rfl, rfl⟩ := hv
  ((try simp only [S, TY, reduceCtorEq, Nat.reduceEqDiff, Nat.reduceAdd, Nat.reduceLeDiff, Nat.reduceMul, Nat.ble_eq, Int.toNat_natCast, Nat.mul_one, Nat.add_zero, decide_true, decide_false, beq_self_eq_true, bne_self_eq_false, beq_iff_eq, bne_iff_ne, ne_eq, Int.reduceEq, Int.reduceLT, Int.reduceLE, Int.reduceAdd, Int.reduceSub, bs_toList, mk_toList, bs_size, mk_size, not_true_eq_false, not_false_eq_true, List.length_nil, Int.cast_ofNat_Int, Int.natCast_zero, Int.natCast_one]); (try simp (disch := omega) only [wrap_id, Int.natCast_zero, Int.sub_zero, Int.toNat_natCast, Int.toNat_zero, Int.cast_ofNat_Int, Int.sub_self]))
  intro b hb hg
  have h2 := h1.newsl (e := 5) (sz := 1) (n := 3) (xs := bv [1, 2, 3]) hb hg rfl
  ((try simp only [S, TY, reduceCtorEq, Nat.reduceEqDiff, Nat.reduceAdd, Nat.reduceLeDiff, Nat.reduceMul, Nat.ble_eq, Int.toNat_natCast, Nat.mul_one, Nat.add_zero, decide_true, decide_false, beq_self_eq_true, bne_self_eq_false, beq_iff_eq, bne_iff_ne, ne_eq, Int.reduceEq, Int.reduceLT, Int.reduceLE, Int.reduceAdd, Int.reduceSub, bs_toList, mk_toList, bs_size, mk_size, not_true_eq_false, not_false_eq_true, List.length_nil, Int.cast_ofNat_Int, Int.natCast_zero, Int.natCast_one]); (try simp (disch := omega) only [wrap_id, Int.natCast_zero, Int.sub_zero, Int.toNat_natCast, Int.toNat_zero, Int.cast_ofNat_Int, Int.sub_self]))
  refine Con.lend_at [isF p _] [own 5 1 _ _] h2 [1, 0] rfl (fun F hF hs => add_ok (f := ⟨[], [], 8⟩) ⟨by decide, by decide⟩ (seps_own hs 0 rfl).left (by decide)) fun v B H2 hv h3 => ?_
  obtain ⟨rfl, rfl⟩ := hv
  rw [show F.add ⟨[], [], 8⟩ [1, 2, 3] = (⟨[], [1, 2, 3], 8⟩, 0) from rfl] at *
  ((try simp only [S, TY, reduceCtorEq, Nat.reduceEqDiff, Nat.reduceAdd, Nat.reduceLeDiff, Nat.reduceMul, Nat.ble_eq, Int.toNat_natCast, Nat.mul_one, Nat.add_zero, decide_true, decide_false, beq_self_eq_true, bne_self_eq_false, beq_iff_eq, bne_iff_ne, ne_eq, Int.reduceEq, Int.reduceLT, Int.reduceLE, Int.reduceAdd, Int.reduceSub, bs_toList, mk_toList, bs_size, mk_size, not_true_eq_false, not_false_eq_true, List.length_nil, Int.cast_ofNat_Int, Int.natCast_zero, Int.natCast_one]); (try simp (disch := omega) only [wrap_id, Int.natCast_zero, Int.sub_zero, Int.toNat_natCast, Int.toNat_zero, Int.cast_ofNat_Int, Int.sub_self]))
  refine (sync_ok (f := ⟨[], [1, 2, 3], 8⟩) ⟨by decide, by decide⟩).at_ h3 [0] _ rfl fun v B H4 hv h4 => ?_
  obtain ⟨rfl, rfl⟩ := hv
  rw [show F.sync ⟨[], [1, 2, 3], 8⟩ = ⟨[1, 2, 3], [], 8⟩ from rfl] at *
  ((try simp only [S, TY, reduceCtorEq, Nat.reduceEqDiff, Nat.reduceAdd, Nat.reduceLeDiff, Nat.reduceMul, Nat.ble_eq, Int.toNat_natCast, Nat.mul_one, Nat.add_zero, decide_true, decide_false, beq_self_eq_true, bne_self_eq_false, beq_iff_eq, bne_iff_ne, ne_eq, Int.reduceEq, Int.reduceLT, Int.reduceLE, Int.reduceAdd, Int.reduceSub, bs_toList, mk_toList, bs_size, mk_size, not_true_eq_false, not_false_eq_true, List.length_nil, Int.cast_ofNat_Int, Int.natCast_zero, Int.natCast_one]); (try simp (disch := omega) only [wrap_id, Int.natCast_zero, Int.sub_zero, Int.toNat_natCast, Int.toNat_zero, Int.cast_ofNat_Int, Int.sub_self]))
  intro b hb hg
  have h5 := h4.newsl (e := 5) (sz := 1) (n := 4) (xs := bv [4, 5, 6, 7]) hb hg rfl
  ((try simp only [S, TY, reduceCtorEq, Nat.reduceEqDiff, Nat.reduceAdd, Nat.reduceLeDiff, Nat.reduceMul, Nat.ble_eq, Int.toNat_natCast, Nat.mul_one, Nat.add_zero, decide_true, decide_false, beq_self_eq_true, bne_self_eq_false, beq_iff_eq, bne_iff_ne, ne_eq, Int.reduceEq, Int.reduceLT, Int.reduceLE, Int.reduceAdd, Int.reduceSub, bs_toList, mk_toList, bs_size, mk_size, not_true_eq_false, not_false_eq_true, List.length_nil, Int.cast_ofNat_Int, Int.natCast_zero, Int.natCast_one]); (try simp (disch := omega) only [wrap_id, Int.natCast_zero, Int.sub_zero, Int.toNat_natCast, Int.toNat_zero, Int.cast_ofNat_Int, Int.sub_self]))
  refine Con.lend_at [isF p _] [own 5 1 _ _] h5 [1, 0] rfl (fun F hF hs => add_ok (f := ⟨[1, 2, 3], [], 8⟩) ⟨by decide, by decide⟩ (seps_own hs 0 rfl).left (by decide)) fun v B H6 hv h6 => ?_
  obtain ⟨rfl, rfl⟩ := hv
  rw [show F.add ⟨[1, 2, 3], [], 8⟩ [4, 5, 6, 7] = (⟨[1, 2, 3], [4, 5, 6, 7], 8⟩, 0) from rfl] at *
  ((try simp only [S, TY, reduceCtorEq, Nat.reduceEqDiff, Nat.reduceAdd, Nat.reduceLeDiff, Nat.reduceMul, Nat.ble_eq, Int.toNat_natCast, Nat.mul_one, Nat.add_zero, decide_true, decide_false, beq_self_eq_true, bne_self_eq_false, beq_iff_eq, bne_iff_ne, ne_eq, Int.reduceEq, Int.reduceLT, Int.reduceLE, Int.reduceAdd, Int.reduceSub, bs_toList, mk_toList, bs_size, mk_size, not_true_eq_false, not_false_eq_true, List.length_nil, Int.cast_ofNat_Int, Int.natCast_zero, Int.natCast_one]); (try simp (disch := omega) only [wrap_id, Int.natCast_zero, Int.sub_zero, Int.toNat_natCast, Int.toNat_zero, Int.cast_ofNat_Int, Int.sub_self]))
  intro b hb hg
  have h7 := h6.newsl (e := 5) (sz := 1) (n := 2) (xs := bv [8, 9]) hb hg rfl
  ((try simp only [S, TY, reduceCtorEq, Nat.reduceEqDiff, Nat.reduceAdd, Nat.reduceLeDiff, Nat.reduceMul, Nat.ble_eq, Int.toNat_natCast, Nat.mul_one, Nat.add_zero, decide_true, decide_false, beq_self_eq_true, bne_self_eq_false, beq_iff_eq, bne_iff_ne, ne_eq, Int.reduceEq, Int.reduceLT, Int.reduceLE, Int.reduceAdd, Int.reduceSub, bs_toList, mk_toList, bs_size, mk_size, not_true_eq_false, not_false_eq_true, List.length_nil, Int.cast_ofNat_Int, Int.natCast_zero, Int.natCast_one]); (try simp (disch := omega) only [wrap_id, Int.natCast_zero, Int.sub_zero, Int.toNat_natCast, Int.toNat_zero, Int.cast_ofNat_Int, Int.sub_self]))
  refine Con.lend_at [isF p _] [own 5 1 _ _] h7 [1, 0] rfl (fun F hF hs => add_ok (f := ⟨[1, 2, 3], [4, 5, 6, 7], 8⟩) ⟨by decide, by decide⟩ (seps_own hs 0 rfl).left (by decide)) fun v B H8 hv h8 => ?_
  obtain ⟨rfl, rfl⟩ := hv
  rw [show F.add ⟨[1, 2, 3], [4, 5, 6, 7], 8⟩ [8, 9] = (⟨[1, 2, 3], [4, 5, 6, 7], 8⟩, 3) from rfl] at *
  ((try simp only [S, TY, reduceCtorEq, Nat.reduceEqDiff, Nat.reduceAdd, Nat.reduceLeDiff, Nat.reduceMul, Nat.ble_eq, Int.toNat_natCast, Nat.mul_one, Nat.add_zero, decide_true, decide_false, beq_self_eq_true, bne_self_eq_false, beq_iff_eq, bne_iff_ne, ne_eq, Int.reduceEq, Int.reduceLT, Int.reduceLE, Int.reduceAdd, Int.reduceSub, bs_toList, mk_toList, bs_size, mk_size, not_true_eq_false, not_false_eq_true, List.length_nil, Int.cast_ofNat_Int, Int.natCast_zero, Int.natCast_one]); (try simp (disch := omega) only [wrap_id, Int.natCast_zero, Int.sub_zero, Int.toNat_natCast, Int.toNat_zero, Int.cast_ofNat_Int, Int.sub_self]))
  refine (crash_ok (f := ⟨[1, 2, 3], [4, 5, 6, 7], 8⟩) ⟨by decide, by decide⟩ 1).at_ h8 [0] _ rfl fun v B H9 hv h9 => ?_
  obtain ⟨rfl, rfl⟩ := hv
  rw [show F.crash ⟨[1, 2, 3], [4, 5, 6, 7], 8⟩ 1 = (⟨[1, 2, 3, 4], [], 8⟩, 3) from rfl] at *
  ((try simp only [S, TY, reduceCtorEq, Nat.reduceEqDiff, Nat.reduceAdd, Nat.reduceLeDiff, Nat.reduceMul, Nat.ble_eq, Int.toNat_natCast, Nat.mul_one, Nat.add_zero, decide_true, decide_false, beq_self_eq_true, bne_self_eq_false, beq_iff_eq, bne_iff_ne, ne_eq, Int.reduceEq, Int.reduceLT, Int.reduceLE, Int.reduceAdd, Int.reduceSub, bs_toList, mk_toList, bs_size, mk_size, not_true_eq_false, not_false_eq_true, List.length_nil, Int.cast_ofNat_Int, Int.natCast_zero, Int.natCast_one]); (try simp (disch := omega) only [wrap_id, Int.natCast_zero, Int.sub_zero, Int.toNat_natCast, Int.toNat_zero, Int.cast_ofNat_Int, Int.sub_self]))
  refine (bytes_ok (f := ⟨[1, 2, 3, 4], [], 8⟩) ⟨by decide, by decide⟩).at_ h9 [0] _ rfl fun v B H10 hv h10 => ?_
  subst hv
  have s := rStr_of (P := Try.prog) (h10.rdsi 0 rfl Rd_own)
  obtain ⟨sa, sn, sc, rfl, _, _⟩ := h10.sl 0 rfl Rd_own
  ((try simp only [S, TY, reduceCtorEq, Nat.reduceEqDiff, Nat.reduceAdd, Nat.reduceLeDiff, Nat.reduceMul, Nat.ble_eq, Int.toNat_natCast, Nat.mul_one, Nat.add_zero, decide_true, decide_false, beq_self_eq_true, bne_self_eq_false, beq_iff_eq, bne_iff_ne, ne_eq, Int.reduceEq, Int.reduceLT, Int.reduceLE, Int.reduceAdd, Int.reduceSub, bs_toList, mk_toList, bs_size, mk_size, not_true_eq_false, not_false_eq_true, List.length_nil, Int.cast_ofNat_Int, Int.natCast_zero, Int.natCast_one, s]); (try simp (disch := omega) only [wrap_id, Int.natCast_zero, Int.sub_zero, Int.toNat_natCast, Int.toNat_zero, Int.cast_ofNat_Int, Int.sub_self]))
  refine (cut_ok (f := ⟨[1, 2, 3, 4], [], 8⟩) ⟨by decide, by decide⟩ 2).at_ h10 [1] _ rfl fun v B H11 hv h11 => ?_
  obtain ⟨rfl, rfl⟩ := hv
  rw [show F.cut ⟨[1, 2, 3, 4], [], 8⟩ 2 = (⟨[1, 2], [], 8⟩, 0) from rfl] at *
  ((try simp only [S, TY, reduceCtorEq, Nat.reduceEqDiff, Nat.reduceAdd, Nat.reduceLeDiff, Nat.reduceMul, Nat.ble_eq, Int.toNat_natCast, Nat.mul_one, Nat.add_zero, decide_true, decide_false, beq_self_eq_true, bne_self_eq_false, beq_iff_eq, bne_iff_ne, ne_eq, Int.reduceEq, Int.reduceLT, Int.reduceLE, Int.reduceAdd, Int.reduceSub, bs_toList, mk_toList, bs_size, mk_size, not_true_eq_false, not_false_eq_true, List.length_nil, Int.cast_ofNat_Int, Int.natCast_zero, Int.natCast_one]); (try simp (disch := omega) only [wrap_id, Int.natCast_zero, Int.sub_zero, Int.toNat_natCast, Int.toNat_zero, Int.cast_ofNat_Int, Int.sub_self]))
  refine (safe_ok (f := ⟨[1, 2], [], 8⟩)).at_ h11 [0] _ rfl fun v B H12 hv h12 => ?_
  obtain ⟨rfl, rfl⟩ := hv
  ((try simp only [S, TY, reduceCtorEq, Nat.reduceEqDiff, Nat.reduceAdd, Nat.reduceLeDiff, Nat.reduceMul, Nat.ble_eq, Int.toNat_natCast, Nat.mul_one, Nat.add_zero, decide_true, decide_false, beq_self_eq_true, bne_self_eq_false, beq_iff_eq, bne_iff_ne, ne_eq, Int.reduceEq, Int.reduceLT, Int.reduceLE, Int.reduceAdd, Int.reduceSub, bs_toList, mk_toList, bs_size, mk_size, not_true_eq_false, not_false_eq_true, List.length_nil, Int.cast_ofNat_Int, Int.natCast_zero, Int.natCast_one]); (try simp (disch := omega) only [wrap_id, Int.natCast_zero, Int.sub_zero, Int.toNat_natCast, Int.toNat_zero, Int.cast_ofNat_Int, Int.sub_self]))
  exact fin_take (B := []) h12 ⟨rfl, rfl⟩
abbrev AT : Ty := .st (.pr (.int .u8) (.pr .bytes (.pr (.int .i64) .un)))
abbrev Acts (G : Hp) (v : Value) (l : List AT.den) : Prop := rdl G 3 (AT.R G) v l
theorem fits {G : Hp} {v : Value} {l : List AT.den} (hv : Acts G v l) : Con Try.prog G 22 [v] [] (fun r B => ∃ b : Bool, r = .bool b ∧ B = [] ∧ (b = true → l.length ≤ 60 ∧ ∀ x ∈ l, x.2.1.length ≤ 3000)) := by
  refine Con.intro Try.func22 rfl (Nat.le_of_ble_eq_true (by kernel_rfl)) (by kernel_rfl) Try.results22 ?_
  intro H hH
  obtain ⟨a, n, c, rfl, e1, e2⟩ := hv.shape (by decide)
  ((try simp only [S, TY, reduceCtorEq, Nat.reduceEqDiff, Nat.reduceAdd, Nat.reduceLeDiff, Nat.reduceMul, Nat.ble_eq, Int.toNat_natCast, Nat.mul_one, Nat.add_zero, decide_true, decide_false, beq_self_eq_true, bne_self_eq_false, beq_iff_eq, bne_iff_ne, ne_eq, Int.reduceEq, Int.reduceLT, Int.reduceLE, Int.reduceAdd, Int.reduceSub, bs_toList, mk_toList, bs_size, mk_size, not_true_eq_false, not_false_eq_true, List.length_nil, Int.cast_ofNat_Int, Int.natCast_zero, Int.natCast_one]); (try simp (disch := omega) only [wrap_id, Int.natCast_zero, Int.sub_zero, Int.toNat_natCast, Int.toNat_zero, Int.cast_ofNat_Int, Int.sub_self]))
  refine cl_loop (fun i e H => i ≤ n ∧ i ≤ 61 ∧ e 0 = .slice a n c ∧ e 4 = .int .i64 i ∧ (∃ s : Nat, s ≤ 3000 * i ∧ e 3 = .int .i64 s) ∧ (∀ (j : Nat) (x : AT.den), j < i → l[j]? = some x → x.2.1.length ≤ 3000) ∧ sg G [] H) (fun i => n - i) 0
    ⟨by omega, by omega, rfl, rfl, ⟨0, by omega, rfl⟩, fun j x hj => by omega, hH⟩ ?_
  rintro i e H ⟨q1, q2, q3, q4, ⟨s, q5, q6⟩, q7, hH⟩
  by_cases g1 : (i : Int) < n ∧ (i : Int) ≤ 60
  · obtain ⟨b, off, cs, hl, rfl, hQ, _, hc, _⟩ := (hH.rol hv).at (by decide) (i := i) (by omega)
    obtain ⟨c1, c2, rfl, _, ⟨rfl, hk⟩, c3, c4, rfl, _, ⟨w, rfl, hb⟩, c5, c6, rfl, _, ⟨rfl, hn⟩, rfl⟩ := hQ
    obtain ⟨wa, wn, wc, rfl, f1, f2⟩ := hb.slice
    have d1 := hc 1 (by decide)
    have g0 : (0 : Int) ≤ i ∧ (i : Int) < n := ⟨by omega, g1.1⟩
    ((try simp only [S, TY, reduceCtorEq, Nat.reduceEqDiff, Nat.reduceAdd, Nat.reduceLeDiff, Nat.reduceMul, Nat.ble_eq, Int.toNat_natCast, Nat.mul_one, Nat.add_zero, decide_true, decide_false, beq_self_eq_true, bne_self_eq_false, beq_iff_eq, bne_iff_ne, ne_eq, Int.reduceEq, Int.reduceLT, Int.reduceLE, Int.reduceAdd, Int.reduceSub, bs_toList, mk_toList, bs_size, mk_size, not_true_eq_false, not_false_eq_true, List.length_nil, Int.cast_ofNat_Int, Int.natCast_zero, Int.natCast_one, q3, q4, q6, g1, g0, d1]); (try simp (disch := omega) only [wrap_id, Int.natCast_zero, Int.sub_zero, Int.toNat_natCast, Int.toNat_zero, Int.cast_ofNat_Int, Int.sub_self]))
    refine Gate.intro (fun g => ?_) (fun g => ?_)
    · ((try simp only [S, TY, reduceCtorEq, Nat.reduceEqDiff, Nat.reduceAdd, Nat.reduceLeDiff, Nat.reduceMul, Nat.ble_eq, Int.toNat_natCast, Nat.mul_one, Nat.add_zero, decide_true, decide_false, beq_self_eq_true, bne_self_eq_false, beq_iff_eq, bne_iff_ne, ne_eq, Int.reduceEq, Int.reduceLT, Int.reduceLE, Int.reduceAdd, Int.reduceSub, bs_toList, mk_toList, bs_size, mk_size, not_true_eq_false, not_false_eq_true, List.length_nil, Int.cast_ofNat_Int, Int.natCast_zero, Int.natCast_one, q3, q4, q6]); (try simp (disch := omega) only [wrap_id, Int.natCast_zero, Int.sub_zero, Int.toNat_natCast, Int.toNat_zero, Int.cast_ofNat_Int, Int.sub_self]))
      exact fin_ret hH ⟨false, rfl, rfl, fun h => by cases h⟩
    · ((try simp only [S, TY, reduceCtorEq, Nat.reduceEqDiff, Nat.reduceAdd, Nat.reduceLeDiff, Nat.reduceMul, Nat.ble_eq, Int.toNat_natCast, Nat.mul_one, Nat.add_zero, decide_true, decide_false, beq_self_eq_true, bne_self_eq_false, beq_iff_eq, bne_iff_ne, ne_eq, Int.reduceEq, Int.reduceLT, Int.reduceLE, Int.reduceAdd, Int.reduceSub, bs_toList, mk_toList, bs_size, mk_size, not_true_eq_false, not_false_eq_true, List.length_nil, Int.cast_ofNat_Int, Int.natCast_zero, Int.natCast_one, q3, q4, q6, g1, g0, d1]); (try simp (disch := omega) only [wrap_id, Int.natCast_zero, Int.sub_zero, Int.toNat_natCast, Int.toNat_zero, Int.cast_ofNat_Int, Int.sub_self]))
      refine .go (i + 1) (by omega) ⟨by omega, by omega, q3, rfl, ⟨s + wn, by omega, rfl⟩, fun j x hj hx => ?_, hH⟩
      by_cases hji : j = i
      · subst hji
        rw [List.getElem?_eq_getElem hl] at hx
        cases hx
        rw [bv_length] at f1
        omega
      · exact q7 j x (by omega) hx
  · by_cases g2 : (i : Int) < n
    · have g3 : ¬ (i : Int) ≤ 60 := fun h => g1 ⟨g2, h⟩
      have g4 : ¬ (n : Int) ≤ 60 := by omega
      ((try simp only [S, TY, reduceCtorEq, Nat.reduceEqDiff, Nat.reduceAdd, Nat.reduceLeDiff, Nat.reduceMul, Nat.ble_eq, Int.toNat_natCast, Nat.mul_one, Nat.add_zero, decide_true, decide_false, beq_self_eq_true, bne_self_eq_false, beq_iff_eq, bne_iff_ne, ne_eq, Int.reduceEq, Int.reduceLT, Int.reduceLE, Int.reduceAdd, Int.reduceSub, bs_toList, mk_toList, bs_size, mk_size, not_true_eq_false, not_false_eq_true, List.length_nil, Int.cast_ofNat_Int, Int.natCast_zero, Int.natCast_one, q3, q4, q6, g2, g3, g4]); (try simp (disch := omega) only [wrap_id, Int.natCast_zero, Int.sub_zero, Int.toNat_natCast, Int.toNat_zero, Int.cast_ofNat_Int, Int.sub_self]))
      exact fin_ret hH ⟨false, rfl, rfl, fun h => by cases h⟩
    · ((try simp only [S, TY, reduceCtorEq, Nat.reduceEqDiff, Nat.reduceAdd, Nat.reduceLeDiff, Nat.reduceMul, Nat.ble_eq, Int.toNat_natCast, Nat.mul_one, Nat.add_zero, decide_true, decide_false, beq_self_eq_true, bne_self_eq_false, beq_iff_eq, bne_iff_ne, ne_eq, Int.reduceEq, Int.reduceLT, Int.reduceLE, Int.reduceAdd, Int.reduceSub, bs_toList, mk_toList, bs_size, mk_size, not_true_eq_false, not_false_eq_true, List.length_nil, Int.cast_ofNat_Int, Int.natCast_zero, Int.natCast_one, q3, q4, q6, g2]); (try simp (disch := omega) only [wrap_id, Int.natCast_zero, Int.sub_zero, Int.toNat_natCast, Int.toNat_zero, Int.cast_ofNat_Int, Int.sub_self]))
      by_cases g3 : (n : Int) ≤ 60
      · ((try simp only [S, TY, reduceCtorEq, Nat.reduceEqDiff, Nat.reduceAdd, Nat.reduceLeDiff, Nat.reduceMul, Nat.ble_eq, Int.toNat_natCast, Nat.mul_one, Nat.add_zero, decide_true, decide_false, beq_self_eq_true, bne_self_eq_false, beq_iff_eq, bne_iff_ne, ne_eq, Int.reduceEq, Int.reduceLT, Int.reduceLE, Int.reduceAdd, Int.reduceSub, bs_toList, mk_toList, bs_size, mk_size, not_true_eq_false, not_false_eq_true, List.length_nil, Int.cast_ofNat_Int, Int.natCast_zero, Int.natCast_one, q3, q4, q6, g2, g3]); (try simp (disch := omega) only [wrap_id, Int.natCast_zero, Int.sub_zero, Int.toNat_natCast, Int.toNat_zero, Int.cast_ofNat_Int, Int.sub_self]))
        exact fin_ret hH ⟨_, rfl, rfl, fun _ => ⟨by omega, fun x hx => by obtain ⟨j, hj⟩ := List.getElem?_of_mem hx; exact q7 j x (by have := (List.getElem?_eq_some_iff.1 hj).1; omega) hj⟩⟩
      · ((try simp only [S, TY, reduceCtorEq, Nat.reduceEqDiff, Nat.reduceAdd, Nat.reduceLeDiff, Nat.reduceMul, Nat.ble_eq, Int.toNat_natCast, Nat.mul_one, Nat.add_zero, decide_true, decide_false, beq_self_eq_true, bne_self_eq_false, beq_iff_eq, bne_iff_ne, ne_eq, Int.reduceEq, Int.reduceLT, Int.reduceLE, Int.reduceAdd, Int.reduceSub, bs_toList, mk_toList, bs_size, mk_size, not_true_eq_false, not_false_eq_true, List.length_nil, Int.cast_ofNat_Int, Int.natCast_zero, Int.natCast_one, q3, q4, q6, g2, g3]); (try simp (disch := omega) only [wrap_id, Int.natCast_zero, Int.sub_zero, Int.toNat_natCast, Int.toNat_zero, Int.cast_ofNat_Int, Int.sub_self]))
        exact fin_ret hH ⟨false, rfl, rfl, fun h => by cases h⟩
end Go.Proofs.Ytkdcapgjmcjdjaa.DiskL
