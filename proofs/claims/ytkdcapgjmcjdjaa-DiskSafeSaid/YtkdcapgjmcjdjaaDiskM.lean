/- The laws on files that may be torn: their walks. -/
import Derived.Test.YtkdcapgjmcjdjaaDiskS
set_option linter.unusedVariables false
set_option linter.unusedSimpArgs false
set_option maxRecDepth 10000
namespace Go.Proofs.Ytkdcapgjmcjdjaa.DiskM
open Go Go.Sl Go.Proofs Go.Proofs.Ytkdcapgjmcjdjaa.Disk Go.Proofs.Ytkdcapgjmcjdjaa.DiskR Go.Proofs.Ytkdcapgjmcjdjaa.DiskL Go.Proofs.Ytkdcapgjmcjdjaa.DiskS
theorem TY : aggN Try.prog 3 = some none ∧
  aggN Try.prog 5 = some none ∧
  aggN Try.prog 9 = some none ∧
  aggN Try.prog 40 = some none ∧
  aggN Try.prog 42 = some none ∧
  aggN Try.prog 43 = some none ∧
  aggN Try.prog 46 = some none ∧
  aggN Try.prog 47 = some none ∧
  aggN Try.prog 49 = some (some 3) ∧
  aggN Try.prog 52 = some (some 3) ∧
  apI Try.prog 40 = some (52, 3, 40) ∧
  apI Try.prog 47 = some (5, 1, 1) ∧
  bIs Try.prog 49 = true ∧
  bIs Try.prog 52 = true ∧
  bySl Try.prog 47 = true ∧
  csz Try.prog 3 = some 1 ∧
  csz Try.prog 5 = some 1 ∧
  csz Try.prog 9 = some 1 ∧
  csz Try.prog 40 = some 1 ∧
  csz Try.prog 42 = some 1 ∧
  csz Try.prog 43 = some 1 ∧
  csz Try.prog 46 = some 1 ∧
  csz Try.prog 47 = some 1 ∧
  csz Try.prog 49 = some 3 ∧
  csz Try.prog 52 = some 3 ∧
  goes Try.prog 22 = true ∧
  goes Try.prog 23 = true ∧
  goes Try.prog 24 = true ∧
  goes Try.prog 25 = true ∧
  goes Try.prog 26 = true ∧
  goes Try.prog 27 = true ∧
  goes Try.prog 28 = true ∧
  goes Try.prog 29 = true ∧
  goes Try.prog 30 = true ∧
  goes Try.prog 31 = true ∧
  inIs Try.prog 3 = some .i64 ∧
  inIs Try.prog 5 = some .u8 ∧
  inIs Try.prog 43 = some .i64 ∧
  plcs Try.prog 49 = [(0, 1), (1, 1), (2, 1)] ∧
  plcs Try.prog 52 = [(0, 1), (1, 1), (2, 1)] ∧
  ptIs Try.prog 42 = true ∧
  ptIs Try.prog 46 = true ∧
  slEl Try.prog 40 = 52 ∧
  slEl Try.prog 47 = 5 ∧
  slIs Try.prog 40 = true ∧
  slIs Try.prog 47 = true ∧
  slSz Try.prog 40 = 3 ∧
  slSz Try.prog 47 = 1 ∧
  stIs Try.prog 9 = true ∧
  zcs Try.prog 49 = [.slice none 0 0, .int .i64 0, .int .i64 0] ∧
  zcs Try.prog 52 = [.int .u8 0, .slice none 0 0, .int .i64 0] ∧
  zro Try.prog 3 = some (.int .i64 0) ∧
  zro Try.prog 5 = some (.int .u8 0) ∧
  zro Try.prog 9 = some (.string ByteArray.empty) ∧
  zro Try.prog 40 = some (.slice none 0 0) ∧
  zro Try.prog 42 = some (.pointer none) ∧
  zro Try.prog 43 = some (.int .i64 0) ∧
  zro Try.prog 46 = some (.pointer none) ∧
  zro Try.prog 47 = some (.slice none 0 0) ∧
  zro Try.prog 49 = some (.agg #[.slice none 0 0, .int .i64 0, .int .i64 0]) ∧
  zro Try.prog 52 = some (.agg #[.int .u8 0, .slice none 0 0, .int .i64 0]) :=
  ⟨by kernel_rfl, by kernel_rfl, by kernel_rfl, by kernel_rfl, by kernel_rfl, by kernel_rfl, by kernel_rfl, by kernel_rfl, by kernel_rfl, by kernel_rfl, by kernel_rfl, by kernel_rfl, by kernel_rfl, by kernel_rfl, by kernel_rfl, by kernel_rfl, by kernel_rfl, by kernel_rfl, by kernel_rfl, by kernel_rfl, by kernel_rfl, by kernel_rfl, by kernel_rfl, by kernel_rfl, by kernel_rfl, by kernel_rfl, by kernel_rfl, by kernel_rfl, by kernel_rfl, by kernel_rfl, by kernel_rfl, by kernel_rfl, by kernel_rfl, by kernel_rfl, by kernel_rfl, by kernel_rfl, by kernel_rfl, by kernel_rfl, by kernel_rfl, by kernel_rfl, by kernel_rfl, by kernel_rfl, by kernel_rfl, by kernel_rfl, by kernel_rfl, by kernel_rfl, by kernel_rfl, by kernel_rfl, by kernel_rfl, by kernel_rfl, by kernel_rfl, by kernel_rfl, by kernel_rfl, by kernel_rfl, by kernel_rfl, by kernel_rfl, by kernel_rfl, by kernel_rfl, by kernel_rfl, by kernel_rfl, by kernel_rfl⟩
theorem same_new {room : Int} (h0 : 0 ≤ room) (h : room ≤ 16777216) : Same ⟨[], [], room⟩ ⟨[], 0, room⟩ := ⟨⟨h, by simpa using h0⟩, rfl, rfl, rfl⟩
theorem plays {G : Hp} {room : Int} {v : Value} {l : List AT.den} (hv : Acts G v l) : Con Try.prog G 5 [.int .i64 room, v] [] (fun r B => r = .bool true ∧ B = []) := by
  refine Con.intro Try.func5 rfl (Nat.le_of_ble_eq_true (by kernel_rfl)) (by kernel_rfl) Try.results5 ?_
  intro H hH
  obtain ⟨a, n, c, rfl, e1, e2⟩ := hv.shape (by decide)
  ((try simp only [S, TY, reduceCtorEq, Nat.reduceEqDiff, Nat.reduceAdd, Nat.reduceLeDiff, Nat.reduceMul, Nat.ble_eq, Int.toNat_natCast, Nat.mul_one, Nat.add_zero, decide_true, decide_false, beq_self_eq_true, bne_self_eq_false, beq_iff_eq, bne_iff_ne, ne_eq, Int.reduceEq, Int.reduceLT, Int.reduceLE, Int.reduceAdd, Int.reduceSub, bs_toList, mk_toList, bs_size, mk_size, not_true_eq_false, not_false_eq_true, List.length_nil, Int.cast_ofNat_Int, Int.natCast_zero, Int.natCast_one]); (try simp (disch := omega) only [wrap_id, Int.natCast_zero, Int.sub_zero, Int.toNat_natCast, Int.toNat_zero, Int.cast_ofNat_Int, Int.sub_self]))
  refine (fits hv).at_ hH [] _ rfl fun r B H1 hr h1 => ?_
  obtain ⟨ok, rfl, rfl, hok⟩ := hr
  cases ok with
  | false =>
    ((try simp only [S, TY, reduceCtorEq, Nat.reduceEqDiff, Nat.reduceAdd, Nat.reduceLeDiff, Nat.reduceMul, Nat.ble_eq, Int.toNat_natCast, Nat.mul_one, Nat.add_zero, decide_true, decide_false, beq_self_eq_true, bne_self_eq_false, beq_iff_eq, bne_iff_ne, ne_eq, Int.reduceEq, Int.reduceLT, Int.reduceLE, Int.reduceAdd, Int.reduceSub, bs_toList, mk_toList, bs_size, mk_size, not_true_eq_false, not_false_eq_true, List.length_nil, Int.cast_ofNat_Int, Int.natCast_zero, Int.natCast_one]); (try simp (disch := omega) only [wrap_id, Int.natCast_zero, Int.sub_zero, Int.toNat_natCast, Int.toNat_zero, Int.cast_ofNat_Int, Int.sub_self]))
    refine alive.at_ h1 [] _ rfl fun r B H2 hr h2 => ?_
    obtain ⟨rfl, rfl⟩ := hr
    ((try simp only [S, TY, reduceCtorEq, Nat.reduceEqDiff, Nat.reduceAdd, Nat.reduceLeDiff, Nat.reduceMul, Nat.ble_eq, Int.toNat_natCast, Nat.mul_one, Nat.add_zero, decide_true, decide_false, beq_self_eq_true, bne_self_eq_false, beq_iff_eq, bne_iff_ne, ne_eq, Int.reduceEq, Int.reduceLT, Int.reduceLE, Int.reduceAdd, Int.reduceSub, bs_toList, mk_toList, bs_size, mk_size, not_true_eq_false, not_false_eq_true, List.length_nil, Int.cast_ofNat_Int, Int.natCast_zero, Int.natCast_one]); (try simp (disch := omega) only [wrap_id, Int.natCast_zero, Int.sub_zero, Int.toNat_natCast, Int.toNat_zero, Int.cast_ofNat_Int, Int.sub_self]))
    exact fin_take (B := []) h2 ⟨rfl, rfl⟩
  | true =>
    have hn := (hok rfl).1
    ((try simp only [S, TY, reduceCtorEq, Nat.reduceEqDiff, Nat.reduceAdd, Nat.reduceLeDiff, Nat.reduceMul, Nat.ble_eq, Int.toNat_natCast, Nat.mul_one, Nat.add_zero, decide_true, decide_false, beq_self_eq_true, bne_self_eq_false, beq_iff_eq, bne_iff_ne, ne_eq, Int.reduceEq, Int.reduceLT, Int.reduceLE, Int.reduceAdd, Int.reduceSub, bs_toList, mk_toList, bs_size, mk_size, not_true_eq_false, not_false_eq_true, List.length_nil, Int.cast_ofNat_Int, Int.natCast_zero, Int.natCast_one]); (try simp (disch := omega) only [wrap_id, Int.natCast_zero, Int.sub_zero, Int.toNat_natCast, Int.toNat_zero, Int.cast_ofNat_Int, Int.sub_self]))
    by_cases b1 : room < 0 ∨ 16777216 < room
    · refine (new_no room b1).at_ h1 [] _ rfl fun r B H2 hr h2 => ?_
      obtain ⟨rfl, rfl⟩ := hr
      by_cases b2 : room < 0
      · ((try simp only [S, TY, reduceCtorEq, Nat.reduceEqDiff, Nat.reduceAdd, Nat.reduceLeDiff, Nat.reduceMul, Nat.ble_eq, Int.toNat_natCast, Nat.mul_one, Nat.add_zero, decide_true, decide_false, beq_self_eq_true, bne_self_eq_false, beq_iff_eq, bne_iff_ne, ne_eq, Int.reduceEq, Int.reduceLT, Int.reduceLE, Int.reduceAdd, Int.reduceSub, bs_toList, mk_toList, bs_size, mk_size, not_true_eq_false, not_false_eq_true, List.length_nil, Int.cast_ofNat_Int, Int.natCast_zero, Int.natCast_one, b2]); (try simp (disch := omega) only [wrap_id, Int.natCast_zero, Int.sub_zero, Int.toNat_natCast, Int.toNat_zero, Int.cast_ofNat_Int, Int.sub_self]))
        refine alive.at_ h2 [] _ rfl fun r B H3 hr h3 => ?_
        obtain ⟨rfl, rfl⟩ := hr
        ((try simp only [S, TY, reduceCtorEq, Nat.reduceEqDiff, Nat.reduceAdd, Nat.reduceLeDiff, Nat.reduceMul, Nat.ble_eq, Int.toNat_natCast, Nat.mul_one, Nat.add_zero, decide_true, decide_false, beq_self_eq_true, bne_self_eq_false, beq_iff_eq, bne_iff_ne, ne_eq, Int.reduceEq, Int.reduceLT, Int.reduceLE, Int.reduceAdd, Int.reduceSub, bs_toList, mk_toList, bs_size, mk_size, not_true_eq_false, not_false_eq_true, List.length_nil, Int.cast_ofNat_Int, Int.natCast_zero, Int.natCast_one]); (try simp (disch := omega) only [wrap_id, Int.natCast_zero, Int.sub_zero, Int.toNat_natCast, Int.toNat_zero, Int.cast_ofNat_Int, Int.sub_self]))
        exact fin_take (B := []) h3 ⟨rfl, rfl⟩
      · have b3 : 16777216 < room := by omega
        ((try simp only [S, TY, reduceCtorEq, Nat.reduceEqDiff, Nat.reduceAdd, Nat.reduceLeDiff, Nat.reduceMul, Nat.ble_eq, Int.toNat_natCast, Nat.mul_one, Nat.add_zero, decide_true, decide_false, beq_self_eq_true, bne_self_eq_false, beq_iff_eq, bne_iff_ne, ne_eq, Int.reduceEq, Int.reduceLT, Int.reduceLE, Int.reduceAdd, Int.reduceSub, bs_toList, mk_toList, bs_size, mk_size, not_true_eq_false, not_false_eq_true, List.length_nil, Int.cast_ofNat_Int, Int.natCast_zero, Int.natCast_one, b2, b3]); (try simp (disch := omega) only [wrap_id, Int.natCast_zero, Int.sub_zero, Int.toNat_natCast, Int.toNat_zero, Int.cast_ofNat_Int, Int.sub_self]))
        refine alive.at_ h2 [] _ rfl fun r B H3 hr h3 => ?_
        obtain ⟨rfl, rfl⟩ := hr
        ((try simp only [S, TY, reduceCtorEq, Nat.reduceEqDiff, Nat.reduceAdd, Nat.reduceLeDiff, Nat.reduceMul, Nat.ble_eq, Int.toNat_natCast, Nat.mul_one, Nat.add_zero, decide_true, decide_false, beq_self_eq_true, bne_self_eq_false, beq_iff_eq, bne_iff_ne, ne_eq, Int.reduceEq, Int.reduceLT, Int.reduceLE, Int.reduceAdd, Int.reduceSub, bs_toList, mk_toList, bs_size, mk_size, not_true_eq_false, not_false_eq_true, List.length_nil, Int.cast_ofNat_Int, Int.natCast_zero, Int.natCast_one]); (try simp (disch := omega) only [wrap_id, Int.natCast_zero, Int.sub_zero, Int.toNat_natCast, Int.toNat_zero, Int.cast_ofNat_Int, Int.sub_self]))
        exact fin_take (B := []) h3 ⟨rfl, rfl⟩
    · refine (new_ok room (by omega) (by omega)).at_ h1 [] _ rfl fun r B H2 hr h2 => ?_
      obtain ⟨p, rfl, rfl⟩ := hr
      have b2 : ¬ room < 0 := by omega
      have b3 : ¬ 16777216 < room := by omega
      ((try simp only [S, TY, reduceCtorEq, Nat.reduceEqDiff, Nat.reduceAdd, Nat.reduceLeDiff, Nat.reduceMul, Nat.ble_eq, Int.toNat_natCast, Nat.mul_one, Nat.add_zero, decide_true, decide_false, beq_self_eq_true, bne_self_eq_false, beq_iff_eq, bne_iff_ne, ne_eq, Int.reduceEq, Int.reduceLT, Int.reduceLE, Int.reduceAdd, Int.reduceSub, bs_toList, mk_toList, bs_size, mk_size, not_true_eq_false, not_false_eq_true, List.length_nil, Int.cast_ofNat_Int, Int.natCast_zero, Int.natCast_one, b2, b3]); (try simp (disch := omega) only [wrap_id, Int.natCast_zero, Int.sub_zero, Int.toNat_natCast, Int.toNat_zero, Int.cast_ofNat_Int, Int.sub_self]))
      intro q hq hg
      have h3 := isD_shut (m := ⟨[], 0, room⟩) (((h2.nil_ 5 1)).new hq hg _)
      ((try simp only [S, TY, reduceCtorEq, Nat.reduceEqDiff, Nat.reduceAdd, Nat.reduceLeDiff, Nat.reduceMul, Nat.ble_eq, Int.toNat_natCast, Nat.mul_one, Nat.add_zero, decide_true, decide_false, beq_self_eq_true, bne_self_eq_false, beq_iff_eq, bne_iff_ne, ne_eq, Int.reduceEq, Int.reduceLT, Int.reduceLE, Int.reduceAdd, Int.reduceSub, bs_toList, mk_toList, bs_size, mk_size, not_true_eq_false, not_false_eq_true, List.length_nil, Int.cast_ofNat_Int, Int.natCast_zero, Int.natCast_one]); (try simp (disch := omega) only [wrap_id, Int.natCast_zero, Int.sub_zero, Int.toNat_natCast, Int.toNat_zero, Int.cast_ofNat_Int, Int.sub_self]))
      refine cl_loop (fun i e H => i ≤ n ∧ e 1 = .slice a n c ∧ e 6 = .pointer (some ⟨p, 0, none⟩) ∧ e 8 = .pointer (some ⟨q, 0, none⟩) ∧ e 9 = .int .i64 i ∧ ∃ f m, Same f m ∧ sg G [isF p f, isD q m] H) (fun i => n - i) 0
        ⟨by omega, rfl, rfl, rfl, rfl, _, _, same_new (by omega) (by omega), h3.front 1⟩ ?_
      rintro i e H ⟨q1, q2, q3, q4, q5, f, m, hS, hH⟩
      by_cases g1 : (i : Int) < n
      · obtain ⟨b, off, cs, hl, rfl, hQ, _, hc, hld⟩ := (hH.rol hv).at (by decide) (i := i) (by omega)
        obtain ⟨c1, c2, rfl, _, ⟨rfl, hk⟩, c3, c4, rfl, _, ⟨w, rfl, hb⟩, c5, c6, rfl, _, ⟨rfl, hn⟩, rfl⟩ := hQ
        have g0 : (0 : Int) ≤ i ∧ (i : Int) < n := ⟨by omega, g1⟩
        ((try simp only [S, TY, reduceCtorEq, Nat.reduceEqDiff, Nat.reduceAdd, Nat.reduceLeDiff, Nat.reduceMul, Nat.ble_eq, Int.toNat_natCast, Nat.mul_one, Nat.add_zero, decide_true, decide_false, beq_self_eq_true, bne_self_eq_false, beq_iff_eq, bne_iff_ne, ne_eq, Int.reduceEq, Int.reduceLT, Int.reduceLE, Int.reduceAdd, Int.reduceSub, bs_toList, mk_toList, bs_size, mk_size, not_true_eq_false, not_false_eq_true, List.length_nil, Int.cast_ofNat_Int, Int.natCast_zero, Int.natCast_one, q2, q3, q4, q5, g1, g0, hld]); (try simp (disch := omega) only [wrap_id, Int.natCast_zero, Int.sub_zero, Int.toNat_natCast, Int.toNat_zero, Int.cast_ofNat_Int, Int.sub_self]))
        have hlen := (hok rfl).2 _ (List.getElem_mem hl)
        refine (step_ok hS hb (by omega) hk).at_ hH [0, 0] _ rfl fun r B H4 hr h4 => ?_
        obtain ⟨rfl, f', m', hS', _, rfl⟩ := hr
        ((try simp only [S, TY, reduceCtorEq, Nat.reduceEqDiff, Nat.reduceAdd, Nat.reduceLeDiff, Nat.reduceMul, Nat.ble_eq, Int.toNat_natCast, Nat.mul_one, Nat.add_zero, decide_true, decide_false, beq_self_eq_true, bne_self_eq_false, beq_iff_eq, bne_iff_ne, ne_eq, Int.reduceEq, Int.reduceLT, Int.reduceLE, Int.reduceAdd, Int.reduceSub, bs_toList, mk_toList, bs_size, mk_size, not_true_eq_false, not_false_eq_true, List.length_nil, Int.cast_ofNat_Int, Int.natCast_zero, Int.natCast_one, q2, q3, q4, q5, g1, g0, hld]); (try simp (disch := omega) only [wrap_id, Int.natCast_zero, Int.sub_zero, Int.toNat_natCast, Int.toNat_zero, Int.cast_ofNat_Int, Int.sub_self]))
        exact .go (i + 1) (by omega) ⟨by omega, q2, q3, q4, rfl, f', m', hS', h4⟩
      · ((try simp only [S, TY, reduceCtorEq, Nat.reduceEqDiff, Nat.reduceAdd, Nat.reduceLeDiff, Nat.reduceMul, Nat.ble_eq, Int.toNat_natCast, Nat.mul_one, Nat.add_zero, decide_true, decide_false, beq_self_eq_true, bne_self_eq_false, beq_iff_eq, bne_iff_ne, ne_eq, Int.reduceEq, Int.reduceLT, Int.reduceLE, Int.reduceAdd, Int.reduceSub, bs_toList, mk_toList, bs_size, mk_size, not_true_eq_false, not_false_eq_true, List.length_nil, Int.cast_ofNat_Int, Int.natCast_zero, Int.natCast_one, q2, q3, q4, q5, g1]); (try simp (disch := omega) only [wrap_id, Int.natCast_zero, Int.sub_zero, Int.toNat_natCast, Int.toNat_zero, Int.cast_ofNat_Int, Int.sub_self]))
        refine alive.at_ hH [] _ rfl fun r B H4 hr h4 => ?_
        obtain ⟨rfl, rfl⟩ := hr
        ((try simp only [S, TY, reduceCtorEq, Nat.reduceEqDiff, Nat.reduceAdd, Nat.reduceLeDiff, Nat.reduceMul, Nat.ble_eq, Int.toNat_natCast, Nat.mul_one, Nat.add_zero, decide_true, decide_false, beq_self_eq_true, bne_self_eq_false, beq_iff_eq, bne_iff_ne, ne_eq, Int.reduceEq, Int.reduceLT, Int.reduceLE, Int.reduceAdd, Int.reduceSub, bs_toList, mk_toList, bs_size, mk_size, not_true_eq_false, not_false_eq_true, List.length_nil, Int.cast_ofNat_Int, Int.natCast_zero, Int.natCast_one]); (try simp (disch := omega) only [wrap_id, Int.natCast_zero, Int.sub_zero, Int.toNat_natCast, Int.toNat_zero, Int.cast_ofNat_Int, Int.sub_self]))
        refine (add_nil _).at_ h4 [] _ rfl fun r B H5 hr h5 => ?_
        obtain ⟨rfl, rfl⟩ := hr
        ((try simp only [S, TY, reduceCtorEq, Nat.reduceEqDiff, Nat.reduceAdd, Nat.reduceLeDiff, Nat.reduceMul, Nat.ble_eq, Int.toNat_natCast, Nat.mul_one, Nat.add_zero, decide_true, decide_false, beq_self_eq_true, bne_self_eq_false, beq_iff_eq, bne_iff_ne, ne_eq, Int.reduceEq, Int.reduceLT, Int.reduceLE, Int.reduceAdd, Int.reduceSub, bs_toList, mk_toList, bs_size, mk_size, not_true_eq_false, not_false_eq_true, List.length_nil, Int.cast_ofNat_Int, Int.natCast_zero, Int.natCast_one]); (try simp (disch := omega) only [wrap_id, Int.natCast_zero, Int.sub_zero, Int.toNat_natCast, Int.toNat_zero, Int.cast_ofNat_Int, Int.sub_self]))
        refine (cut_nil _).at_ h5 [] _ rfl fun r B H6 hr h6 => ?_
        obtain ⟨rfl, rfl⟩ := hr
        ((try simp only [S, TY, reduceCtorEq, Nat.reduceEqDiff, Nat.reduceAdd, Nat.reduceLeDiff, Nat.reduceMul, Nat.ble_eq, Int.toNat_natCast, Nat.mul_one, Nat.add_zero, decide_true, decide_false, beq_self_eq_true, bne_self_eq_false, beq_iff_eq, bne_iff_ne, ne_eq, Int.reduceEq, Int.reduceLT, Int.reduceLE, Int.reduceAdd, Int.reduceSub, bs_toList, mk_toList, bs_size, mk_size, not_true_eq_false, not_false_eq_true, List.length_nil, Int.cast_ofNat_Int, Int.natCast_zero, Int.natCast_one]); (try simp (disch := omega) only [wrap_id, Int.natCast_zero, Int.sub_zero, Int.toNat_natCast, Int.toNat_zero, Int.cast_ofNat_Int, Int.sub_self]))
        refine sync_nil.at_ h6 [] _ rfl fun r B H7 hr h7 => ?_
        obtain ⟨rfl, rfl⟩ := hr
        ((try simp only [S, TY, reduceCtorEq, Nat.reduceEqDiff, Nat.reduceAdd, Nat.reduceLeDiff, Nat.reduceMul, Nat.ble_eq, Int.toNat_natCast, Nat.mul_one, Nat.add_zero, decide_true, decide_false, beq_self_eq_true, bne_self_eq_false, beq_iff_eq, bne_iff_ne, ne_eq, Int.reduceEq, Int.reduceLT, Int.reduceLE, Int.reduceAdd, Int.reduceSub, bs_toList, mk_toList, bs_size, mk_size, not_true_eq_false, not_false_eq_true, List.length_nil, Int.cast_ofNat_Int, Int.natCast_zero, Int.natCast_one]); (try simp (disch := omega) only [wrap_id, Int.natCast_zero, Int.sub_zero, Int.toNat_natCast, Int.toNat_zero, Int.cast_ofNat_Int, Int.sub_self]))
        refine (crash_nil _).at_ h7 [] _ rfl fun r B H8 hr h8 => ?_
        obtain ⟨rfl, rfl⟩ := hr
        ((try simp only [S, TY, reduceCtorEq, Nat.reduceEqDiff, Nat.reduceAdd, Nat.reduceLeDiff, Nat.reduceMul, Nat.ble_eq, Int.toNat_natCast, Nat.mul_one, Nat.add_zero, decide_true, decide_false, beq_self_eq_true, bne_self_eq_false, beq_iff_eq, bne_iff_ne, ne_eq, Int.reduceEq, Int.reduceLT, Int.reduceLE, Int.reduceAdd, Int.reduceSub, bs_toList, mk_toList, bs_size, mk_size, not_true_eq_false, not_false_eq_true, List.length_nil, Int.cast_ofNat_Int, Int.natCast_zero, Int.natCast_one]); (try simp (disch := omega) only [wrap_id, Int.natCast_zero, Int.sub_zero, Int.toNat_natCast, Int.toNat_zero, Int.cast_ofNat_Int, Int.sub_self]))
        refine safe_nil.at_ h8 [] _ rfl fun r B H9 hr h9 => ?_
        obtain ⟨rfl, rfl⟩ := hr
        ((try simp only [S, TY, reduceCtorEq, Nat.reduceEqDiff, Nat.reduceAdd, Nat.reduceLeDiff, Nat.reduceMul, Nat.ble_eq, Int.toNat_natCast, Nat.mul_one, Nat.add_zero, decide_true, decide_false, beq_self_eq_true, bne_self_eq_false, beq_iff_eq, bne_iff_ne, ne_eq, Int.reduceEq, Int.reduceLT, Int.reduceLE, Int.reduceAdd, Int.reduceSub, bs_toList, mk_toList, bs_size, mk_size, not_true_eq_false, not_false_eq_true, List.length_nil, Int.cast_ofNat_Int, Int.natCast_zero, Int.natCast_one]); (try simp (disch := omega) only [wrap_id, Int.natCast_zero, Int.sub_zero, Int.toNat_natCast, Int.toNat_zero, Int.cast_ofNat_Int, Int.sub_self]))
        refine bytes_nil.at_ h9 [] _ rfl fun r B H10 hr h10 => ?_
        obtain ⟨rfl, rfl⟩ := hr
        ((try simp only [S, TY, reduceCtorEq, Nat.reduceEqDiff, Nat.reduceAdd, Nat.reduceLeDiff, Nat.reduceMul, Nat.ble_eq, Int.toNat_natCast, Nat.mul_one, Nat.add_zero, decide_true, decide_false, beq_self_eq_true, bne_self_eq_false, beq_iff_eq, bne_iff_ne, ne_eq, Int.reduceEq, Int.reduceLT, Int.reduceLE, Int.reduceAdd, Int.reduceSub, bs_toList, mk_toList, bs_size, mk_size, not_true_eq_false, not_false_eq_true, List.length_nil, Int.cast_ofNat_Int, Int.natCast_zero, Int.natCast_one]); (try simp (disch := omega) only [wrap_id, Int.natCast_zero, Int.sub_zero, Int.toNat_natCast, Int.toNat_zero, Int.cast_ofNat_Int, Int.sub_self]))
        exact fin_take (B := []) h10 ⟨rfl, rfl⟩
theorem playsV {G : Hp} {v0 v1 : Value} {y0 : (Ty.int .i64).den} {y1 : (Ty.sl AT).den} (h0 : Ty.V G (.int .i64) v0 y0) (h1 : Ty.V G (.sl AT) v1 y1) :
    Con Try.prog G 5 [v0, v1] [] (fun r B => r = .bool true ∧ B = []) := by
  rcases h0 with ⟨h, _⟩ | ⟨_, h0, _⟩
  · cases h
  rcases h1 with ⟨h, _⟩ | ⟨_, w, h1, hv⟩
  · cases h
  cases h0; cases h1
  exact plays hv
theorem safe {G : Hp} {keep : Int} {v : Value} {l : List AT.den} (hv : Acts G v l) : Con Try.prog G 6 [v, .int .i64 keep] [] (fun r B => r = .bool true ∧ B = []) := by
  refine Con.intro Try.func6 rfl (Nat.le_of_ble_eq_true (by kernel_rfl)) (by kernel_rfl) Try.results6 ?_
  intro H hH
  obtain ⟨a, n, c, rfl, e1, e2⟩ := hv.shape (by decide)
  ((try simp only [S, TY, reduceCtorEq, Nat.reduceEqDiff, Nat.reduceAdd, Nat.reduceLeDiff, Nat.reduceMul, Nat.ble_eq, Int.toNat_natCast, Nat.mul_one, Nat.add_zero, decide_true, decide_false, beq_self_eq_true, bne_self_eq_false, beq_iff_eq, bne_iff_ne, ne_eq, Int.reduceEq, Int.reduceLT, Int.reduceLE, Int.reduceAdd, Int.reduceSub, bs_toList, mk_toList, bs_size, mk_size, not_true_eq_false, not_false_eq_true, List.length_nil, Int.cast_ofNat_Int, Int.natCast_zero, Int.natCast_one]); (try simp (disch := omega) only [wrap_id, Int.natCast_zero, Int.sub_zero, Int.toNat_natCast, Int.toNat_zero, Int.cast_ofNat_Int, Int.sub_self]); repeat (first | (refine cl_draw (i := 16) (nn [0, 0, 0, 0, 0, 0, 0, 0, 0, 0, 0, 0, 0, 0, 0, 0, 0, 0, 0, 1, 0, 0, 0, 0, 1, 0, 0, 0, 0, 3, 0, 0, 0, 0, 0, 0, 0, 0, 0, 0, 0, 0, 0]) (List.range 43) (by kernel_rfl) ?_; simp only [S, TY, reduceCtorEq, Nat.reduceEqDiff, Nat.reduceAdd, Nat.reduceLeDiff, Nat.reduceMul, Nat.ble_eq, Int.toNat_natCast, Nat.mul_one, Nat.add_zero, decide_true, decide_false, beq_self_eq_true, bne_self_eq_false, beq_iff_eq, bne_iff_ne, ne_eq, Int.reduceEq, Int.reduceLT, Int.reduceLE, Int.reduceAdd, Int.reduceSub, bs_toList, mk_toList, bs_size, mk_size, not_true_eq_false, not_false_eq_true, List.length_nil, Int.cast_ofNat_Int, Int.natCast_zero, Int.natCast_one]; (try simp (disch := omega) only [wrap_id, Int.natCast_zero, Int.sub_zero, Int.toNat_natCast, Int.toNat_zero, Int.cast_ofNat_Int, Int.sub_self]))))
  refine (fits hv).at_ hH [] _ rfl fun r B H1 hr h1 => ?_
  obtain ⟨ok, rfl, rfl, hok⟩ := hr
  cases ok with
  | false =>
    ((try simp only [S, TY, reduceCtorEq, Nat.reduceEqDiff, Nat.reduceAdd, Nat.reduceLeDiff, Nat.reduceMul, Nat.ble_eq, Int.toNat_natCast, Nat.mul_one, Nat.add_zero, decide_true, decide_false, beq_self_eq_true, bne_self_eq_false, beq_iff_eq, bne_iff_ne, ne_eq, Int.reduceEq, Int.reduceLT, Int.reduceLE, Int.reduceAdd, Int.reduceSub, bs_toList, mk_toList, bs_size, mk_size, not_true_eq_false, not_false_eq_true, List.length_nil, Int.cast_ofNat_Int, Int.natCast_zero, Int.natCast_one]); (try simp (disch := omega) only [wrap_id, Int.natCast_zero, Int.sub_zero, Int.toNat_natCast, Int.toNat_zero, Int.cast_ofNat_Int, Int.sub_self]); repeat (first | (refine cl_draw (i := 16) (nn [0, 0, 0, 0, 0, 0, 0, 0, 0, 0, 0, 0, 0, 0, 0, 0, 0, 0, 0, 1, 0, 0, 0, 0, 1, 0, 0, 0, 0, 3, 0, 0, 0, 0, 0, 0, 0, 0, 0, 0, 0, 0, 0]) (List.range 43) (by kernel_rfl) ?_; simp only [S, TY, reduceCtorEq, Nat.reduceEqDiff, Nat.reduceAdd, Nat.reduceLeDiff, Nat.reduceMul, Nat.ble_eq, Int.toNat_natCast, Nat.mul_one, Nat.add_zero, decide_true, decide_false, beq_self_eq_true, bne_self_eq_false, beq_iff_eq, bne_iff_ne, ne_eq, Int.reduceEq, Int.reduceLT, Int.reduceLE, Int.reduceAdd, Int.reduceSub, bs_toList, mk_toList, bs_size, mk_size, not_true_eq_false, not_false_eq_true, List.length_nil, Int.cast_ofNat_Int, Int.natCast_zero, Int.natCast_one]; (try simp (disch := omega) only [wrap_id, Int.natCast_zero, Int.sub_zero, Int.toNat_natCast, Int.toNat_zero, Int.cast_ofNat_Int, Int.sub_self]))))
    refine alive.at_ h1 [] _ rfl fun r B H2 hr h2 => ?_
    obtain ⟨rfl, rfl⟩ := hr
    ((try simp only [S, TY, reduceCtorEq, Nat.reduceEqDiff, Nat.reduceAdd, Nat.reduceLeDiff, Nat.reduceMul, Nat.ble_eq, Int.toNat_natCast, Nat.mul_one, Nat.add_zero, decide_true, decide_false, beq_self_eq_true, bne_self_eq_false, beq_iff_eq, bne_iff_ne, ne_eq, Int.reduceEq, Int.reduceLT, Int.reduceLE, Int.reduceAdd, Int.reduceSub, bs_toList, mk_toList, bs_size, mk_size, not_true_eq_false, not_false_eq_true, List.length_nil, Int.cast_ofNat_Int, Int.natCast_zero, Int.natCast_one]); (try simp (disch := omega) only [wrap_id, Int.natCast_zero, Int.sub_zero, Int.toNat_natCast, Int.toNat_zero, Int.cast_ofNat_Int, Int.sub_self]); repeat (first | (refine cl_draw (i := 16) (nn [0, 0, 0, 0, 0, 0, 0, 0, 0, 0, 0, 0, 0, 0, 0, 0, 0, 0, 0, 1, 0, 0, 0, 0, 1, 0, 0, 0, 0, 3, 0, 0, 0, 0, 0, 0, 0, 0, 0, 0, 0, 0, 0]) (List.range 43) (by kernel_rfl) ?_; simp only [S, TY, reduceCtorEq, Nat.reduceEqDiff, Nat.reduceAdd, Nat.reduceLeDiff, Nat.reduceMul, Nat.ble_eq, Int.toNat_natCast, Nat.mul_one, Nat.add_zero, decide_true, decide_false, beq_self_eq_true, bne_self_eq_false, beq_iff_eq, bne_iff_ne, ne_eq, Int.reduceEq, Int.reduceLT, Int.reduceLE, Int.reduceAdd, Int.reduceSub, bs_toList, mk_toList, bs_size, mk_size, not_true_eq_false, not_false_eq_true, List.length_nil, Int.cast_ofNat_Int, Int.natCast_zero, Int.natCast_one]; (try simp (disch := omega) only [wrap_id, Int.natCast_zero, Int.sub_zero, Int.toNat_natCast, Int.toNat_zero, Int.cast_ofNat_Int, Int.sub_self]))))
    exact fin_take (B := []) h2 ⟨rfl, rfl⟩
  | true =>
    have hn := (hok rfl).1
    ((try simp only [S, TY, reduceCtorEq, Nat.reduceEqDiff, Nat.reduceAdd, Nat.reduceLeDiff, Nat.reduceMul, Nat.ble_eq, Int.toNat_natCast, Nat.mul_one, Nat.add_zero, decide_true, decide_false, beq_self_eq_true, bne_self_eq_false, beq_iff_eq, bne_iff_ne, ne_eq, Int.reduceEq, Int.reduceLT, Int.reduceLE, Int.reduceAdd, Int.reduceSub, bs_toList, mk_toList, bs_size, mk_size, not_true_eq_false, not_false_eq_true, List.length_nil, Int.cast_ofNat_Int, Int.natCast_zero, Int.natCast_one]); (try simp (disch := omega) only [wrap_id, Int.natCast_zero, Int.sub_zero, Int.toNat_natCast, Int.toNat_zero, Int.cast_ofNat_Int, Int.sub_self]); repeat (first | (refine cl_draw (i := 16) (nn [0, 0, 0, 0, 0, 0, 0, 0, 0, 0, 0, 0, 0, 0, 0, 0, 0, 0, 0, 1, 0, 0, 0, 0, 1, 0, 0, 0, 0, 3, 0, 0, 0, 0, 0, 0, 0, 0, 0, 0, 0, 0, 0]) (List.range 43) (by kernel_rfl) ?_; simp only [S, TY, reduceCtorEq, Nat.reduceEqDiff, Nat.reduceAdd, Nat.reduceLeDiff, Nat.reduceMul, Nat.ble_eq, Int.toNat_natCast, Nat.mul_one, Nat.add_zero, decide_true, decide_false, beq_self_eq_true, bne_self_eq_false, beq_iff_eq, bne_iff_ne, ne_eq, Int.reduceEq, Int.reduceLT, Int.reduceLE, Int.reduceAdd, Int.reduceSub, bs_toList, mk_toList, bs_size, mk_size, not_true_eq_false, not_false_eq_true, List.length_nil, Int.cast_ofNat_Int, Int.natCast_zero, Int.natCast_one]; (try simp (disch := omega) only [wrap_id, Int.natCast_zero, Int.sub_zero, Int.toNat_natCast, Int.toNat_zero, Int.cast_ofNat_Int, Int.sub_self]))))
    refine (new_ok 2500 (by omega) (by omega)).at_ h1 [] _ rfl fun r B H2 hr h2 => ?_
    obtain ⟨p, rfl, rfl⟩ := hr
    ((try simp only [S, TY, reduceCtorEq, Nat.reduceEqDiff, Nat.reduceAdd, Nat.reduceLeDiff, Nat.reduceMul, Nat.ble_eq, Int.toNat_natCast, Nat.mul_one, Nat.add_zero, decide_true, decide_false, beq_self_eq_true, bne_self_eq_false, beq_iff_eq, bne_iff_ne, ne_eq, Int.reduceEq, Int.reduceLT, Int.reduceLE, Int.reduceAdd, Int.reduceSub, bs_toList, mk_toList, bs_size, mk_size, not_true_eq_false, not_false_eq_true, List.length_nil, Int.cast_ofNat_Int, Int.natCast_zero, Int.natCast_one]); (try simp (disch := omega) only [wrap_id, Int.natCast_zero, Int.sub_zero, Int.toNat_natCast, Int.toNat_zero, Int.cast_ofNat_Int, Int.sub_self]); repeat (first | (refine cl_draw (i := 16) (nn [0, 0, 0, 0, 0, 0, 0, 0, 0, 0, 0, 0, 0, 0, 0, 0, 0, 0, 0, 1, 0, 0, 0, 0, 1, 0, 0, 0, 0, 3, 0, 0, 0, 0, 0, 0, 0, 0, 0, 0, 0, 0, 0]) (List.range 43) (by kernel_rfl) ?_; simp only [S, TY, reduceCtorEq, Nat.reduceEqDiff, Nat.reduceAdd, Nat.reduceLeDiff, Nat.reduceMul, Nat.ble_eq, Int.toNat_natCast, Nat.mul_one, Nat.add_zero, decide_true, decide_false, beq_self_eq_true, bne_self_eq_false, beq_iff_eq, bne_iff_ne, ne_eq, Int.reduceEq, Int.reduceLT, Int.reduceLE, Int.reduceAdd, Int.reduceSub, bs_toList, mk_toList, bs_size, mk_size, not_true_eq_false, not_false_eq_true, List.length_nil, Int.cast_ofNat_Int, Int.natCast_zero, Int.natCast_one]; (try simp (disch := omega) only [wrap_id, Int.natCast_zero, Int.sub_zero, Int.toNat_natCast, Int.toNat_zero, Int.cast_ofNat_Int, Int.sub_self]))))
    intro q hq hg
    have h3 := isD_shut (m := ⟨[], 0, 2500⟩) (((h2.nil_ 5 1)).new hq hg _)
    ((try simp only [S, TY, reduceCtorEq, Nat.reduceEqDiff, Nat.reduceAdd, Nat.reduceLeDiff, Nat.reduceMul, Nat.ble_eq, Int.toNat_natCast, Nat.mul_one, Nat.add_zero, decide_true, decide_false, beq_self_eq_true, bne_self_eq_false, beq_iff_eq, bne_iff_ne, ne_eq, Int.reduceEq, Int.reduceLT, Int.reduceLE, Int.reduceAdd, Int.reduceSub, bs_toList, mk_toList, bs_size, mk_size, not_true_eq_false, not_false_eq_true, List.length_nil, Int.cast_ofNat_Int, Int.natCast_zero, Int.natCast_one]); (try simp (disch := omega) only [wrap_id, Int.natCast_zero, Int.sub_zero, Int.toNat_natCast, Int.toNat_zero, Int.cast_ofNat_Int, Int.sub_self]); repeat (first | (refine cl_draw (i := 16) (nn [0, 0, 0, 0, 0, 0, 0, 0, 0, 0, 0, 0, 0, 0, 0, 0, 0, 0, 0, 1, 0, 0, 0, 0, 1, 0, 0, 0, 0, 3, 0, 0, 0, 0, 0, 0, 0, 0, 0, 0, 0, 0, 0]) (List.range 43) (by kernel_rfl) ?_; simp only [S, TY, reduceCtorEq, Nat.reduceEqDiff, Nat.reduceAdd, Nat.reduceLeDiff, Nat.reduceMul, Nat.ble_eq, Int.toNat_natCast, Nat.mul_one, Nat.add_zero, decide_true, decide_false, beq_self_eq_true, bne_self_eq_false, beq_iff_eq, bne_iff_ne, ne_eq, Int.reduceEq, Int.reduceLT, Int.reduceLE, Int.reduceAdd, Int.reduceSub, bs_toList, mk_toList, bs_size, mk_size, not_true_eq_false, not_false_eq_true, List.length_nil, Int.cast_ofNat_Int, Int.natCast_zero, Int.natCast_one]; (try simp (disch := omega) only [wrap_id, Int.natCast_zero, Int.sub_zero, Int.toNat_natCast, Int.toNat_zero, Int.cast_ofNat_Int, Int.sub_self]))))
    refine cl_loop (fun i e H => i ≤ n ∧ e 0 = .slice a n c ∧ e 1 = .int .i64 keep ∧ e 6 = .pointer (some ⟨p, 0, none⟩) ∧ e 8 = .pointer (some ⟨q, 0, none⟩) ∧ e 9 = .int .i64 i ∧ ∃ f m, Same f m ∧ sg G [isF p f, isD q m] H) (fun i => n - i) 0
      ⟨by omega, rfl, rfl, rfl, rfl, rfl, _, _, same_new (room := 2500) (by omega) (by omega), h3.front 1⟩ ?_
    rintro i e H ⟨q1, q2, q0, q3, q4, q5, f, m, hS, hH⟩
    by_cases g1 : (i : Int) < n
    · obtain ⟨b, off, cs, hl, rfl, hQ, _, hc, hld⟩ := (hH.rol hv).at (by decide) (i := i) (by omega)
      obtain ⟨c1, c2, rfl, _, ⟨rfl, hk⟩, c3, c4, rfl, _, ⟨w, rfl, hb⟩, c5, c6, rfl, _, ⟨rfl, hn⟩, rfl⟩ := hQ
      have g0 : (0 : Int) ≤ i ∧ (i : Int) < n := ⟨by omega, g1⟩
      ((try simp only [S, TY, reduceCtorEq, Nat.reduceEqDiff, Nat.reduceAdd, Nat.reduceLeDiff, Nat.reduceMul, Nat.ble_eq, Int.toNat_natCast, Nat.mul_one, Nat.add_zero, decide_true, decide_false, beq_self_eq_true, bne_self_eq_false, beq_iff_eq, bne_iff_ne, ne_eq, Int.reduceEq, Int.reduceLT, Int.reduceLE, Int.reduceAdd, Int.reduceSub, bs_toList, mk_toList, bs_size, mk_size, not_true_eq_false, not_false_eq_true, List.length_nil, Int.cast_ofNat_Int, Int.natCast_zero, Int.natCast_one, q2, q3, q4, q5, g1, g0, hld]); (try simp (disch := omega) only [wrap_id, Int.natCast_zero, Int.sub_zero, Int.toNat_natCast, Int.toNat_zero, Int.cast_ofNat_Int, Int.sub_self]); repeat (first | (refine cl_draw (i := 16) (nn [0, 0, 0, 0, 0, 0, 0, 0, 0, 0, 0, 0, 0, 0, 0, 0, 0, 0, 0, 1, 0, 0, 0, 0, 1, 0, 0, 0, 0, 3, 0, 0, 0, 0, 0, 0, 0, 0, 0, 0, 0, 0, 0]) (List.range 43) (by kernel_rfl) ?_; simp only [S, TY, reduceCtorEq, Nat.reduceEqDiff, Nat.reduceAdd, Nat.reduceLeDiff, Nat.reduceMul, Nat.ble_eq, Int.toNat_natCast, Nat.mul_one, Nat.add_zero, decide_true, decide_false, beq_self_eq_true, bne_self_eq_false, beq_iff_eq, bne_iff_ne, ne_eq, Int.reduceEq, Int.reduceLT, Int.reduceLE, Int.reduceAdd, Int.reduceSub, bs_toList, mk_toList, bs_size, mk_size, not_true_eq_false, not_false_eq_true, List.length_nil, Int.cast_ofNat_Int, Int.natCast_zero, Int.natCast_one, q2, q3, q4, q5, g1, g0, hld]; (try simp (disch := omega) only [wrap_id, Int.natCast_zero, Int.sub_zero, Int.toNat_natCast, Int.toNat_zero, Int.cast_ofNat_Int, Int.sub_self]))))
      have hlen := (hok rfl).2 _ (List.getElem_mem hl)
      refine (step_ok hS hb (by omega) hk).at_ hH [0, 0] _ rfl fun r B H4 hr h4 => ?_
      obtain ⟨rfl, f', m', hS', _, rfl⟩ := hr
      ((try simp only [S, TY, reduceCtorEq, Nat.reduceEqDiff, Nat.reduceAdd, Nat.reduceLeDiff, Nat.reduceMul, Nat.ble_eq, Int.toNat_natCast, Nat.mul_one, Nat.add_zero, decide_true, decide_false, beq_self_eq_true, bne_self_eq_false, beq_iff_eq, bne_iff_ne, ne_eq, Int.reduceEq, Int.reduceLT, Int.reduceLE, Int.reduceAdd, Int.reduceSub, bs_toList, mk_toList, bs_size, mk_size, not_true_eq_false, not_false_eq_true, List.length_nil, Int.cast_ofNat_Int, Int.natCast_zero, Int.natCast_one, q2, q3, q4, q5, g1, g0, hld]); (try simp (disch := omega) only [wrap_id, Int.natCast_zero, Int.sub_zero, Int.toNat_natCast, Int.toNat_zero, Int.cast_ofNat_Int, Int.sub_self]); repeat (first | (refine cl_draw (i := 16) (nn [0, 0, 0, 0, 0, 0, 0, 0, 0, 0, 0, 0, 0, 0, 0, 0, 0, 0, 0, 1, 0, 0, 0, 0, 1, 0, 0, 0, 0, 3, 0, 0, 0, 0, 0, 0, 0, 0, 0, 0, 0, 0, 0]) (List.range 43) (by kernel_rfl) ?_; simp only [S, TY, reduceCtorEq, Nat.reduceEqDiff, Nat.reduceAdd, Nat.reduceLeDiff, Nat.reduceMul, Nat.ble_eq, Int.toNat_natCast, Nat.mul_one, Nat.add_zero, decide_true, decide_false, beq_self_eq_true, bne_self_eq_false, beq_iff_eq, bne_iff_ne, ne_eq, Int.reduceEq, Int.reduceLT, Int.reduceLE, Int.reduceAdd, Int.reduceSub, bs_toList, mk_toList, bs_size, mk_size, not_true_eq_false, not_false_eq_true, List.length_nil, Int.cast_ofNat_Int, Int.natCast_zero, Int.natCast_one, q2, q3, q4, q5, g1, g0, hld]; (try simp (disch := omega) only [wrap_id, Int.natCast_zero, Int.sub_zero, Int.toNat_natCast, Int.toNat_zero, Int.cast_ofNat_Int, Int.sub_self]))))
      exact .go (i + 1) (by omega) ⟨by omega, q2, q0, q3, q4, rfl, f', m', hS', h4⟩
    · ((try simp only [S, TY, reduceCtorEq, Nat.reduceEqDiff, Nat.reduceAdd, Nat.reduceLeDiff, Nat.reduceMul, Nat.ble_eq, Int.toNat_natCast, Nat.mul_one, Nat.add_zero, decide_true, decide_false, beq_self_eq_true, bne_self_eq_false, beq_iff_eq, bne_iff_ne, ne_eq, Int.reduceEq, Int.reduceLT, Int.reduceLE, Int.reduceAdd, Int.reduceSub, bs_toList, mk_toList, bs_size, mk_size, not_true_eq_false, not_false_eq_true, List.length_nil, Int.cast_ofNat_Int, Int.natCast_zero, Int.natCast_one, q2, q3, q4, q5, g1]); (try simp (disch := omega) only [wrap_id, Int.natCast_zero, Int.sub_zero, Int.toNat_natCast, Int.toNat_zero, Int.cast_ofNat_Int, Int.sub_self]); repeat (first | (refine cl_draw (i := 16) (nn [0, 0, 0, 0, 0, 0, 0, 0, 0, 0, 0, 0, 0, 0, 0, 0, 0, 0, 0, 1, 0, 0, 0, 0, 1, 0, 0, 0, 0, 3, 0, 0, 0, 0, 0, 0, 0, 0, 0, 0, 0, 0, 0]) (List.range 43) (by kernel_rfl) ?_; simp only [S, TY, reduceCtorEq, Nat.reduceEqDiff, Nat.reduceAdd, Nat.reduceLeDiff, Nat.reduceMul, Nat.ble_eq, Int.toNat_natCast, Nat.mul_one, Nat.add_zero, decide_true, decide_false, beq_self_eq_true, bne_self_eq_false, beq_iff_eq, bne_iff_ne, ne_eq, Int.reduceEq, Int.reduceLT, Int.reduceLE, Int.reduceAdd, Int.reduceSub, bs_toList, mk_toList, bs_size, mk_size, not_true_eq_false, not_false_eq_true, List.length_nil, Int.cast_ofNat_Int, Int.natCast_zero, Int.natCast_one, q2, q3, q4, q5, g1]; (try simp (disch := omega) only [wrap_id, Int.natCast_zero, Int.sub_zero, Int.toNat_natCast, Int.toNat_zero, Int.cast_ofNat_Int, Int.sub_self]))))
      have hle := bl_le hS.ok
      refine (bytes_ok hS.ok).at_ hH [0] _ rfl fun r B H4 hr h4 => ?_
      subst hr
      obtain ⟨wa, wn, wc, rfl, f1, f2⟩ := h4.sl 0 rfl Rd_own
      rw [bv_length, List.length_append] at f1
      ((try simp only [S, TY, reduceCtorEq, Nat.reduceEqDiff, Nat.reduceAdd, Nat.reduceLeDiff, Nat.reduceMul, Nat.ble_eq, Int.toNat_natCast, Nat.mul_one, Nat.add_zero, decide_true, decide_false, beq_self_eq_true, bne_self_eq_false, beq_iff_eq, bne_iff_ne, ne_eq, Int.reduceEq, Int.reduceLT, Int.reduceLE, Int.reduceAdd, Int.reduceSub, bs_toList, mk_toList, bs_size, mk_size, not_true_eq_false, not_false_eq_true, List.length_nil, Int.cast_ofNat_Int, Int.natCast_zero, Int.natCast_one, q2, q3, q4, q5, g1]); (try simp (disch := omega) only [wrap_id, Int.natCast_zero, Int.sub_zero, Int.toNat_natCast, Int.toNat_zero, Int.cast_ofNat_Int, Int.sub_self]); repeat (first | (refine cl_draw (i := 16) (nn [0, 0, 0, 0, 0, 0, 0, 0, 0, 0, 0, 0, 0, 0, 0, 0, 0, 0, 0, 1, 0, 0, 0, 0, 1, 0, 0, 0, 0, 3, 0, 0, 0, 0, 0, 0, 0, 0, 0, 0, 0, 0, 0]) (List.range 43) (by kernel_rfl) ?_; simp only [S, TY, reduceCtorEq, Nat.reduceEqDiff, Nat.reduceAdd, Nat.reduceLeDiff, Nat.reduceMul, Nat.ble_eq, Int.toNat_natCast, Nat.mul_one, Nat.add_zero, decide_true, decide_false, beq_self_eq_true, bne_self_eq_false, beq_iff_eq, bne_iff_ne, ne_eq, Int.reduceEq, Int.reduceLT, Int.reduceLE, Int.reduceAdd, Int.reduceSub, bs_toList, mk_toList, bs_size, mk_size, not_true_eq_false, not_false_eq_true, List.length_nil, Int.cast_ofNat_Int, Int.natCast_zero, Int.natCast_one, q2, q3, q4, q5, g1]; (try simp (disch := omega) only [wrap_id, Int.natCast_zero, Int.sub_zero, Int.toNat_natCast, Int.toNat_zero, Int.cast_ofNat_Int, Int.sub_self]))))
      refine safe_ok.at_ h4 [1] _ rfl fun r B H5 hr h5 => ?_
      obtain ⟨rfl, rfl⟩ := hr
      ((try simp only [S, TY, reduceCtorEq, Nat.reduceEqDiff, Nat.reduceAdd, Nat.reduceLeDiff, Nat.reduceMul, Nat.ble_eq, Int.toNat_natCast, Nat.mul_one, Nat.add_zero, decide_true, decide_false, beq_self_eq_true, bne_self_eq_false, beq_iff_eq, bne_iff_ne, ne_eq, Int.reduceEq, Int.reduceLT, Int.reduceLE, Int.reduceAdd, Int.reduceSub, bs_toList, mk_toList, bs_size, mk_size, not_true_eq_false, not_false_eq_true, List.length_nil, Int.cast_ofNat_Int, Int.natCast_zero, Int.natCast_one, q0, q2, q3, q4, q5, g1]); (try simp (disch := omega) only [wrap_id, Int.natCast_zero, Int.sub_zero, Int.toNat_natCast, Int.toNat_zero, Int.cast_ofNat_Int, Int.sub_self]); repeat (first | (refine cl_draw (i := 16) (nn [0, 0, 0, 0, 0, 0, 0, 0, 0, 0, 0, 0, 0, 0, 0, 0, 0, 0, 0, 1, 0, 0, 0, 0, 1, 0, 0, 0, 0, 3, 0, 0, 0, 0, 0, 0, 0, 0, 0, 0, 0, 0, 0]) (List.range 43) (by kernel_rfl) ?_; simp only [S, TY, reduceCtorEq, Nat.reduceEqDiff, Nat.reduceAdd, Nat.reduceLeDiff, Nat.reduceMul, Nat.ble_eq, Int.toNat_natCast, Nat.mul_one, Nat.add_zero, decide_true, decide_false, beq_self_eq_true, bne_self_eq_false, beq_iff_eq, bne_iff_ne, ne_eq, Int.reduceEq, Int.reduceLT, Int.reduceLE, Int.reduceAdd, Int.reduceSub, bs_toList, mk_toList, bs_size, mk_size, not_true_eq_false, not_false_eq_true, List.length_nil, Int.cast_ofNat_Int, Int.natCast_zero, Int.natCast_one, q0, q2, q3, q4, q5, g1]; (try simp (disch := omega) only [wrap_id, Int.natCast_zero, Int.sub_zero, Int.toNat_natCast, Int.toNat_zero, Int.cast_ofNat_Int, Int.sub_self]))))
      refine (crash_ok hS.ok keep).at_ h5 [0] _ rfl fun r B H6 hr h6 => ?_
      obtain ⟨rfl, rfl⟩ := hr
      have hst : ∃ st : Nat, (f.crash keep).1 = ⟨f.safe ++ f.loose.take st, [], f.room⟩ ∧ (f.crash keep).2 = (f.loose.length : Int) - st ∧ st ≤ f.loose.length ∧ (keep ≤ 0 → st = 0) :=
        ⟨(min (max keep 0) f.loose.length).toNat, rfl, rfl, by omega, fun h => by omega⟩
      obtain ⟨st, t1, t2, t3, t4⟩ := hst
      rw [t1] at h6
      rw [t2]
      have f6 : F.ok ⟨f.safe ++ f.loose.take st, [], f.room⟩ := ⟨hS.ok.1, by have := hS.ok.2; simp only [List.length_append, List.length_take, List.length_nil]; omega⟩
      ((try simp only [S, TY, reduceCtorEq, Nat.reduceEqDiff, Nat.reduceAdd, Nat.reduceLeDiff, Nat.reduceMul, Nat.ble_eq, Int.toNat_natCast, Nat.mul_one, Nat.add_zero, decide_true, decide_false, beq_self_eq_true, bne_self_eq_false, beq_iff_eq, bne_iff_ne, ne_eq, Int.reduceEq, Int.reduceLT, Int.reduceLE, Int.reduceAdd, Int.reduceSub, bs_toList, mk_toList, bs_size, mk_size, not_true_eq_false, not_false_eq_true, List.length_nil, Int.cast_ofNat_Int, Int.natCast_zero, Int.natCast_one, q0, q2, q3, q4, q5, g1]); (try simp (disch := omega) only [wrap_id, Int.natCast_zero, Int.sub_zero, Int.toNat_natCast, Int.toNat_zero, Int.cast_ofNat_Int, Int.sub_self]); repeat (first | (refine cl_draw (i := 16) (nn [0, 0, 0, 0, 0, 0, 0, 0, 0, 0, 0, 0, 0, 0, 0, 0, 0, 0, 0, 1, 0, 0, 0, 0, 1, 0, 0, 0, 0, 3, 0, 0, 0, 0, 0, 0, 0, 0, 0, 0, 0, 0, 0]) (List.range 43) (by kernel_rfl) ?_; simp only [S, TY, reduceCtorEq, Nat.reduceEqDiff, Nat.reduceAdd, Nat.reduceLeDiff, Nat.reduceMul, Nat.ble_eq, Int.toNat_natCast, Nat.mul_one, Nat.add_zero, decide_true, decide_false, beq_self_eq_true, bne_self_eq_false, beq_iff_eq, bne_iff_ne, ne_eq, Int.reduceEq, Int.reduceLT, Int.reduceLE, Int.reduceAdd, Int.reduceSub, bs_toList, mk_toList, bs_size, mk_size, not_true_eq_false, not_false_eq_true, List.length_nil, Int.cast_ofNat_Int, Int.natCast_zero, Int.natCast_one, q0, q2, q3, q4, q5, g1]; (try simp (disch := omega) only [wrap_id, Int.natCast_zero, Int.sub_zero, Int.toNat_natCast, Int.toNat_zero, Int.cast_ofNat_Int, Int.sub_self]))))
      refine (bytes_ok f6).at_ h6 [0] _ rfl fun r B H7 hr h7 => ?_
      subst hr
      obtain ⟨xa, xn, xc, rfl, f3, f4⟩ := h7.sl 0 rfl Rd_own
      rw [bv_length, List.append_nil, List.length_append, List.length_take] at f3
      have d1 : ¬ (wn : Int) < (f.safe.length : Int) := by omega
      have d2 : ¬ (xn : Int) < (f.safe.length : Int) := by omega
      have d3 : ¬ (wn : Int) < (xn : Int) := by omega
      have hxn : xn = f.safe.length + st := by omega
      have sx := rStr_of (P := Try.prog) (h7.rdsi 0 rfl Rd_own)
      have rw' := (h7.rdsi 2 rfl Rd_own).take (m := xn) (by omega)
      rw [Nat.mul_one, ← bv_take] at rw'
      have sw := rStr_of (P := Try.prog) rw'
      have hst : (f.safe ++ f.loose).take xn = f.safe ++ f.loose.take st := by
        rw [hxn, List.take_append, List.take_of_length_le (by omega), Nat.add_sub_cancel_left]
      rw [hst] at sw
      rw [List.append_nil] at sx
      have d4 : (xn : Int) ≤ wc := by omega
      have d5 : (0 : Int) ≤ xn := by omega
      ((try simp only [S, TY, reduceCtorEq, Nat.reduceEqDiff, Nat.reduceAdd, Nat.reduceLeDiff, Nat.reduceMul, Nat.ble_eq, Int.toNat_natCast, Nat.mul_one, Nat.add_zero, decide_true, decide_false, beq_self_eq_true, bne_self_eq_false, beq_iff_eq, bne_iff_ne, ne_eq, Int.reduceEq, Int.reduceLT, Int.reduceLE, Int.reduceAdd, Int.reduceSub, bs_toList, mk_toList, bs_size, mk_size, not_true_eq_false, not_false_eq_true, List.length_nil, Int.cast_ofNat_Int, Int.natCast_zero, Int.natCast_one, q0, q2, q3, q4, q5, g1, d1, d2, d3, sx, sw, d4, d5]); (try simp (disch := omega) only [wrap_id, Int.natCast_zero, Int.sub_zero, Int.toNat_natCast, Int.toNat_zero, Int.cast_ofNat_Int, Int.sub_self]); repeat (first | (refine cl_draw (i := 16) (nn [0, 0, 0, 0, 0, 0, 0, 0, 0, 0, 0, 0, 0, 0, 0, 0, 0, 0, 0, 1, 0, 0, 0, 0, 1, 0, 0, 0, 0, 3, 0, 0, 0, 0, 0, 0, 0, 0, 0, 0, 0, 0, 0]) (List.range 43) (by kernel_rfl) ?_; simp only [S, TY, reduceCtorEq, Nat.reduceEqDiff, Nat.reduceAdd, Nat.reduceLeDiff, Nat.reduceMul, Nat.ble_eq, Int.toNat_natCast, Nat.mul_one, Nat.add_zero, decide_true, decide_false, beq_self_eq_true, bne_self_eq_false, beq_iff_eq, bne_iff_ne, ne_eq, Int.reduceEq, Int.reduceLT, Int.reduceLE, Int.reduceAdd, Int.reduceSub, bs_toList, mk_toList, bs_size, mk_size, not_true_eq_false, not_false_eq_true, List.length_nil, Int.cast_ofNat_Int, Int.natCast_zero, Int.natCast_one, q0, q2, q3, q4, q5, g1, d1, d2, d3, sx, sw, d4, d5]; (try simp (disch := omega) only [wrap_id, Int.natCast_zero, Int.sub_zero, Int.toNat_natCast, Int.toNat_zero, Int.cast_ofNat_Int, Int.sub_self]))))
      refine safe_ok.at_ h7 [1] _ rfl fun r B H8 hr h8 => ?_
      obtain ⟨rfl, rfl⟩ := hr
      have e3 : (f.safe ++ f.loose.take st).length = xn := by rw [List.length_append, List.length_take]; omega
      have e4 : IntKind.i64.wrap ((wn : Int) - xn) = (f.loose.length : Int) - st := by rw [wrap_id (by omega) (by omega)]; omega
      ((try simp only [S, TY, reduceCtorEq, Nat.reduceEqDiff, Nat.reduceAdd, Nat.reduceLeDiff, Nat.reduceMul, Nat.ble_eq, Int.toNat_natCast, Nat.mul_one, Nat.add_zero, decide_true, decide_false, beq_self_eq_true, bne_self_eq_false, beq_iff_eq, bne_iff_ne, ne_eq, Int.reduceEq, Int.reduceLT, Int.reduceLE, Int.reduceAdd, Int.reduceSub, bs_toList, mk_toList, bs_size, mk_size, not_true_eq_false, not_false_eq_true, List.length_nil, Int.cast_ofNat_Int, Int.natCast_zero, Int.natCast_one, q0, q2, q3, q4, q5, g1, d1, d2, d3, e3, e4]); (try simp (disch := omega) only [wrap_id, Int.natCast_zero, Int.sub_zero, Int.toNat_natCast, Int.toNat_zero, Int.cast_ofNat_Int, Int.sub_self]); repeat (first | (refine cl_draw (i := 16) (nn [0, 0, 0, 0, 0, 0, 0, 0, 0, 0, 0, 0, 0, 0, 0, 0, 0, 0, 0, 1, 0, 0, 0, 0, 1, 0, 0, 0, 0, 3, 0, 0, 0, 0, 0, 0, 0, 0, 0, 0, 0, 0, 0]) (List.range 43) (by kernel_rfl) ?_; simp only [S, TY, reduceCtorEq, Nat.reduceEqDiff, Nat.reduceAdd, Nat.reduceLeDiff, Nat.reduceMul, Nat.ble_eq, Int.toNat_natCast, Nat.mul_one, Nat.add_zero, decide_true, decide_false, beq_self_eq_true, bne_self_eq_false, beq_iff_eq, bne_iff_ne, ne_eq, Int.reduceEq, Int.reduceLT, Int.reduceLE, Int.reduceAdd, Int.reduceSub, bs_toList, mk_toList, bs_size, mk_size, not_true_eq_false, not_false_eq_true, List.length_nil, Int.cast_ofNat_Int, Int.natCast_zero, Int.natCast_one, q0, q2, q3, q4, q5, g1, d1, d2, d3, e3, e4]; (try simp (disch := omega) only [wrap_id, Int.natCast_zero, Int.sub_zero, Int.toNat_natCast, Int.toNat_zero, Int.cast_ofNat_Int, Int.sub_self]))))
      refine alive.at_ h8 [] _ rfl fun r B H9 hr h9 => ?_
      obtain ⟨rfl, rfl⟩ := hr
      by_cases d6 : 0 < keep
      · ((try simp only [S, TY, reduceCtorEq, Nat.reduceEqDiff, Nat.reduceAdd, Nat.reduceLeDiff, Nat.reduceMul, Nat.ble_eq, Int.toNat_natCast, Nat.mul_one, Nat.add_zero, decide_true, decide_false, beq_self_eq_true, bne_self_eq_false, beq_iff_eq, bne_iff_ne, ne_eq, Int.reduceEq, Int.reduceLT, Int.reduceLE, Int.reduceAdd, Int.reduceSub, bs_toList, mk_toList, bs_size, mk_size, not_true_eq_false, not_false_eq_true, List.length_nil, Int.cast_ofNat_Int, Int.natCast_zero, Int.natCast_one, q0, d6]); (try simp (disch := omega) only [wrap_id, Int.natCast_zero, Int.sub_zero, Int.toNat_natCast, Int.toNat_zero, Int.cast_ofNat_Int, Int.sub_self]); repeat (first | (refine cl_draw (i := 16) (nn [0, 0, 0, 0, 0, 0, 0, 0, 0, 0, 0, 0, 0, 0, 0, 0, 0, 0, 0, 1, 0, 0, 0, 0, 1, 0, 0, 0, 0, 3, 0, 0, 0, 0, 0, 0, 0, 0, 0, 0, 0, 0, 0]) (List.range 43) (by kernel_rfl) ?_; simp only [S, TY, reduceCtorEq, Nat.reduceEqDiff, Nat.reduceAdd, Nat.reduceLeDiff, Nat.reduceMul, Nat.ble_eq, Int.toNat_natCast, Nat.mul_one, Nat.add_zero, decide_true, decide_false, beq_self_eq_true, bne_self_eq_false, beq_iff_eq, bne_iff_ne, ne_eq, Int.reduceEq, Int.reduceLT, Int.reduceLE, Int.reduceAdd, Int.reduceSub, bs_toList, mk_toList, bs_size, mk_size, not_true_eq_false, not_false_eq_true, List.length_nil, Int.cast_ofNat_Int, Int.natCast_zero, Int.natCast_one, q0, d6]; (try simp (disch := omega) only [wrap_id, Int.natCast_zero, Int.sub_zero, Int.toNat_natCast, Int.toNat_zero, Int.cast_ofNat_Int, Int.sub_self]))))
        exact fin_take (B := []) h9 ⟨rfl, rfl⟩
      · have d7 : (xn : Int) = (f.safe.length : Int) := by have := t4 (by omega); omega
        ((try simp only [S, TY, reduceCtorEq, Nat.reduceEqDiff, Nat.reduceAdd, Nat.reduceLeDiff, Nat.reduceMul, Nat.ble_eq, Int.toNat_natCast, Nat.mul_one, Nat.add_zero, decide_true, decide_false, beq_self_eq_true, bne_self_eq_false, beq_iff_eq, bne_iff_ne, ne_eq, Int.reduceEq, Int.reduceLT, Int.reduceLE, Int.reduceAdd, Int.reduceSub, bs_toList, mk_toList, bs_size, mk_size, not_true_eq_false, not_false_eq_true, List.length_nil, Int.cast_ofNat_Int, Int.natCast_zero, Int.natCast_one, q0, d6, d7]); (try simp (disch := omega) only [wrap_id, Int.natCast_zero, Int.sub_zero, Int.toNat_natCast, Int.toNat_zero, Int.cast_ofNat_Int, Int.sub_self]); repeat (first | (refine cl_draw (i := 16) (nn [0, 0, 0, 0, 0, 0, 0, 0, 0, 0, 0, 0, 0, 0, 0, 0, 0, 0, 0, 1, 0, 0, 0, 0, 1, 0, 0, 0, 0, 3, 0, 0, 0, 0, 0, 0, 0, 0, 0, 0, 0, 0, 0]) (List.range 43) (by kernel_rfl) ?_; simp only [S, TY, reduceCtorEq, Nat.reduceEqDiff, Nat.reduceAdd, Nat.reduceLeDiff, Nat.reduceMul, Nat.ble_eq, Int.toNat_natCast, Nat.mul_one, Nat.add_zero, decide_true, decide_false, beq_self_eq_true, bne_self_eq_false, beq_iff_eq, bne_iff_ne, ne_eq, Int.reduceEq, Int.reduceLT, Int.reduceLE, Int.reduceAdd, Int.reduceSub, bs_toList, mk_toList, bs_size, mk_size, not_true_eq_false, not_false_eq_true, List.length_nil, Int.cast_ofNat_Int, Int.natCast_zero, Int.natCast_one, q0, d6, d7]; (try simp (disch := omega) only [wrap_id, Int.natCast_zero, Int.sub_zero, Int.toNat_natCast, Int.toNat_zero, Int.cast_ofNat_Int, Int.sub_self]))))
        exact fin_take (B := []) h9 ⟨rfl, rfl⟩
theorem safeV {G : Hp} {v0 v1 : Value} {y0 : (Ty.sl AT).den} {y1 : (Ty.int .i64).den} (h0 : Ty.V G (.sl AT) v0 y0) (h1 : Ty.V G (.int .i64) v1 y1) :
    Con Try.prog G 6 [v0, v1] [] (fun r B => r = .bool true ∧ B = []) := by
  rcases h0 with ⟨h, _⟩ | ⟨_, w, h0, hv⟩
  · cases h
  rcases h1 with ⟨h, _⟩ | ⟨_, h1, _⟩
  · cases h
  cases h0; cases h1
  exact safe hv
end Go.Proofs.Ytkdcapgjmcjdjaa.DiskM
