/- session's Session, over the machine: New, Push, Len, Peer. -/
import Derived.Test.YtanhmbdcdbcfmaaSe
import Derived.Test.YtanhmbdcdbcfmaaRf
set_option linter.unusedVariables false
set_option linter.unusedSimpArgs false
set_option maxRecDepth 10000
set_option maxHeartbeats 2000000
namespace Go.Proofs.Ytanhmbdcdbcfmaa.SeS
open Nat renaming reduceEqDiff → nq0, reduceAdd → nq1, reduceLeDiff → nq2, reduceBEq → nq3, reduceMul → nq4
open Int renaming reduceBEq → iq0, reduceEq → iq1, reduceLT → iq2, reduceLE → iq3, reduceAdd → iq4, reduceSub → iq5, reduceMul → iq6, reduceToNat → iq7, cast_ofNat_Int → iq8
open Go Go.Sl Go.Proofs Go.Proofs.Ytanhmbdcdbcfmaa.Buf Go.Proofs.Ytanhmbdcdbcfmaa.BufRd Go.Proofs.Ytanhmbdcdbcfmaa.BufRe Go.Proofs.Ytanhmbdcdbcfmaa.BufP Go.Proofs.Ytanhmbdcdbcfmaa.SeP Go.Proofs.Ytanhmbdcdbcfmaa.Se
theorem TY : aggN Try.prog 3 = some none ∧
  aggN Try.prog 5 = some none ∧
  aggN Try.prog 24 = some none ∧
  aggN Try.prog 78 = some none ∧
  aggN Try.prog 115 = some none ∧
  aggN Try.prog 240 = some (some 5) ∧
  apI Try.prog 24 = some (5, 1, 1) ∧
  apI Try.prog 115 = some (24, 1, 24) ∧
  bIs Try.prog 240 = true ∧
  bySl Try.prog 24 = true ∧
  csz Try.prog 3 = some 1 ∧
  csz Try.prog 5 = some 1 ∧
  csz Try.prog 24 = some 1 ∧
  csz Try.prog 78 = some 1 ∧
  csz Try.prog 115 = some 1 ∧
  csz Try.prog 240 = some 5 ∧
  fIs Try.prog 240 1 = true ∧
  fIs Try.prog 240 2 = true ∧
  fOff Try.prog 240 1 = 1 ∧
  fOff Try.prog 240 2 = 2 ∧
  fTy Try.prog 240 1 = 3 ∧
  fTy Try.prog 240 2 = 115 ∧
  goes Try.prog 102 = true ∧
  goes Try.prog 123 = true ∧
  goes Try.prog 124 = true ∧
  inIs Try.prog 3 = some .i64 ∧
  inIs Try.prog 5 = some .u8 ∧
  plcs Try.prog 240 = [(0, 1), (1, 1), (2, 1), (3, 1), (4, 1)] ∧
  ptIs Try.prog 78 = true ∧
  slEl Try.prog 24 = 5 ∧
  slEl Try.prog 115 = 24 ∧
  slIs Try.prog 24 = true ∧
  slIs Try.prog 115 = true ∧
  slSz Try.prog 24 = 1 ∧
  slSz Try.prog 115 = 1 ∧
  zcs Try.prog 240 = [.int .i64 0, .int .i64 0, .slice none 0 0, .int .i64 0, .int .i64 0] ∧
  zro Try.prog 3 = some (.int .i64 0) ∧
  zro Try.prog 5 = some (.int .u8 0) ∧
  zro Try.prog 24 = some (.slice none 0 0) ∧
  zro Try.prog 78 = some (.pointer none) ∧
  zro Try.prog 115 = some (.slice none 0 0) ∧
  zro Try.prog 240 = some (.agg #[.int .i64 0, .int .i64 0, .slice none 0 0, .int .i64 0, .int .i64 0]) :=
  ⟨by kernel_rfl, by kernel_rfl, by kernel_rfl, by kernel_rfl, by kernel_rfl, by kernel_rfl, by kernel_rfl, by kernel_rfl, by kernel_rfl, by kernel_rfl, by kernel_rfl, by kernel_rfl, by kernel_rfl, by kernel_rfl, by kernel_rfl, by kernel_rfl, by kernel_rfl, by kernel_rfl, by kernel_rfl, by kernel_rfl, by kernel_rfl, by kernel_rfl, by kernel_rfl, by kernel_rfl, by kernel_rfl, by kernel_rfl, by kernel_rfl, by kernel_rfl, by kernel_rfl, by kernel_rfl, by kernel_rfl, by kernel_rfl, by kernel_rfl, by kernel_rfl, by kernel_rfl, by kernel_rfl, by kernel_rfl, by kernel_rfl, by kernel_rfl, by kernel_rfl, by kernel_rfl, by kernel_rfl⟩
def D44_5 : List Note := Go.Sl.nn [0, 0, 0, 0, 1, 0] ++ ([(3, [4])] ++ (Go.Sl.nn [2, 3, 0, 0, 3]))
structure Ses where
  m : Int
  p : Int
  n : Int
  g : Int
  q : List (List UInt8)
def Ses.new (m : Int) : Ses := ⟨m, 0, 1, 0, []⟩
/-- What may stand in a session. -/
structure Ses.wf (s : Ses) : Prop where
  m : 1 ≤ s.m ∧ s.m ≤ 4294967296
  p : 0 ≤ s.p ∧ s.p ≤ 4294967296
  n : 1 ≤ s.n ∧ s.n ≤ 1099511627777
  g : 0 ≤ s.g ∧ s.g ≤ 1099511627776
  q : s.q.length ≤ 64
  b : ∀ b ∈ s.q, 1 ≤ b.length ∧ b.length ≤ 1000
def Ses.push (s : Ses) (b : List UInt8) : Ses × Int := if 1 ≤ b.length ∧ b.length ≤ 1000 then (if 64 ≤ s.q.length then (s, 3) else (⟨s.m, s.p, s.n, s.g, s.q ++ [b]⟩, 0)) else (s, 1)
theorem Ses.wf_new {m : Int} (h : 1 ≤ m ∧ m ≤ 4294967296) : (Ses.new m).wf := ⟨h, by simp [Ses.new], by simp [Ses.new], by simp [Ses.new], by simp [Ses.new], by simp [Ses.new]⟩
theorem Ses.wf_push {s : Ses} (h : s.wf) (b : List UInt8) : (s.push b).1.wf := by
  unfold Ses.push
  split
  · rename_i g
    split
    · exact h
    · rename_i g2
      refine ⟨h.m, h.p, h.n, h.g, by simp; omega, ?_⟩
      intro x hx
      rcases List.mem_append.1 hx with hx | hx
      · exact h.b x hx
      · rw [List.mem_singleton] at hx; subst hx; exact g
  · exact h
abbrev sl (m p n g : Int) (v : Value) : List Value := [.int .i64 m, .int .i64 p, v, .int .i64 n, .int .i64 g]
def sS (a : Nat) (s : Ses) : Asn := fun H => ∃ v vs, seps [ob a (.cells (sl s.m s.p s.n s.g v).toArray 240 (0, 0)), own 24 1 v vs, blobs vs s.q] H
theorem sS_open {G H : Hp} {a : Nat} {s : Ses} {L : List Asn} (h : sg G (sS a s :: L) H) : ∃ va c vs, vs.length = s.q.length ∧ s.q.length ≤ c ∧
    sg G (ob a (.cells (sl s.m s.p s.n s.g (.slice va s.q.length c)).toArray 240 (0, 0)) :: own 24 1 (.slice va s.q.length c) vs :: blobs vs s.q :: L) H := by
  obtain ⟨hd, H1, H2, rfl, hd2, ⟨v, vs, h1⟩, h2⟩ := h
  have h3 : sg G (ob a (.cells (sl s.m s.p s.n s.g v).toArray 240 (0, 0)) :: own 24 1 v vs :: blobs vs s.q :: L) (H1.un H2) := ⟨hd, seps_append.2 ⟨H1, H2, rfl, hd2, h1, h2⟩⟩
  obtain ⟨va, vn, vc, rfl, e1, e2⟩ := h3.sl 1 rfl Rd_own
  have hl := (h3.front 2).blobs.len
  obtain rfl : vn = s.q.length := by omega
  exact ⟨va, vc, vs, hl, e2, h3⟩
theorem sS_shut {G H : Hp} {a : Nat} (s : Ses) {v : Value} {vs : List Value} {L : List Asn} (h : sg G (ob a (.cells (sl s.m s.p s.n s.g v).toArray 240 (0, 0)) :: own 24 1 v vs :: blobs vs s.q :: L) H) : sg G (sS a s :: L) H :=
  h.shut (M := [ob a (.cells (sl s.m s.p s.n s.g v).toArray 240 (0, 0)), own 24 1 v vs, blobs vs s.q]) fun H _ h => ⟨v, vs, h⟩
theorem Clone_ok {G : Hp} {v : Value} {l : List UInt8} (hv : rds G 1 v (bv l)) (hl : l.length ≤ 70368744177664) : Con Try.prog G 102 [v] [] (fun r B => B = [own 5 1 r (bv l)]) := by
  refine Con.intro Try.func102 rfl (Nat.le_of_ble_eq_true (by kernel_rfl)) (by kernel_rfl) Try.results102 ?_
  intro H hH
  obtain ⟨a, n, c, rfl, e1, e2⟩ := hv.slice
  rw [bv_length] at e1
  cases a with
  | none =>
    have hn : l = [] := by
      obtain ⟨_, _, _, h, h1, _, h2⟩ := hv
      cases h
      rcases h2 with h2 | ⟨_, _, h2, _⟩
      · unfold bv at h2; simpa using h2
      · cases h2
    subst hn
    ((try simp only [S, TY, reduceCtorEq, nq0, nq1, nq2, nq3, nq4, iq0, iq1, iq2, iq3, iq4, iq5, iq6, iq7, iq8]); (try (simp (disch := omega) only [W2, Int.cast_ofNat_Int]; (try simp only [S, TY, reduceCtorEq, nq0, nq1, nq2, nq3, nq4, iq0, iq1, iq2, iq3, iq4, iq5, iq6, iq7, iq8]))))
    exact fin_take (B := [_]) (hH.nil_ 5 1) rfl
  | some a =>
    ((try simp only [S, TY, reduceCtorEq, nq0, nq1, nq2, nq3, nq4, iq0, iq1, iq2, iq3, iq4, iq5, iq6, iq7, iq8]); (try (simp (disch := omega) only [W2, Int.cast_ofNat_Int]; (try simp only [S, TY, reduceCtorEq, nq0, nq1, nq2, nq3, nq4, iq0, iq1, iq2, iq3, iq4, iq5, iq6, iq7, iq8]))))
    intro b hb hg
    have h1 := hH.newsl (e := 5) (sz := 1) (n := 0) (xs := bv []) hb hg rfl
    ((try simp only [S, TY, reduceCtorEq, nq0, nq1, nq2, nq3, nq4, iq0, iq1, iq2, iq3, iq4, iq5, iq6, iq7, iq8]); (try (simp (disch := omega) only [W2, Int.cast_ofNat_Int]; (try simp only [S, TY, reduceCtorEq, nq0, nq1, nq2, nq3, nq4, iq0, iq1, iq2, iq3, iq4, iq5, iq6, iq7, iq8]))))
    refine append_sl (show apI Try.prog 24 = some (5, 1, 1) from by kernel_rfl) (show slIs Try.prog 24 = true from by kernel_rfl) h1 (h1.ro hv) (bv_one _) (by simp [bv_length]; omega) fun u H2 h2 => ?_
    ((try simp only [S, TY, reduceCtorEq, nq0, nq1, nq2, nq3, nq4, iq0, iq1, iq2, iq3, iq4, iq5, iq6, iq7, iq8]); (try (simp (disch := omega) only [W2, Int.cast_ofNat_Int]; (try simp only [S, TY, reduceCtorEq, nq0, nq1, nq2, nq3, nq4, iq0, iq1, iq2, iq3, iq4, iq5, iq6, iq7, iq8]))))
    rw [← bv_append, List.nil_append] at h2
    exact fin_take (B := [_]) h2 rfl
theorem New_ok {G : Hp} (m : Int) (h : 1 ≤ m ∧ m ≤ 4294967296) : Con Try.prog G 38 [.int .i64 m] [] (fun r B => ∃ a, r = .tuple #[.pointer (some ⟨a, 0, none⟩), .int .i64 0] ∧ B = [sS a (Ses.new m)]) := by
  refine Con.intro Try.func38 rfl (Nat.le_of_ble_eq_true (by kernel_rfl)) (by kernel_rfl) Try.results38 ?_
  intro H hH
  ((try simp only [S, TY, reduceCtorEq, nq0, nq1, nq2, nq3, nq4, iq0, iq1, iq2, iq3, iq4, iq5, iq6, iq7, iq8]); (try (simp (disch := omega) only [W2, Int.cast_ofNat_Int]; (try simp only [S, TY, reduceCtorEq, nq0, nq1, nq2, nq3, nq4, iq0, iq1, iq2, iq3, iq4, iq5, iq6, iq7, iq8]))))
  refine (upto_ok _ _ _).at_ hH [] _ rfl fun r B H1 hr h1 => ?_
  obtain ⟨rfl, rfl⟩ := hr
  ((try simp only [S, TY, reduceCtorEq, nq0, nq1, nq2, nq3, nq4, iq0, iq1, iq2, iq3, iq4, iq5, iq6, iq7, iq8, h]); (try (simp (disch := omega) only [W2, Int.cast_ofNat_Int]; (try simp only [S, TY, reduceCtorEq, nq0, nq1, nq2, nq3, nq4, iq0, iq1, iq2, iq3, iq4, iq5, iq6, iq7, iq8, h]))))
  intro a ha hg
  have h2 := sS_shut (Ses.new m) (vs := []) (((h1.blob_nil.nil_ 24 1).new ha hg (.cells (sl m 0 1 0 (.slice none 0 0)).toArray 240 (0, 0))))
  ((try simp only [S, TY, reduceCtorEq, nq0, nq1, nq2, nq3, nq4, iq0, iq1, iq2, iq3, iq4, iq5, iq6, iq7, iq8]); (try (simp (disch := omega) only [W2, Int.cast_ofNat_Int]; (try simp only [S, TY, reduceCtorEq, nq0, nq1, nq2, nq3, nq4, iq0, iq1, iq2, iq3, iq4, iq5, iq6, iq7, iq8]))))
  exact fin_take (B := [_]) h2 ⟨a, rfl, rfl⟩
theorem New_no {G : Hp} (m : Int) (h : ¬ (1 ≤ m ∧ m ≤ 4294967296)) : Con Try.prog G 38 [.int .i64 m] [] (fun r B => r = .tuple #[.pointer none, .int .i64 1] ∧ B = []) := by
  refine Con.intro Try.func38 rfl (Nat.le_of_ble_eq_true (by kernel_rfl)) (by kernel_rfl) Try.results38 ?_
  intro H hH
  ((try simp only [S, TY, reduceCtorEq, nq0, nq1, nq2, nq3, nq4, iq0, iq1, iq2, iq3, iq4, iq5, iq6, iq7, iq8]); (try (simp (disch := omega) only [W2, Int.cast_ofNat_Int]; (try simp only [S, TY, reduceCtorEq, nq0, nq1, nq2, nq3, nq4, iq0, iq1, iq2, iq3, iq4, iq5, iq6, iq7, iq8]))))
  refine (upto_ok _ _ _).at_ hH [] _ rfl fun r B H1 hr h1 => ?_
  obtain ⟨rfl, rfl⟩ := hr
  ((try simp only [S, TY, reduceCtorEq, nq0, nq1, nq2, nq3, nq4, iq0, iq1, iq2, iq3, iq4, iq5, iq6, iq7, iq8, h]); (try (simp (disch := omega) only [W2, Int.cast_ofNat_Int]; (try simp only [S, TY, reduceCtorEq, nq0, nq1, nq2, nq3, nq4, iq0, iq1, iq2, iq3, iq4, iq5, iq6, iq7, iq8, h]))))
  exact fin_take (B := []) h1 ⟨rfl, rfl⟩
theorem Len_ok {G : Hp} {a : Nat} {s : Ses} : Con Try.prog G 41 [.pointer (some ⟨a, 0, none⟩)] [sS a s] (fun r B => r = .int .i64 s.q.length ∧ B = [sS a s]) := by
  refine Con.intro Try.func41 rfl (Nat.le_of_ble_eq_true (by kernel_rfl)) (by kernel_rfl) Try.results41 ?_
  intro H hH
  obtain ⟨va, c, vs, e1, e2, h⟩ := sS_open hH
  have c0 := h.c0
  ((try simp only [S, TY, reduceCtorEq, nq0, nq1, nq2, nq3, nq4, iq0, iq1, iq2, iq3, iq4, iq5, iq6, iq7, iq8, c0]); (try (simp (disch := omega) only [W2, Int.cast_ofNat_Int]; (try simp only [S, TY, reduceCtorEq, nq0, nq1, nq2, nq3, nq4, iq0, iq1, iq2, iq3, iq4, iq5, iq6, iq7, iq8, c0]))))
  exact fin_take (B := [_]) (sS_shut s h) ⟨rfl, rfl⟩
theorem Peer_ok {G : Hp} {a : Nat} {s : Ses} : Con Try.prog G 42 [.pointer (some ⟨a, 0, none⟩)] [sS a s] (fun r B => r = .int .i64 s.p ∧ B = [sS a s]) := by
  refine Con.intro Try.func42 rfl (Nat.le_of_ble_eq_true (by kernel_rfl)) (by kernel_rfl) Try.results42 ?_
  intro H hH
  obtain ⟨va, c, vs, e1, e2, h⟩ := sS_open hH
  have c0 := h.c0
  ((try simp only [S, TY, reduceCtorEq, nq0, nq1, nq2, nq3, nq4, iq0, iq1, iq2, iq3, iq4, iq5, iq6, iq7, iq8, c0]); (try (simp (disch := omega) only [W2, Int.cast_ofNat_Int]; (try simp only [S, TY, reduceCtorEq, nq0, nq1, nq2, nq3, nq4, iq0, iq1, iq2, iq3, iq4, iq5, iq6, iq7, iq8, c0]))))
  exact fin_take (B := [_]) (sS_shut s h) ⟨rfl, rfl⟩
theorem Len_nil {G : Hp} : Con Try.prog G 41 [.pointer none] [] (fun r B => r = .int .i64 0 ∧ B = []) := by
  refine Con.intro Try.func41 rfl (Nat.le_of_ble_eq_true (by kernel_rfl)) (by kernel_rfl) Try.results41 ?_
  intro H hH
  ((try simp only [S, TY, reduceCtorEq, nq0, nq1, nq2, nq3, nq4, iq0, iq1, iq2, iq3, iq4, iq5, iq6, iq7, iq8]); (try (simp (disch := omega) only [W2, Int.cast_ofNat_Int]; (try simp only [S, TY, reduceCtorEq, nq0, nq1, nq2, nq3, nq4, iq0, iq1, iq2, iq3, iq4, iq5, iq6, iq7, iq8]))))
  exact fin_take (B := []) hH ⟨rfl, rfl⟩
theorem Peer_nil {G : Hp} : Con Try.prog G 42 [.pointer none] [] (fun r B => r = .int .i64 0 ∧ B = []) := by
  refine Con.intro Try.func42 rfl (Nat.le_of_ble_eq_true (by kernel_rfl)) (by kernel_rfl) Try.results42 ?_
  intro H hH
  ((try simp only [S, TY, reduceCtorEq, nq0, nq1, nq2, nq3, nq4, iq0, iq1, iq2, iq3, iq4, iq5, iq6, iq7, iq8]); (try (simp (disch := omega) only [W2, Int.cast_ofNat_Int]; (try simp only [S, TY, reduceCtorEq, nq0, nq1, nq2, nq3, nq4, iq0, iq1, iq2, iq3, iq4, iq5, iq6, iq7, iq8]))))
  exact fin_take (B := []) hH ⟨rfl, rfl⟩
theorem Push_nil {G : Hp} {v : Value} {l : List UInt8} (hv : rds G 1 v (bv l)) : Con Try.prog G 44 [.pointer none, v] [] (fun r B => r = .int .i64 1 ∧ B = []) := by
  refine Con.intro Try.func44 rfl (Nat.le_of_ble_eq_true (by kernel_rfl)) (by kernel_rfl) Try.results44 ?_
  intro H hH
  ((try simp only [S, TY, reduceCtorEq, nq0, nq1, nq2, nq3, nq4, iq0, iq1, iq2, iq3, iq4, iq5, iq6, iq7, iq8]); (try (simp (disch := omega) only [W2, Int.cast_ofNat_Int]; (try simp only [S, TY, reduceCtorEq, nq0, nq1, nq2, nq3, nq4, iq0, iq1, iq2, iq3, iq4, iq5, iq6, iq7, iq8]))); repeat ((first | (refine cl_drawi 5 D44_5 (List.range 12) (by decide) (by kernel_rfl) ?_; unfold D44_5)); simp only [S, TY, reduceCtorEq, nq0, nq1, nq2, nq3, nq4, iq0, iq1, iq2, iq3, iq4, iq5, iq6, iq7, iq8]; (try (simp (disch := omega) only [W2, Int.cast_ofNat_Int]; (try simp only [S, TY, reduceCtorEq, nq0, nq1, nq2, nq3, nq4, iq0, iq1, iq2, iq3, iq4, iq5, iq6, iq7, iq8])))))
  exact fin_take (B := []) hH ⟨rfl, rfl⟩
theorem Push_ok {G : Hp} {a : Nat} {s : Ses} {v : Value} {l : List UInt8} (hv : rds G 1 v (bv l)) (hw : s.q.length ≤ 64) : Con Try.prog G 44 [.pointer (some ⟨a, 0, none⟩), v] [sS a s] (fun r B => r = .int .i64 (s.push l).2 ∧ B = [sS a (s.push l).1]) := by
  obtain ⟨res, hres⟩ : ∃ r, s.push l = r := ⟨_, rfl⟩
  rw [hres]
  unfold Ses.push at hres
  refine Con.intro Try.func44 rfl (Nat.le_of_ble_eq_true (by kernel_rfl)) (by kernel_rfl) Try.results44 ?_
  intro H hH
  obtain ⟨va, c, vs, e1, e2, h⟩ := sS_open hH
  ((try simp only [S, TY, reduceCtorEq, nq0, nq1, nq2, nq3, nq4, iq0, iq1, iq2, iq3, iq4, iq5, iq6, iq7, iq8]); (try (simp (disch := omega) only [W2, Int.cast_ofNat_Int]; (try simp only [S, TY, reduceCtorEq, nq0, nq1, nq2, nq3, nq4, iq0, iq1, iq2, iq3, iq4, iq5, iq6, iq7, iq8]))); repeat ((first | (refine cl_drawi 5 D44_5 (List.range 12) (by decide) (by kernel_rfl) ?_; unfold D44_5)); simp only [S, TY, reduceCtorEq, nq0, nq1, nq2, nq3, nq4, iq0, iq1, iq2, iq3, iq4, iq5, iq6, iq7, iq8]; (try (simp (disch := omega) only [W2, Int.cast_ofNat_Int]; (try simp only [S, TY, reduceCtorEq, nq0, nq1, nq2, nq3, nq4, iq0, iq1, iq2, iq3, iq4, iq5, iq6, iq7, iq8])))))
  refine (body_ok hv).at_ h [] _ rfl fun r B H1 hr h1 => ?_
  obtain ⟨rfl, rfl⟩ := hr
  simp only [front_eq, fronts_nil, fronts_cons, List.getElem?_cons_zero, List.getElem?_cons_succ, List.eraseIdx_cons_zero, List.eraseIdx_cons_succ, List.cons_append, List.nil_append, putL_cons, putL_nil, List.set_cons_zero, List.set_cons_succ, Nat.reduceAdd] at h1
  by_cases g1 : 1 ≤ l.length ∧ l.length ≤ 1000
  · rw [if_pos g1] at hres
    have c1 := h1.c0
    by_cases g2 : 64 ≤ s.q.length
    · rw [if_pos g2] at hres
      subst hres
      have g2' : (64 : Int) ≤ s.q.length := by omega
      ((try simp only [S, TY, reduceCtorEq, nq0, nq1, nq2, nq3, nq4, iq0, iq1, iq2, iq3, iq4, iq5, iq6, iq7, iq8, g1, c1, g2']); (try (simp (disch := omega) only [W2, Int.cast_ofNat_Int]; (try simp only [S, TY, reduceCtorEq, nq0, nq1, nq2, nq3, nq4, iq0, iq1, iq2, iq3, iq4, iq5, iq6, iq7, iq8, g1, c1, g2']))); repeat ((first | (refine cl_drawi 5 D44_5 (List.range 12) (by decide) (by kernel_rfl) ?_; unfold D44_5)); simp only [S, TY, reduceCtorEq, nq0, nq1, nq2, nq3, nq4, iq0, iq1, iq2, iq3, iq4, iq5, iq6, iq7, iq8, g1, c1, g2']; (try (simp (disch := omega) only [W2, Int.cast_ofNat_Int]; (try simp only [S, TY, reduceCtorEq, nq0, nq1, nq2, nq3, nq4, iq0, iq1, iq2, iq3, iq4, iq5, iq6, iq7, iq8, g1, c1, g2'])))))
      exact fin_take (B := [_]) (sS_shut s h1) ⟨rfl, rfl⟩
    · rw [if_neg g2] at hres
      subst hres
      have g2' : ¬ (64 : Int) ≤ s.q.length := by omega
      ((try simp only [S, TY, reduceCtorEq, nq0, nq1, nq2, nq3, nq4, iq0, iq1, iq2, iq3, iq4, iq5, iq6, iq7, iq8, g1, c1, g2']); (try (simp (disch := omega) only [W2, Int.cast_ofNat_Int]; (try simp only [S, TY, reduceCtorEq, nq0, nq1, nq2, nq3, nq4, iq0, iq1, iq2, iq3, iq4, iq5, iq6, iq7, iq8, g1, c1, g2']))); repeat ((first | (refine cl_drawi 5 D44_5 (List.range 12) (by decide) (by kernel_rfl) ?_; unfold D44_5)); simp only [S, TY, reduceCtorEq, nq0, nq1, nq2, nq3, nq4, iq0, iq1, iq2, iq3, iq4, iq5, iq6, iq7, iq8, g1, c1, g2']; (try (simp (disch := omega) only [W2, Int.cast_ofNat_Int]; (try simp only [S, TY, reduceCtorEq, nq0, nq1, nq2, nq3, nq4, iq0, iq1, iq2, iq3, iq4, iq5, iq6, iq7, iq8, g1, c1, g2'])))))
      refine (Clone_ok hv (by omega)).at_ h1 [] _ rfl fun r B H2 hr h2 => ?_
      subst hr
      obtain ⟨ua, un, uc, rfl, _, _⟩ := h2.sl 0 rfl Rd_own
      simp only [front_eq, fronts_nil, fronts_cons, List.getElem?_cons_zero, List.getElem?_cons_succ, List.eraseIdx_cons_zero, List.eraseIdx_cons_succ, List.cons_append, List.nil_append, putL_cons, putL_nil, List.set_cons_zero, List.set_cons_succ, Nat.reduceAdd] at h2
      have c2 := (h2.front 1).c0
      ((try simp only [S, TY, reduceCtorEq, nq0, nq1, nq2, nq3, nq4, iq0, iq1, iq2, iq3, iq4, iq5, iq6, iq7, iq8, c1, c2]); (try (simp (disch := omega) only [W2, Int.cast_ofNat_Int]; (try simp only [S, TY, reduceCtorEq, nq0, nq1, nq2, nq3, nq4, iq0, iq1, iq2, iq3, iq4, iq5, iq6, iq7, iq8, c1, c2]))); repeat ((first | (refine cl_drawi 5 D44_5 (List.range 12) (by decide) (by kernel_rfl) ?_; unfold D44_5)); simp only [S, TY, reduceCtorEq, nq0, nq1, nq2, nq3, nq4, iq0, iq1, iq2, iq3, iq4, iq5, iq6, iq7, iq8, c1, c2]; (try (simp (disch := omega) only [W2, Int.cast_ofNat_Int]; (try simp only [S, TY, reduceCtorEq, nq0, nq1, nq2, nq3, nq4, iq0, iq1, iq2, iq3, iq4, iq5, iq6, iq7, iq8, c1, c2])))))
      intro b hb hg
      have h3 := h2.newsl (e := 24) (sz := 1) (n := 1) (xs := [.slice ua un uc]) hb hg rfl
      have c3 := (h3.front 2).c0
      ((try simp only [S, TY, reduceCtorEq, nq0, nq1, nq2, nq3, nq4, iq0, iq1, iq2, iq3, iq4, iq5, iq6, iq7, iq8, c1, c2, c3]); (try (simp (disch := omega) only [W2, Int.cast_ofNat_Int]; (try simp only [S, TY, reduceCtorEq, nq0, nq1, nq2, nq3, nq4, iq0, iq1, iq2, iq3, iq4, iq5, iq6, iq7, iq8, c1, c2, c3]))); repeat ((first | (refine cl_drawi 5 D44_5 (List.range 12) (by decide) (by kernel_rfl) ?_; unfold D44_5)); simp only [S, TY, reduceCtorEq, nq0, nq1, nq2, nq3, nq4, iq0, iq1, iq2, iq3, iq4, iq5, iq6, iq7, iq8, c1, c2, c3]; (try (simp (disch := omega) only [W2, Int.cast_ofNat_Int]; (try simp only [S, TY, reduceCtorEq, nq0, nq1, nq2, nq3, nq4, iq0, iq1, iq2, iq3, iq4, iq5, iq6, iq7, iq8, c1, c2, c3])))))
      refine append_sl (show apI Try.prog 115 = some (24, 1, 24) from by kernel_rfl) (show slIs Try.prog 115 = true from by kernel_rfl) (h3.front 3) ((h3.front 3).rdsi 1 rfl Rd_own) (by simp [Value.oneCell']) (by simp; omega) fun w H4 h4 => ?_
      simp only [front_eq, fronts_nil, fronts_cons, List.getElem?_cons_zero, List.getElem?_cons_succ, List.eraseIdx_cons_zero, List.eraseIdx_cons_succ, List.cons_append, List.nil_append, putL_cons, putL_nil, List.set_cons_zero, List.set_cons_succ, Nat.reduceAdd] at h4
      have c4 := (h4.front 3).c0
      obtain ⟨wa, wn, wc, rfl, _, _⟩ := h4.sl 0 rfl Rd_own
      ((try simp only [S, TY, reduceCtorEq, nq0, nq1, nq2, nq3, nq4, iq0, iq1, iq2, iq3, iq4, iq5, iq6, iq7, iq8, c1, c2, c3, c4]); (try (simp (disch := omega) only [W2, Int.cast_ofNat_Int]; (try simp only [S, TY, reduceCtorEq, nq0, nq1, nq2, nq3, nq4, iq0, iq1, iq2, iq3, iq4, iq5, iq6, iq7, iq8, c1, c2, c3, c4]))); repeat ((first | (refine cl_drawi 5 D44_5 (List.range 12) (by decide) (by kernel_rfl) ?_; unfold D44_5)); simp only [S, TY, reduceCtorEq, nq0, nq1, nq2, nq3, nq4, iq0, iq1, iq2, iq3, iq4, iq5, iq6, iq7, iq8, c1, c2, c3, c4]; (try (simp (disch := omega) only [W2, Int.cast_ofNat_Int]; (try simp only [S, TY, reduceCtorEq, nq0, nq1, nq2, nq3, nq4, iq0, iq1, iq2, iq3, iq4, iq5, iq6, iq7, iq8, c1, c2, c3, c4])))))
      refine sg.st (h4.front 3) rfl rfl fun H5 h5 => ?_
      simp only [front_eq, fronts_nil, fronts_cons, List.getElem?_cons_zero, List.getElem?_cons_succ, List.eraseIdx_cons_zero, List.eraseIdx_cons_succ, List.cons_append, List.nil_append, putL_cons, putL_nil, List.set_cons_zero, List.set_cons_succ, Nat.reduceAdd] at h5
      have h6 := ((h5.fronts [3, 3]).blob_push).fronts [1, 1, 0]
      ((try simp only [S, TY, reduceCtorEq, nq0, nq1, nq2, nq3, nq4, iq0, iq1, iq2, iq3, iq4, iq5, iq6, iq7, iq8]); (try (simp (disch := omega) only [W2, Int.cast_ofNat_Int]; (try simp only [S, TY, reduceCtorEq, nq0, nq1, nq2, nq3, nq4, iq0, iq1, iq2, iq3, iq4, iq5, iq6, iq7, iq8]))); repeat ((first | (refine cl_drawi 5 D44_5 (List.range 12) (by decide) (by kernel_rfl) ?_; unfold D44_5)); simp only [S, TY, reduceCtorEq, nq0, nq1, nq2, nq3, nq4, iq0, iq1, iq2, iq3, iq4, iq5, iq6, iq7, iq8]; (try (simp (disch := omega) only [W2, Int.cast_ofNat_Int]; (try simp only [S, TY, reduceCtorEq, nq0, nq1, nq2, nq3, nq4, iq0, iq1, iq2, iq3, iq4, iq5, iq6, iq7, iq8])))))
      exact fin_take (B := [_]) (sS_shut ⟨s.m, s.p, s.n, s.g, s.q ++ [l]⟩ h6) ⟨rfl, rfl⟩
  · rw [if_neg g1] at hres
    subst hres
    ((try simp only [S, TY, reduceCtorEq, nq0, nq1, nq2, nq3, nq4, iq0, iq1, iq2, iq3, iq4, iq5, iq6, iq7, iq8, g1]); (try (simp (disch := omega) only [W2, Int.cast_ofNat_Int]; (try simp only [S, TY, reduceCtorEq, nq0, nq1, nq2, nq3, nq4, iq0, iq1, iq2, iq3, iq4, iq5, iq6, iq7, iq8, g1]))); repeat ((first | (refine cl_drawi 5 D44_5 (List.range 12) (by decide) (by kernel_rfl) ?_; unfold D44_5)); simp only [S, TY, reduceCtorEq, nq0, nq1, nq2, nq3, nq4, iq0, iq1, iq2, iq3, iq4, iq5, iq6, iq7, iq8, g1]; (try (simp (disch := omega) only [W2, Int.cast_ofNat_Int]; (try simp only [S, TY, reduceCtorEq, nq0, nq1, nq2, nq3, nq4, iq0, iq1, iq2, iq3, iq4, iq5, iq6, iq7, iq8, g1])))))
    exact fin_take (B := [_]) (sS_shut s h1) ⟨rfl, rfl⟩
end Go.Proofs.Ytanhmbdcdbcfmaa.SeS
