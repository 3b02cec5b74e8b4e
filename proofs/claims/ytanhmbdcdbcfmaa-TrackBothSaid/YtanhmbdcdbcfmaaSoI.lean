/- Entries of a table, sorted in place: elements read and stored; insertion. -/
import Derived.Test.YtanhmbdcdbcfmaaRow
import Derived.Test.YtanhmbdcdbcfmaaProg
import Derived.KernelRfl
import Derived.Test.YtanhmbdcdbcfmaaSo
set_option linter.unusedVariables false
set_option linter.unusedSimpArgs false
set_option maxRecDepth 10000
set_option maxHeartbeats 8000000
namespace Go.Proofs.Ytanhmbdcdbcfmaa.SoI
open Nat renaming reduceEqDiff → nq0, reduceAdd → nq1, reduceLeDiff → nq2, reduceBEq → nq3, reduceMul → nq4
open Int renaming reduceBEq → iq0, reduceEq → iq1, reduceLT → iq2, reduceLE → iq3, reduceAdd → iq4, reduceSub → iq5, reduceMul → iq6, reduceToNat → iq7, cast_ofNat_Int → iq8
open Go Go.Sl Go.Proofs Go.Proofs.Ytanhmbdcdbcfmaa.So
theorem TY : aggN Try.prog 3 = some none ∧
  aggN Try.prog 22 = some none ∧
  aggN Try.prog 196 = some (some 11) ∧
  apI Try.prog 22 = some (196, 11, 88) ∧
  bIs Try.prog 196 = true ∧
  csz Try.prog 3 = some 1 ∧
  csz Try.prog 22 = some 1 ∧
  csz Try.prog 196 = some 11 ∧
  eqF Try.prog 196 = some [.i, .i, .i, .i, .i, .i, .i, .i, .i, .i, .i] ∧
  fIs Try.prog 196 0 = true ∧
  fOff Try.prog 196 0 = 0 ∧
  fTy Try.prog 196 0 = 3 ∧
  goes Try.prog 99 = true ∧
  goes Try.prog 170 = true ∧
  inIs Try.prog 3 = some .i64 ∧
  plcs Try.prog 196 = [(0, 1), (1, 1), (2, 1), (3, 1), (4, 1), (5, 1), (6, 1), (7, 4)] ∧
  slEl Try.prog 22 = 196 ∧
  slIs Try.prog 22 = true ∧
  slSz Try.prog 22 = 11 ∧
  zcs Try.prog 196 = [.int .i64 0, .int .i64 0, .int .u64 0, .int .i64 0, .int .i64 0, .int .i64 0, .int .i64 0, .int .i64 0, .int .i64 0, .int .i64 0, .int .i64 0] ∧
  zro Try.prog 3 = some (.int .i64 0) ∧
  zro Try.prog 22 = some (.slice none 0 0) ∧
  zro Try.prog 196 = some (.agg #[.int .i64 0, .int .i64 0, .int .u64 0, .int .i64 0, .int .i64 0, .int .i64 0, .int .i64 0, .int .i64 0, .int .i64 0, .int .i64 0, .int .i64 0]) :=
  ⟨by kernel_rfl, by kernel_rfl, by kernel_rfl, by kernel_rfl, by kernel_rfl, by kernel_rfl, by kernel_rfl, by kernel_rfl, by kernel_rfl, by kernel_rfl, by kernel_rfl, by kernel_rfl, by kernel_rfl, by kernel_rfl, by kernel_rfl, by kernel_rfl, by kernel_rfl, by kernel_rfl, by kernel_rfl, by kernel_rfl, by kernel_rfl, by kernel_rfl, by kernel_rfl⟩
def D190_4 : List Note := Go.Sl.nn [0, 0, 0, 0, 0, 0, 0, 0, 1, 0, 0, 0, 0, 1, 3, 0, 0]
def D190_6 : List Note := Go.Sl.nn [0, 0, 0, 0, 0, 0, 0, 0, 0, 1, 0, 0, 0, 1, 0, 3, 0, 3]
structure En where
  prio : Int
  ins : Int
  mac : Int
  port : Int
  from_ : Int
  upto : Int
  not_ : Int
  kind : Int
  aport : Int
  to : Int
  gen : Int
  deriving DecidableEq
abbrev En.l (x : En) : List Value := [.int .i64 x.prio, .int .i64 x.ins, .int .u64 x.mac, .int .i64 x.port, .int .i64 x.from_, .int .i64 x.upto, .int .i64 x.not_, .int .i64 x.kind, .int .i64 x.aport, .int .i64 x.to, .int .i64 x.gen]
abbrev En.v (x : En) : Value := .agg x.l.toArray
theorem En.len (x : En) : x.l.length = 11 := rfl
def kk (x : En) : Int := -x.prio
/-- An element stored in a slice of the call's own. -/
theorem stE {G H : Hp} {L : List Asn} {t : TypeId} {sz b off n c j : Nat} {α : Type} {enc : α → List Value} (he : ∀ x, (enc x).length = sz) {X Y l : List α} {y : α} (h : sg G (own t sz (.slice (some ⟨b, off, none⟩) n c) (l.flatMap enc) :: L) H)
    (e : l = X ++ y :: Y) (hj : j = X.length) (x : α) (h1 : (enc x).all Value.oneCell' = true) {K : Hp → Prop} (k : ∀ H', sg G (own t sz (.slice (some ⟨b, off, none⟩) n c) ((X ++ x :: Y).flatMap enc) :: L) H' → K H') :
    St (Hp.stl H ⟨b, off + j * sz, none⟩ 0 (enc x)) K := by
  subst e hj
  obtain ⟨hd, H1, H2, rfl, hd2, ho, h2⟩ := h
  rcases ho with ⟨q, _⟩ | ⟨b', off', n', c', cs, fr, q, g1, g2, g3, g4, g5, g6⟩
  · cases q
  · cases q
    have hs : sg G (ob b (.cells cs t fr) :: L) (H1.un H2) := ⟨hd, H1, H2, rfl, hd2, g1, h2⟩
    have hlen : ∀ z, ((X ++ z :: Y).flatMap enc).length = X.length * sz + (sz + Y.length * sz) := by
      intro z
      rw [flat_len he, List.length_append, List.length_cons, Nat.add_mul, Nat.add_mul]; omega
    rw [hlen] at g5 g6
    have hm : n * sz ≤ c * sz := Nat.mul_le_mul_right _ g3
    obtain ⟨H', e1, e2⟩ := hs.stl (off := off + X.length * sz) (enc x) g2 (by simpa using h1) (by rw [he]; omega)
    refine ⟨H', e1, k H' ?_⟩
    refine e2.shut [ob b _] fun H hd hob => ?_
    have hob := seps_ob hob
    refine .inr ⟨b, off, n, c, _, fr, rfl, hob, ?_, g3, ?_, by rw [hlen, g5], fun i hi => ?_⟩
    · unfold cold at g2 ⊢
      rw [putL_size]; exact g2
    · rw [putL_size]; exact g4
    · rw [hlen] at hi
      rw [putL_get _ _ _ _ (by rw [he]; omega), he]
      have g6 := g6 i hi
      simp only [List.flatMap_append, List.flatMap_cons] at g6 ⊢
      rw [List.getElem?_append, flat_len he, List.getElem?_append, he]
      rw [List.getElem?_append, flat_len he, List.getElem?_append, he] at g6
      by_cases q1 : i < X.length * sz
      · rw [if_neg (by omega), g6, if_pos q1, if_pos q1]
      · rw [if_neg q1]
        rw [if_neg q1] at g6
        by_cases q2 : i - X.length * sz < sz
        · rw [if_pos (by omega), if_pos q2]
          congr 1; omega
        · rw [if_neg (by omega), if_neg q2, g6, if_neg q2]
/-- An element read. -/
theorem rdE {R : Hp} {A : Option Addr} {n c sz j : Nat} {α : Type} {enc : α → List Value} (he : ∀ x, (enc x).length = sz) (hs : 0 < sz) {l X Y : List α} {x : α} (h : rds R sz (.slice A n c) (l.flatMap enc)) (e : l = X ++ x :: Y) (hj : j = X.length) :
    ∃ b off, A = some ⟨b, off, none⟩ ∧ j < n ∧ ldl R ⟨b, off + j * sz, none⟩ 0 sz = some (enc x) := by
  obtain ⟨a', n', c', h1, h2, h3, h4⟩ := id h
  cases h1
  rw [flat_len he] at h2
  have hl : j < n := by
    rw [← Nat.eq_of_mul_eq_mul_right hs h2, e, hj]; simp
  obtain ⟨b, off, hl', q1, q2, q3⟩ := h.el he hl hs
  refine ⟨b, off, q1, hl, ?_⟩
  rw [q3]
  subst e hj
  simp
/-- What compares: less than 0 where the first one is ahead. -/
def cmpV (x y : En) : Int := if y.prio < x.prio then -1 else if x.prio < y.prio then 1 else 0
theorem cmpV_lt (x y : En) : cmpV x y < 0 ↔ kk x < kk y := by
  unfold cmpV kk
  split
  · omega
  · split <;> omega
theorem cmp_ok {G : Hp} (a b : Int) : Con Try.prog G 99 [.int .i64 a, .int .i64 b] [] (fun r B => r = .int .i64 (if a < b then -1 else if b < a then 1 else 0) ∧ B = []) := by
  have nan : ∀ x : Int, Con Try.prog G 170 [.int .i64 x] [] (fun r B => r = .bool false ∧ B = []) := by
    intro x
    refine Con.intro Try.func170 rfl (Nat.le_of_ble_eq_true (by kernel_rfl)) (by kernel_rfl) Try.results170 ?_
    intro H h
    ((try simp only [S, TY, reduceCtorEq, nq0, nq1, nq2, nq3, nq4, iq0, iq1, iq2, iq3, iq4, iq5, iq6, iq7, iq8]); (try (simp (disch := omega) only [W2, Int.cast_ofNat_Int]; (try simp only [S, TY, reduceCtorEq, nq0, nq1, nq2, nq3, nq4, iq0, iq1, iq2, iq3, iq4, iq5, iq6, iq7, iq8]))))
    repeat' (((first
        | ((with_reducible show fin _ _ _); first | (exact fin_take (B := []) h ⟨by simp, rfl⟩))
        | ((with_reducible show New _ _ _); first | (refine New_sl h 11 rfl (fun b H' h' => ?_); skip) | (refine New_qsl h 11 rfl (fun b => rfl) (fun b H' h' => ?_); skip) | (refine New_ob h (fun b H' h' => ?_); skip) | (refine New_qob h (fun b H' h' => ?_); skip))
        | ((with_reducible show St _ _); first | (refine sg.st (h.front 0) rfl rfl (fun H' h' => ?_); skip) | (refine sg.st (h.front 1) rfl rfl (fun H' h' => ?_); skip) | (refine sg.st (h.front 2) rfl rfl (fun H' h' => ?_); skip) | (refine sg.st (h.front 3) rfl rfl (fun H' h' => ?_); skip) | (refine sg.st (h.front 4) rfl rfl (fun H' h' => ?_); skip) | (refine sg.st (h.front 5) rfl rfl (fun H' h' => ?_); skip) | (refine sg.st (h.front 6) rfl rfl (fun H' h' => ?_); skip) | (refine sg.st (h.front 7) rfl rfl (fun H' h' => ?_); skip))
        | ((with_reducible show Gate _ _ _); refine Gate.intro (fun g => ?_) (fun g => ?_) <;> (try subst g))
        ) <;> ((try ((try simp only [front_eq, fronts_nil, fronts_cons, List.getElem?_cons_zero, List.getElem?_cons_succ, List.eraseIdx_cons_zero, List.eraseIdx_cons_succ, List.cons_append, List.nil_append, putL_cons, putL_nil, List.set_cons_zero, List.set_cons_succ, Nat.reduceAdd] at h'); clear h; have h := h'; clear h'; (try have fc := h.ci 0 rfl); (try have fl := h.li 0 rfl); (try have fc := h.ci 1 rfl); (try have fl := h.li 1 rfl); (try have fc := h.ci 2 rfl); (try have fl := h.li 2 rfl); (try have fc := h.ci 3 rfl); (try have fl := h.li 3 rfl); (try have fc := h.ci 4 rfl); (try have fl := h.li 4 rfl); (try have fc := h.ci 5 rfl); (try have fl := h.li 5 rfl); (try have fc := h.ci 6 rfl); (try have fl := h.li 6 rfl); (try have fc := h.ci 7 rfl); (try have fl := h.li 7 rfl))); ((try simp only [S, TY, reduceCtorEq, nq0, nq1, nq2, nq3, nq4, iq0, iq1, iq2, iq3, iq4, iq5, iq6, iq7, iq8, *]); (try (simp (disch := omega) only [W2, Int.cast_ofNat_Int]; (try simp only [S, TY, reduceCtorEq, nq0, nq1, nq2, nq3, nq4, iq0, iq1, iq2, iq3, iq4, iq5, iq6, iq7, iq8, *])))))))
  refine Con.intro Try.func99 rfl (Nat.le_of_ble_eq_true (by kernel_rfl)) (by kernel_rfl) Try.results99 ?_
  intro H h
  ((try simp only [S, TY, reduceCtorEq, nq0, nq1, nq2, nq3, nq4, iq0, iq1, iq2, iq3, iq4, iq5, iq6, iq7, iq8]); (try (simp (disch := omega) only [W2, Int.cast_ofNat_Int]; (try simp only [S, TY, reduceCtorEq, nq0, nq1, nq2, nq3, nq4, iq0, iq1, iq2, iq3, iq4, iq5, iq6, iq7, iq8]))))
  repeat' (((first
      | ((with_reducible show CallsH _ _ 170 _ _ _); first | (refine (nan _).at_ h [] _ rfl (fun r B H' hr h' => ?_); obtain ⟨rfl, rfl⟩ := hr; skip))
      | ((with_reducible show fin _ _ _); first | (exact fin_take (B := []) h ⟨by simp [*], rfl⟩))
      | ((with_reducible show New _ _ _); first | (refine New_sl h 11 rfl (fun b H' h' => ?_); skip) | (refine New_qsl h 11 rfl (fun b => rfl) (fun b H' h' => ?_); skip) | (refine New_ob h (fun b H' h' => ?_); skip) | (refine New_qob h (fun b H' h' => ?_); skip))
      | ((with_reducible show St _ _); first | (refine sg.st (h.front 0) rfl rfl (fun H' h' => ?_); skip) | (refine sg.st (h.front 1) rfl rfl (fun H' h' => ?_); skip) | (refine sg.st (h.front 2) rfl rfl (fun H' h' => ?_); skip) | (refine sg.st (h.front 3) rfl rfl (fun H' h' => ?_); skip) | (refine sg.st (h.front 4) rfl rfl (fun H' h' => ?_); skip) | (refine sg.st (h.front 5) rfl rfl (fun H' h' => ?_); skip) | (refine sg.st (h.front 6) rfl rfl (fun H' h' => ?_); skip) | (refine sg.st (h.front 7) rfl rfl (fun H' h' => ?_); skip))
      | ((with_reducible show Gate _ _ _); refine Gate.intro (fun g => ?_) (fun g => ?_) <;> (try subst g))
      ) <;> ((try ((try simp only [front_eq, fronts_nil, fronts_cons, List.getElem?_cons_zero, List.getElem?_cons_succ, List.eraseIdx_cons_zero, List.eraseIdx_cons_succ, List.cons_append, List.nil_append, putL_cons, putL_nil, List.set_cons_zero, List.set_cons_succ, Nat.reduceAdd] at h'); clear h; have h := h'; clear h'; (try have fc := h.ci 0 rfl); (try have fl := h.li 0 rfl); (try have fc := h.ci 1 rfl); (try have fl := h.li 1 rfl); (try have fc := h.ci 2 rfl); (try have fl := h.li 2 rfl); (try have fc := h.ci 3 rfl); (try have fl := h.li 3 rfl); (try have fc := h.ci 4 rfl); (try have fl := h.li 4 rfl); (try have fc := h.ci 5 rfl); (try have fl := h.li 5 rfl); (try have fc := h.ci 6 rfl); (try have fl := h.li 6 rfl); (try have fc := h.ci 7 rfl); (try have fl := h.li 7 rfl))); ((try simp only [S, TY, reduceCtorEq, nq0, nq1, nq2, nq3, nq4, iq0, iq1, iq2, iq3, iq4, iq5, iq6, iq7, iq8, *]); (try (simp (disch := omega) only [W2, Int.cast_ofNat_Int]; (try simp only [S, TY, reduceCtorEq, nq0, nq1, nq2, nq3, nq4, iq0, iq1, iq2, iq3, iq4, iq5, iq6, iq7, iq8, *])))))))
theorem less_ok {G : Hp} (x y : En) : Con Try.prog G 98 [x.v, y.v] [] (fun r B => r = .int .i64 (cmpV x y) ∧ B = []) := by
  obtain ⟨x1, x2, x3, x4, x5, x6, x7, x8, x9, x10, x11⟩ := x
  obtain ⟨y1, y2, y3, y4, y5, y6, y7, y8, y9, y10, y11⟩ := y
  refine Con.intro Try.func98 rfl (Nat.le_of_ble_eq_true (by kernel_rfl)) (by kernel_rfl) Try.results98 ?_
  intro H h
  ((try simp only [S, TY, reduceCtorEq, nq0, nq1, nq2, nq3, nq4, iq0, iq1, iq2, iq3, iq4, iq5, iq6, iq7, iq8]); (try (simp (disch := omega) only [W2, Int.cast_ofNat_Int]; (try simp only [S, TY, reduceCtorEq, nq0, nq1, nq2, nq3, nq4, iq0, iq1, iq2, iq3, iq4, iq5, iq6, iq7, iq8]))))
  repeat' (((first
      | ((with_reducible show CallsH _ _ 99 _ _ _); first | (refine (cmp_ok _ _).at_ h [] _ rfl (fun r B H' hr h' => ?_); obtain ⟨rfl, rfl⟩ := hr; skip))
      | ((with_reducible show fin _ _ _); first | (exact fin_take (B := []) h ⟨rfl, rfl⟩))
      | ((with_reducible show New _ _ _); first | (refine New_sl h 11 rfl (fun b H' h' => ?_); skip) | (refine New_qsl h 11 rfl (fun b => rfl) (fun b H' h' => ?_); skip) | (refine New_ob h (fun b H' h' => ?_); skip) | (refine New_qob h (fun b H' h' => ?_); skip))
      | ((with_reducible show St _ _); first | (refine sg.st (h.front 0) rfl rfl (fun H' h' => ?_); skip) | (refine sg.st (h.front 1) rfl rfl (fun H' h' => ?_); skip) | (refine sg.st (h.front 2) rfl rfl (fun H' h' => ?_); skip) | (refine sg.st (h.front 3) rfl rfl (fun H' h' => ?_); skip) | (refine sg.st (h.front 4) rfl rfl (fun H' h' => ?_); skip) | (refine sg.st (h.front 5) rfl rfl (fun H' h' => ?_); skip) | (refine sg.st (h.front 6) rfl rfl (fun H' h' => ?_); skip) | (refine sg.st (h.front 7) rfl rfl (fun H' h' => ?_); skip))
      | ((with_reducible show Gate _ _ _); refine Gate.intro (fun g => ?_) (fun g => ?_) <;> (try subst g))
      ) <;> ((try ((try simp only [front_eq, fronts_nil, fronts_cons, List.getElem?_cons_zero, List.getElem?_cons_succ, List.eraseIdx_cons_zero, List.eraseIdx_cons_succ, List.cons_append, List.nil_append, putL_cons, putL_nil, List.set_cons_zero, List.set_cons_succ, Nat.reduceAdd] at h'); clear h; have h := h'; clear h'; (try have fc := h.ci 0 rfl); (try have fl := h.li 0 rfl); (try have fc := h.ci 1 rfl); (try have fl := h.li 1 rfl); (try have fc := h.ci 2 rfl); (try have fl := h.li 2 rfl); (try have fc := h.ci 3 rfl); (try have fl := h.li 3 rfl); (try have fc := h.ci 4 rfl); (try have fl := h.li 4 rfl); (try have fc := h.ci 5 rfl); (try have fl := h.li 5 rfl); (try have fc := h.ci 6 rfl); (try have fl := h.li 6 rfl); (try have fc := h.ci 7 rfl); (try have fl := h.li 7 rfl))); ((try simp only [S, TY, reduceCtorEq, nq0, nq1, nq2, nq3, nq4, iq0, iq1, iq2, iq3, iq4, iq5, iq6, iq7, iq8, *]); (try (simp (disch := omega) only [W2, Int.cast_ofNat_Int]; (try simp only [S, TY, reduceCtorEq, nq0, nq1, nq2, nq3, nq4, iq0, iq1, iq2, iq3, iq4, iq5, iq6, iq7, iq8, *])))))))
abbrev lessF : Value := .func (.func 98) #[] #[]
/-- Insertion. -/
theorem ins_ok {G : Hp} {A : Option Addr} {n c a b : Nat} {p s q : List En} (hk : goes Try.prog 98 = true) (ha : p.length = a) (hb : a + s.length = b) (hn : b ≤ 100000) :
    Con Try.prog G 190 [.slice A n c, .int .i64 a, .int .i64 b, lessF] [own 196 11 (.slice A n c) ((p ++ s ++ q).flatMap En.l)]
      (fun r B => ∃ s', Srt kk s' ∧ SE kk s s' ∧ B = [own 196 11 (.slice A n c) ((p ++ s' ++ q).flatMap En.l)]) := by
  refine Con.intro Try.func190 rfl (Nat.le_of_ble_eq_true (by kernel_rfl)) (by kernel_rfl) Try.results190 ?_
  intro H h
  have w0 : IntKind.i64.wrap ((a : Int) + 1) = ((a + 1 : Nat) : Int) := by rw [wrap_id] <;> omega
  ((try simp only [S, TY, reduceCtorEq, nq0, nq1, nq2, nq3, nq4, iq0, iq1, iq2, iq3, iq4, iq5, iq6, iq7, iq8, w0]); (try (simp (disch := omega) only [W2, Int.cast_ofNat_Int]; (try simp only [S, TY, reduceCtorEq, nq0, nq1, nq2, nq3, nq4, iq0, iq1, iq2, iq3, iq4, iq5, iq6, iq7, iq8, w0]))); repeat ((first | (refine cl_drawi 4 D190_4 (List.range 17) (by decide) (by kernel_rfl) ?_; unfold D190_4) | (refine cl_drawi 6 D190_6 ([0, 1, 13, 14, 15, 2, 3, 4, 5, 6, 7, 8, 9, 10, 11, 12, 16, 17]) (by decide) (by kernel_rfl) ?_; unfold D190_6)); simp only [S, TY, reduceCtorEq, nq0, nq1, nq2, nq3, nq4, iq0, iq1, iq2, iq3, iq4, iq5, iq6, iq7, iq8, w0]; (try (simp (disch := omega) only [W2, Int.cast_ofNat_Int]; (try simp only [S, TY, reduceCtorEq, nq0, nq1, nq2, nq3, nq4, iq0, iq1, iq2, iq3, iq4, iq5, iq6, iq7, iq8, w0])))))
  cases s with
  | nil =>
    have w1 : ¬ (((a + 1 : Nat) : Int) < (b : Int)) := by simp only [List.length_nil] at hb; omega
    refine cl_loop (fun i e H => e 8 = .int .i64 (a + 1 : Nat) ∧ e 2 = .int .i64 b ∧ sg G [own 196 11 (.slice A n c) ((p ++ [] ++ q).flatMap En.l)] H) (fun i : Nat => i) 0 ⟨rfl, rfl, h⟩ ?_
    clear h
    rintro i e H ⟨q1, q2, h⟩
    ((try simp only [S, TY, reduceCtorEq, nq0, nq1, nq2, nq3, nq4, iq0, iq1, iq2, iq3, iq4, iq5, iq6, iq7, iq8, q1, q2, w1]); (try (simp (disch := omega) only [W2, Int.cast_ofNat_Int]; (try simp only [S, TY, reduceCtorEq, nq0, nq1, nq2, nq3, nq4, iq0, iq1, iq2, iq3, iq4, iq5, iq6, iq7, iq8, q1, q2, w1]))); repeat ((first | (refine cl_drawi 4 D190_4 (List.range 17) (by decide) (by kernel_rfl) ?_; unfold D190_4) | (refine cl_drawi 6 D190_6 ([0, 1, 13, 14, 15, 2, 3, 4, 5, 6, 7, 8, 9, 10, 11, 12, 16, 17]) (by decide) (by kernel_rfl) ?_; unfold D190_6)); simp only [S, TY, reduceCtorEq, nq0, nq1, nq2, nq3, nq4, iq0, iq1, iq2, iq3, iq4, iq5, iq6, iq7, iq8, q1, q2, w1]; (try (simp (disch := omega) only [W2, Int.cast_ofNat_Int]; (try simp only [S, TY, reduceCtorEq, nq0, nq1, nq2, nq3, nq4, iq0, iq1, iq2, iq3, iq4, iq5, iq6, iq7, iq8, q1, q2, w1])))))
    exact fin_take (B := [_]) h ⟨[], .nil, SE.refl _, rfl⟩
  | cons x0 s0 =>
    simp only [List.length_cons] at hb
    refine cl_loop (fun i e H => (a < i ∧ i ≤ b) ∧ e 0 = .slice A n c ∧ e 1 = .int .i64 a ∧ e 2 = .int .i64 b ∧ e 3 = lessF ∧ e 8 = .int .i64 (i : Nat) ∧ ∃ s1 s2, a + s1.length = i ∧ i + s2.length = b ∧ Srt kk s1 ∧ SE kk (x0 :: s0) (s1 ++ s2) ∧
      sg G [own 196 11 (.slice A n c) ((p ++ (s1 ++ s2) ++ q).flatMap En.l)] H) (fun i : Nat => b - i) (a + 1)
      ⟨by omega, rfl, rfl, rfl, rfl, rfl, [x0], s0, by simp, by omega, List.pairwise_singleton _ _, SE.refl _, h⟩ ?_
    clear h
    rintro i e H ⟨hi, q0, q1, q2, q3, q8, s1, s2, l1, l2, o1, o2, h⟩
    by_cases g1 : (i : Int) < b
    · cases s2 with
      | nil => simp only [List.length_nil] at l2; omega
      | cons x s2 =>
      simp only [List.length_cons] at l2
      ((try simp only [S, TY, reduceCtorEq, nq0, nq1, nq2, nq3, nq4, iq0, iq1, iq2, iq3, iq4, iq5, iq6, iq7, iq8, q0, q1, q2, q3, q8, g1]); (try (simp (disch := omega) only [W2, Int.cast_ofNat_Int]; (try simp only [S, TY, reduceCtorEq, nq0, nq1, nq2, nq3, nq4, iq0, iq1, iq2, iq3, iq4, iq5, iq6, iq7, iq8, q0, q1, q2, q3, q8, g1]))); repeat ((first | (refine cl_drawi 4 D190_4 (List.range 17) (by decide) (by kernel_rfl) ?_; unfold D190_4) | (refine cl_drawi 6 D190_6 ([0, 1, 13, 14, 15, 2, 3, 4, 5, 6, 7, 8, 9, 10, 11, 12, 16, 17]) (by decide) (by kernel_rfl) ?_; unfold D190_6)); simp only [S, TY, reduceCtorEq, nq0, nq1, nq2, nq3, nq4, iq0, iq1, iq2, iq3, iq4, iq5, iq6, iq7, iq8, q0, q1, q2, q3, q8, g1]; (try (simp (disch := omega) only [W2, Int.cast_ofNat_Int]; (try simp only [S, TY, reduceCtorEq, nq0, nq1, nq2, nq3, nq4, iq0, iq1, iq2, iq3, iq4, iq5, iq6, iq7, iq8, q0, q1, q2, q3, q8, g1])))))
      refine cl_loop (fun j e H => (a ≤ j ∧ j ≤ i) ∧ e 0 = .slice A n c ∧ e 1 = .int .i64 a ∧ e 2 = .int .i64 b ∧ e 3 = lessF ∧ e 8 = .int .i64 (i : Nat) ∧ e 9 = .int .i64 (j : Nat) ∧ ∃ u w, a + u.length = j ∧ j + w.length = i ∧ Srt kk (u ++ w) ∧ (∀ y ∈ w, kk x < kk y) ∧ SE kk (u ++ [x] ++ w) (s1 ++ [x]) ∧
        sg G [own 196 11 (.slice A n c) ((p ++ (u ++ [x] ++ w ++ s2) ++ q).flatMap En.l)] H) (fun j : Nat => j) i
        ⟨by omega, q0, q1, q2, q3, q8, rfl, s1, [], by omega, by simp, by simpa using o1, by simp, by simpa using SE.refl _, by simpa [List.append_assoc] using h⟩ ?_
      clear h
      rintro j e H ⟨hj, q0, q1, q2, q3, q8, q9, u, w, l3, l4, o3, o4, o5, h⟩
      by_cases g2 : (a : Int) < j
      · obtain ⟨u, y, rfl⟩ : ∃ u' y, u = u' ++ [y] := ⟨u.dropLast, u.getLast (by rintro rfl; simp at l3; omega), (List.dropLast_concat_getLast _).symm⟩
        simp only [List.length_append, List.length_singleton] at l3
        obtain ⟨bl, off, rfl, hjn, el⟩ := rdE En.len (by decide) (h.rdsi 0 rfl Rd_own) (j := j) (X := p ++ u ++ [y]) (x := x) (Y := w ++ s2 ++ q) (by simp [List.append_assoc]) (by simp; omega)
        obtain ⟨bl', off', z, hjn', el'⟩ := rdE En.len (by decide) (h.rdsi 0 rfl Rd_own) (j := j - 1) (X := p ++ u) (x := y) (Y := x :: w ++ s2 ++ q) (by simp [List.append_assoc]) (by simp; omega)
        cases z
        have w1 : IntKind.i64.wrap ((j : Int) - 1) = ((j - 1 : Nat) : Int) := by rw [wrap_id] <;> omega
        have b1 : (0 : Int) ≤ (j : Nat) ∧ ((j : Nat) : Int) < n := by omega
        have b2 : (0 : Int) ≤ ((j - 1 : Nat) : Int) ∧ ((j - 1 : Nat) : Int) < n := by omega
        ((try simp only [S, TY, reduceCtorEq, nq0, nq1, nq2, nq3, nq4, iq0, iq1, iq2, iq3, iq4, iq5, iq6, iq7, iq8, q0, q1, q2, q3, q8, q9, g2, el, el', w1, b1, b2, hk]); (try (simp (disch := omega) only [W2, Int.cast_ofNat_Int]; (try simp only [S, TY, reduceCtorEq, nq0, nq1, nq2, nq3, nq4, iq0, iq1, iq2, iq3, iq4, iq5, iq6, iq7, iq8, q0, q1, q2, q3, q8, q9, g2, el, el', w1, b1, b2, hk]))); repeat ((first | (refine cl_drawi 4 D190_4 (List.range 17) (by decide) (by kernel_rfl) ?_; unfold D190_4) | (refine cl_drawi 6 D190_6 ([0, 1, 13, 14, 15, 2, 3, 4, 5, 6, 7, 8, 9, 10, 11, 12, 16, 17]) (by decide) (by kernel_rfl) ?_; unfold D190_6)); simp only [S, TY, reduceCtorEq, nq0, nq1, nq2, nq3, nq4, iq0, iq1, iq2, iq3, iq4, iq5, iq6, iq7, iq8, q0, q1, q2, q3, q8, q9, g2, el, el', w1, b1, b2, hk]; (try (simp (disch := omega) only [W2, Int.cast_ofNat_Int]; (try simp only [S, TY, reduceCtorEq, nq0, nq1, nq2, nq3, nq4, iq0, iq1, iq2, iq3, iq4, iq5, iq6, iq7, iq8, q0, q1, q2, q3, q8, q9, g2, el, el', w1, b1, b2, hk])))))
        refine (less_ok x y).at_ h [] _ rfl (fun r B H' hr h' => ?_)
        obtain ⟨rfl, rfl⟩ := hr
        ((try simp only [S, TY, reduceCtorEq, nq0, nq1, nq2, nq3, nq4, iq0, iq1, iq2, iq3, iq4, iq5, iq6, iq7, iq8, el, el']); (try (simp (disch := omega) only [W2, Int.cast_ofNat_Int]; (try simp only [S, TY, reduceCtorEq, nq0, nq1, nq2, nq3, nq4, iq0, iq1, iq2, iq3, iq4, iq5, iq6, iq7, iq8, el, el']))); repeat ((first | (refine cl_drawi 4 D190_4 (List.range 17) (by decide) (by kernel_rfl) ?_; unfold D190_4) | (refine cl_drawi 6 D190_6 ([0, 1, 13, 14, 15, 2, 3, 4, 5, 6, 7, 8, 9, 10, 11, 12, 16, 17]) (by decide) (by kernel_rfl) ?_; unfold D190_6)); simp only [S, TY, reduceCtorEq, nq0, nq1, nq2, nq3, nq4, iq0, iq1, iq2, iq3, iq4, iq5, iq6, iq7, iq8, el, el']; (try (simp (disch := omega) only [W2, Int.cast_ofNat_Int]; (try simp only [S, TY, reduceCtorEq, nq0, nq1, nq2, nq3, nq4, iq0, iq1, iq2, iq3, iq4, iq5, iq6, iq7, iq8, el, el'])))))
        clear el el'
        obtain ⟨_, _, z, _, el⟩ := rdE En.len (by decide) (h'.rdsi 0 rfl Rd_own) (j := j) (X := p ++ u ++ [y]) (x := x) (Y := w ++ s2 ++ q) (by simp [List.append_assoc]) (by simp; omega)
        cases z
        obtain ⟨_, _, z, _, el'⟩ := rdE En.len (by decide) (h'.rdsi 0 rfl Rd_own) (j := j - 1) (X := p ++ u) (x := y) (Y := x :: w ++ s2 ++ q) (by simp [List.append_assoc]) (by simp; omega)
        cases z
        by_cases g3 : cmpV x y < 0
        · ((try simp only [S, TY, reduceCtorEq, nq0, nq1, nq2, nq3, nq4, iq0, iq1, iq2, iq3, iq4, iq5, iq6, iq7, iq8, g3, q0, q1, q2, q3, q8, q9, el, el', w1, b1, b2, hk]); (try (simp (disch := omega) only [W2, Int.cast_ofNat_Int]; (try simp only [S, TY, reduceCtorEq, nq0, nq1, nq2, nq3, nq4, iq0, iq1, iq2, iq3, iq4, iq5, iq6, iq7, iq8, g3, q0, q1, q2, q3, q8, q9, el, el', w1, b1, b2, hk]))); repeat ((first | (refine cl_drawi 4 D190_4 (List.range 17) (by decide) (by kernel_rfl) ?_; unfold D190_4) | (refine cl_drawi 6 D190_6 ([0, 1, 13, 14, 15, 2, 3, 4, 5, 6, 7, 8, 9, 10, 11, 12, 16, 17]) (by decide) (by kernel_rfl) ?_; unfold D190_6)); simp only [S, TY, reduceCtorEq, nq0, nq1, nq2, nq3, nq4, iq0, iq1, iq2, iq3, iq4, iq5, iq6, iq7, iq8, g3, q0, q1, q2, q3, q8, q9, el, el', w1, b1, b2, hk]; (try (simp (disch := omega) only [W2, Int.cast_ofNat_Int]; (try simp only [S, TY, reduceCtorEq, nq0, nq1, nq2, nq3, nq4, iq0, iq1, iq2, iq3, iq4, iq5, iq6, iq7, iq8, g3, q0, q1, q2, q3, q8, q9, el, el', w1, b1, b2, hk])))))
          refine stE En.len h' (X := p ++ u ++ [y]) (y := x) (Y := w ++ s2 ++ q) (by simp [List.append_assoc]) (by simp; omega) y rfl (fun H2 h2 => ?_)
          ((try simp only [S, TY, reduceCtorEq, nq0, nq1, nq2, nq3, nq4, iq0, iq1, iq2, iq3, iq4, iq5, iq6, iq7, iq8, g3, q0, q1, q2, q3, q8, q9, w1, b1, b2, hk]); (try (simp (disch := omega) only [W2, Int.cast_ofNat_Int]; (try simp only [S, TY, reduceCtorEq, nq0, nq1, nq2, nq3, nq4, iq0, iq1, iq2, iq3, iq4, iq5, iq6, iq7, iq8, g3, q0, q1, q2, q3, q8, q9, w1, b1, b2, hk]))); repeat ((first | (refine cl_drawi 4 D190_4 (List.range 17) (by decide) (by kernel_rfl) ?_; unfold D190_4) | (refine cl_drawi 6 D190_6 ([0, 1, 13, 14, 15, 2, 3, 4, 5, 6, 7, 8, 9, 10, 11, 12, 16, 17]) (by decide) (by kernel_rfl) ?_; unfold D190_6)); simp only [S, TY, reduceCtorEq, nq0, nq1, nq2, nq3, nq4, iq0, iq1, iq2, iq3, iq4, iq5, iq6, iq7, iq8, g3, q0, q1, q2, q3, q8, q9, w1, b1, b2, hk]; (try (simp (disch := omega) only [W2, Int.cast_ofNat_Int]; (try simp only [S, TY, reduceCtorEq, nq0, nq1, nq2, nq3, nq4, iq0, iq1, iq2, iq3, iq4, iq5, iq6, iq7, iq8, g3, q0, q1, q2, q3, q8, q9, w1, b1, b2, hk])))))
          refine stE En.len h2 (X := p ++ u) (y := y) (Y := y :: w ++ s2 ++ q) (by simp [List.append_assoc]) (by simp; omega) x rfl (fun H3 h3 => ?_)
          ((try simp only [S, TY, reduceCtorEq, nq0, nq1, nq2, nq3, nq4, iq0, iq1, iq2, iq3, iq4, iq5, iq6, iq7, iq8, g3, q0, q1, q2, q3, q8, q9, w1, b1, b2, hk]); (try (simp (disch := omega) only [W2, Int.cast_ofNat_Int]; (try simp only [S, TY, reduceCtorEq, nq0, nq1, nq2, nq3, nq4, iq0, iq1, iq2, iq3, iq4, iq5, iq6, iq7, iq8, g3, q0, q1, q2, q3, q8, q9, w1, b1, b2, hk]))); repeat ((first | (refine cl_drawi 4 D190_4 (List.range 17) (by decide) (by kernel_rfl) ?_; unfold D190_4) | (refine cl_drawi 6 D190_6 ([0, 1, 13, 14, 15, 2, 3, 4, 5, 6, 7, 8, 9, 10, 11, 12, 16, 17]) (by decide) (by kernel_rfl) ?_; unfold D190_6)); simp only [S, TY, reduceCtorEq, nq0, nq1, nq2, nq3, nq4, iq0, iq1, iq2, iq3, iq4, iq5, iq6, iq7, iq8, g3, q0, q1, q2, q3, q8, q9, w1, b1, b2, hk]; (try (simp (disch := omega) only [W2, Int.cast_ofNat_Int]; (try simp only [S, TY, reduceCtorEq, nq0, nq1, nq2, nq3, nq4, iq0, iq1, iq2, iq3, iq4, iq5, iq6, iq7, iq8, g3, q0, q1, q2, q3, q8, q9, w1, b1, b2, hk])))))
          have g4 := (cmpV_lt x y).1 g3
          refine .go (j - 1) (by omega) ⟨by omega, q0, q1, q2, q3, q8, rfl, u, [y] ++ w, by omega, by simp; omega, by simpa [List.append_assoc] using o3, by simpa using ⟨g4, o4⟩, ins_step o5 g4, by simpa [List.append_assoc] using h3⟩
        · ((try simp only [S, TY, reduceCtorEq, nq0, nq1, nq2, nq3, nq4, iq0, iq1, iq2, iq3, iq4, iq5, iq6, iq7, iq8, g3, q0, q1, q2, q3, q8, q9, el, el', w1, b1, b2, hk]); (try (simp (disch := omega) only [W2, Int.cast_ofNat_Int]; (try simp only [S, TY, reduceCtorEq, nq0, nq1, nq2, nq3, nq4, iq0, iq1, iq2, iq3, iq4, iq5, iq6, iq7, iq8, g3, q0, q1, q2, q3, q8, q9, el, el', w1, b1, b2, hk]))); repeat ((first | (refine cl_drawi 4 D190_4 (List.range 17) (by decide) (by kernel_rfl) ?_; unfold D190_4) | (refine cl_drawi 6 D190_6 ([0, 1, 13, 14, 15, 2, 3, 4, 5, 6, 7, 8, 9, 10, 11, 12, 16, 17]) (by decide) (by kernel_rfl) ?_; unfold D190_6)); simp only [S, TY, reduceCtorEq, nq0, nq1, nq2, nq3, nq4, iq0, iq1, iq2, iq3, iq4, iq5, iq6, iq7, iq8, g3, q0, q1, q2, q3, q8, q9, el, el', w1, b1, b2, hk]; (try (simp (disch := omega) only [W2, Int.cast_ofNat_Int]; (try simp only [S, TY, reduceCtorEq, nq0, nq1, nq2, nq3, nq4, iq0, iq1, iq2, iq3, iq4, iq5, iq6, iq7, iq8, g3, q0, q1, q2, q3, q8, q9, el, el', w1, b1, b2, hk])))))
          refine .go (i + 1) (by omega) ⟨by omega, q0, q1, q2, q3, rfl, u ++ [y] ++ [x] ++ w, s2, by simp; omega, by omega, ins_end o3 o4 (last_le o3.left (by have := mt (cmpV_lt x y).2 g3; omega)), o2.trans ?_, by simpa [List.append_assoc] using h'⟩
          simpa [List.append_assoc] using o5.symm.app (SE.refl s2)
      · ((try simp only [S, TY, reduceCtorEq, nq0, nq1, nq2, nq3, nq4, iq0, iq1, iq2, iq3, iq4, iq5, iq6, iq7, iq8, q0, q1, q2, q3, q8, q9, g2, hk]); (try (simp (disch := omega) only [W2, Int.cast_ofNat_Int]; (try simp only [S, TY, reduceCtorEq, nq0, nq1, nq2, nq3, nq4, iq0, iq1, iq2, iq3, iq4, iq5, iq6, iq7, iq8, q0, q1, q2, q3, q8, q9, g2, hk]))); repeat ((first | (refine cl_drawi 4 D190_4 (List.range 17) (by decide) (by kernel_rfl) ?_; unfold D190_4) | (refine cl_drawi 6 D190_6 ([0, 1, 13, 14, 15, 2, 3, 4, 5, 6, 7, 8, 9, 10, 11, 12, 16, 17]) (by decide) (by kernel_rfl) ?_; unfold D190_6)); simp only [S, TY, reduceCtorEq, nq0, nq1, nq2, nq3, nq4, iq0, iq1, iq2, iq3, iq4, iq5, iq6, iq7, iq8, q0, q1, q2, q3, q8, q9, g2, hk]; (try (simp (disch := omega) only [W2, Int.cast_ofNat_Int]; (try simp only [S, TY, reduceCtorEq, nq0, nq1, nq2, nq3, nq4, iq0, iq1, iq2, iq3, iq4, iq5, iq6, iq7, iq8, q0, q1, q2, q3, q8, q9, g2, hk])))))
        obtain rfl : u = [] := List.length_eq_zero_iff.1 (by omega)
        refine .go (i + 1) (by omega) ⟨by omega, q0, q1, q2, q3, rfl, [] ++ [x] ++ w, s2, by simp; omega, by omega, ins_end o3 o4 (by simp), o2.trans ?_, by simpa [List.append_assoc] using h⟩
        simpa [List.append_assoc] using o5.symm.app (SE.refl s2)
    · ((try simp only [S, TY, reduceCtorEq, nq0, nq1, nq2, nq3, nq4, iq0, iq1, iq2, iq3, iq4, iq5, iq6, iq7, iq8, q0, q1, q2, q3, q8, g1]); (try (simp (disch := omega) only [W2, Int.cast_ofNat_Int]; (try simp only [S, TY, reduceCtorEq, nq0, nq1, nq2, nq3, nq4, iq0, iq1, iq2, iq3, iq4, iq5, iq6, iq7, iq8, q0, q1, q2, q3, q8, g1]))); repeat ((first | (refine cl_drawi 4 D190_4 (List.range 17) (by decide) (by kernel_rfl) ?_; unfold D190_4) | (refine cl_drawi 6 D190_6 ([0, 1, 13, 14, 15, 2, 3, 4, 5, 6, 7, 8, 9, 10, 11, 12, 16, 17]) (by decide) (by kernel_rfl) ?_; unfold D190_6)); simp only [S, TY, reduceCtorEq, nq0, nq1, nq2, nq3, nq4, iq0, iq1, iq2, iq3, iq4, iq5, iq6, iq7, iq8, q0, q1, q2, q3, q8, g1]; (try (simp (disch := omega) only [W2, Int.cast_ofNat_Int]; (try simp only [S, TY, reduceCtorEq, nq0, nq1, nq2, nq3, nq4, iq0, iq1, iq2, iq3, iq4, iq5, iq6, iq7, iq8, q0, q1, q2, q3, q8, g1])))))
      obtain rfl : s2 = [] := List.length_eq_zero_iff.1 (by omega)
      exact fin_take (B := [_]) h ⟨s1, o1, by simpa using o2, by simp⟩
end Go.Proofs.Ytanhmbdcdbcfmaa.SoI
