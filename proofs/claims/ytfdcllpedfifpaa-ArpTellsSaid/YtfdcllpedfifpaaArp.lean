/- Arps: the bytes of one, in the program. -/
import Derived.Test.YtfdcllpedfifpaaWr
set_option linter.unusedVariables false
set_option linter.unusedSimpArgs false
set_option maxRecDepth 10000
set_option maxHeartbeats 2000000
namespace Go.Proofs.Ytfdcllpedfifpaa.Arp
open Go Go.Sl Go.Proofs Go.Proofs.Ytfdcllpedfifpaa.Buf Go.Proofs.Ytfdcllpedfifpaa.BufRd Go.Proofs.Ytfdcllpedfifpaa.BufRe Go.Proofs.Ytfdcllpedfifpaa.BufP Go.Proofs.Ytfdcllpedfifpaa.Wr
theorem TY : abIs Try.prog 144 = true ∧
  abSz Try.prog 144 = 1 ∧
  aggN Try.prog 3 = some none ∧
  aggN Try.prog 5 = some none ∧
  aggN Try.prog 29 = some none ∧
  aggN Try.prog 33 = some none ∧
  aggN Try.prog 47 = some none ∧
  aggN Try.prog 61 = some none ∧
  aggN Try.prog 63 = some (some 5) ∧
  aggN Try.prog 126 = some none ∧
  aggN Try.prog 128 = some (some 2) ∧
  aggN Try.prog 131 = some none ∧
  aggN Try.prog 144 = some (some 4) ∧
  aggN Try.prog 165 = some none ∧
  apI Try.prog 33 = some (5, 1, 1) ∧
  apI Try.prog 165 = some (3, 1, 8) ∧
  arIs Try.prog 144 = true ∧
  arLen Try.prog 144 = 4 ∧
  arSz Try.prog 144 = 1 ∧
  bIs Try.prog 63 = true ∧
  bIs Try.prog 128 = true ∧
  bySl Try.prog 33 = true ∧
  csz Try.prog 3 = some 1 ∧
  csz Try.prog 5 = some 1 ∧
  csz Try.prog 29 = some 1 ∧
  csz Try.prog 33 = some 1 ∧
  csz Try.prog 47 = some 1 ∧
  csz Try.prog 61 = some 1 ∧
  csz Try.prog 63 = some 5 ∧
  csz Try.prog 126 = some 1 ∧
  csz Try.prog 128 = some 2 ∧
  csz Try.prog 131 = some 1 ∧
  csz Try.prog 144 = some 4 ∧
  csz Try.prog 165 = some 1 ∧
  eqF Try.prog 63 = some [.i, .i, .i, .i, .i] ∧
  eqF Try.prog 144 = some [.i, .i, .i, .i] ∧
  fIs Try.prog 63 0 = true ∧
  fIs Try.prog 63 1 = true ∧
  fIs Try.prog 63 2 = true ∧
  fIs Try.prog 63 3 = true ∧
  fIs Try.prog 63 4 = true ∧
  fOff Try.prog 63 0 = 0 ∧
  fOff Try.prog 63 1 = 1 ∧
  fOff Try.prog 63 2 = 2 ∧
  fOff Try.prog 63 3 = 3 ∧
  fOff Try.prog 63 4 = 4 ∧
  fTy Try.prog 63 0 = 3 ∧
  fTy Try.prog 63 1 = 47 ∧
  fTy Try.prog 63 2 = 47 ∧
  fTy Try.prog 63 3 = 61 ∧
  fTy Try.prog 63 4 = 61 ∧
  goes Try.prog 87 = true ∧
  goes Try.prog 88 = true ∧
  goes Try.prog 89 = true ∧
  goes Try.prog 90 = true ∧
  goes Try.prog 92 = true ∧
  inIs Try.prog 3 = some .i64 ∧
  inIs Try.prog 5 = some .u8 ∧
  inIs Try.prog 29 = some .i64 ∧
  inIs Try.prog 47 = some .u64 ∧
  inIs Try.prog 61 = some .u32 ∧
  plcs Try.prog 63 = [(0, 1), (1, 1), (2, 1), (3, 1), (4, 1)] ∧
  plcs Try.prog 128 = [(0, 1), (1, 1)] ∧
  ptIs Try.prog 126 = true ∧
  ptIs Try.prog 131 = true ∧
  slEl Try.prog 33 = 5 ∧
  slEl Try.prog 165 = 3 ∧
  slIs Try.prog 33 = true ∧
  slIs Try.prog 165 = true ∧
  slSz Try.prog 33 = 1 ∧
  slSz Try.prog 165 = 1 ∧
  zcs Try.prog 63 = [.int .i64 0, .int .u64 0, .int .u64 0, .int .u32 0, .int .u32 0] ∧
  zcs Try.prog 128 = [.slice none 0 0, .bool false] ∧
  zcs Try.prog 144 = [.int .i64 0, .int .i64 0, .int .i64 0, .int .i64 0] ∧
  zro Try.prog 3 = some (.int .i64 0) ∧
  zro Try.prog 5 = some (.int .u8 0) ∧
  zro Try.prog 29 = some (.int .i64 0) ∧
  zro Try.prog 33 = some (.slice none 0 0) ∧
  zro Try.prog 47 = some (.int .u64 0) ∧
  zro Try.prog 61 = some (.int .u32 0) ∧
  zro Try.prog 63 = some (.agg #[.int .i64 0, .int .u64 0, .int .u64 0, .int .u32 0, .int .u32 0]) ∧
  zro Try.prog 126 = some (.pointer none) ∧
  zro Try.prog 128 = some (.agg #[.slice none 0 0, .bool false]) ∧
  zro Try.prog 131 = some (.pointer none) ∧
  zro Try.prog 144 = some (.agg #[.int .i64 0, .int .i64 0, .int .i64 0, .int .i64 0]) ∧
  zro Try.prog 165 = some (.slice none 0 0) :=
  ⟨by kernel_rfl, by kernel_rfl, by kernel_rfl, by kernel_rfl, by kernel_rfl, by kernel_rfl, by kernel_rfl, by kernel_rfl, by kernel_rfl, by kernel_rfl, by kernel_rfl, by kernel_rfl, by kernel_rfl, by kernel_rfl, by kernel_rfl, by kernel_rfl, by kernel_rfl, by kernel_rfl, by kernel_rfl, by kernel_rfl, by kernel_rfl, by kernel_rfl, by kernel_rfl, by kernel_rfl, by kernel_rfl, by kernel_rfl, by kernel_rfl, by kernel_rfl, by kernel_rfl, by kernel_rfl, by kernel_rfl, by kernel_rfl, by kernel_rfl, by kernel_rfl, by kernel_rfl, by kernel_rfl, by kernel_rfl, by kernel_rfl, by kernel_rfl, by kernel_rfl, by kernel_rfl, by kernel_rfl, by kernel_rfl, by kernel_rfl, by kernel_rfl, by kernel_rfl, by kernel_rfl, by kernel_rfl, by kernel_rfl, by kernel_rfl, by kernel_rfl, by kernel_rfl, by kernel_rfl, by kernel_rfl, by kernel_rfl, by kernel_rfl, by kernel_rfl, by kernel_rfl, by kernel_rfl, by kernel_rfl, by kernel_rfl, by kernel_rfl, by kernel_rfl, by kernel_rfl, by kernel_rfl, by kernel_rfl, by kernel_rfl, by kernel_rfl, by kernel_rfl, by kernel_rfl, by kernel_rfl, by kernel_rfl, by kernel_rfl, by kernel_rfl, by kernel_rfl, by kernel_rfl, by kernel_rfl, by kernel_rfl, by kernel_rfl, by kernel_rfl, by kernel_rfl, by kernel_rfl, by kernel_rfl, by kernel_rfl, by kernel_rfl, by kernel_rfl⟩
def D43_3 : List Note := Go.Sl.nn [0, 2, 2, 3, 2, 3, 0, 1, 2, 3, 0]
def D43_4 : List Note := Go.Sl.nn [0, 0, 1, 0, 2, 3, 0, 1, 0, 2, 3, 0, 1, 0, 2, 3, 0, 1, 0, 2, 3, 3, 0, 0, 0, 0]
abbrev arl (op sha tha spa tpa : Int) : List Value := [.int .i64 op, .int .u64 sha, .int .u64 tha, .int .u32 spa, .int .u32 tpa]
abbrev arv (op sha tha spa tpa : Int) : Value := .agg (arl op sha tha spa tpa).toArray
def aright (op sha tha : Int) : Bool := decide (sha ≤ 281474976710655 ∧ tha ≤ 281474976710655 ∧ 0 ≤ op ∧ op ≤ 65535)
def arpEnc (op sha tha spa tpa : Int) : List UInt8 := flat 2 [1, 2048] ++ flat 1 [6, 4] ++ flat 2 [op] ++ flat 6 [sha] ++ flat 4 [spa] ++ flat 6 [tha] ++ flat 4 [tpa]
def EncR (op sha tha spa tpa : Int) (r : Value) (B : List Asn) : Prop := if aright op sha tha = true then ∃ u, r = .tuple #[u, .int .i64 0] ∧ B = [own 5 1 u (bv (arpEnc op sha tha spa tpa))] else r = .tuple #[.slice none 0 0, .int .i64 1] ∧ B = []
theorem Encode_ok {G : Hp} (op sha tha spa tpa : Int) (h1 : 0 ≤ sha) (h2 : 0 ≤ tha) (h3 : 0 ≤ spa ∧ spa < 4294967296) (h4 : 0 ≤ tpa ∧ tpa < 4294967296) : Con Try.prog G 43 [arv op sha tha spa tpa] [] (EncR op sha tha spa tpa) := by
  have no : ∀ (L : List Asn) (H : Hp), ¬ (sha ≤ 281474976710655 ∧ tha ≤ 281474976710655 ∧ 0 ≤ op ∧ op ≤ 65535) → sg G L H → fin (EncR op sha tha spa tpa) (.returned (.tuple #[.slice none 0 0, .int .i64 1])) H := by
    intro L H hn h
    exact fin_take (B := []) h (by unfold EncR aright; rw [decide_eq_false hn, if_neg (by decide)]; exact ⟨rfl, rfl⟩)
  have yes : ∀ (u : Value) (L : List Asn) (H : Hp), (sha ≤ 281474976710655 ∧ tha ≤ 281474976710655 ∧ 0 ≤ op ∧ op ≤ 65535) → sg G (own 5 1 u (bv (arpEnc op sha tha spa tpa)) :: L) H → fin (EncR op sha tha spa tpa) (.returned (.tuple #[u, .int .i64 0])) H := by
    intro u L H hn h
    exact fin_take (B := [_]) h (by unfold EncR aright; rw [decide_eq_true hn, if_pos rfl]; exact ⟨u, rfl, rfl⟩)
  generalize EncR op sha tha spa tpa = RR at *
  refine Con.intro Try.func43 rfl (Nat.le_of_ble_eq_true (by kernel_rfl)) (by kernel_rfl) Try.results43 ?_
  intro H h
  ((try simp only [S, TY, reduceCtorEq, Nat.reduceEqDiff, Nat.reduceAdd, Nat.reduceLeDiff, Nat.reduceBEq, Int.reduceBEq, Nat.reduceMul, Int.reduceEq, Int.reduceLT, Int.reduceLE, Int.reduceAdd, Int.reduceSub, Int.reduceMul, Int.reduceToNat, Int.cast_ofNat_Int]); (try (simp (disch := omega) only [W2, Int.cast_ofNat_Int]; (try simp only [S, TY, reduceCtorEq, Nat.reduceEqDiff, Nat.reduceAdd, Nat.reduceLeDiff, Nat.reduceBEq, Int.reduceBEq, Nat.reduceMul, Int.reduceEq, Int.reduceLT, Int.reduceLE, Int.reduceAdd, Int.reduceSub, Int.reduceMul, Int.reduceToNat, Int.cast_ofNat_Int]))); repeat ((first | (refine cl_drawi 3 D43_3 (List.range 11) (by decide) (by kernel_rfl) ?_; unfold D43_3) | (refine cl_drawi 4 D43_4 (List.range 26) (by decide) (by kernel_rfl) ?_; unfold D43_4)); simp only [S, TY, reduceCtorEq, Nat.reduceEqDiff, Nat.reduceAdd, Nat.reduceLeDiff, Nat.reduceBEq, Int.reduceBEq, Nat.reduceMul, Int.reduceEq, Int.reduceLT, Int.reduceLE, Int.reduceAdd, Int.reduceSub, Int.reduceMul, Int.reduceToNat, Int.cast_ofNat_Int]; (try (simp (disch := omega) only [W2, Int.cast_ofNat_Int]; (try simp only [S, TY, reduceCtorEq, Nat.reduceEqDiff, Nat.reduceAdd, Nat.reduceLeDiff, Nat.reduceBEq, Int.reduceBEq, Nat.reduceMul, Int.reduceEq, Int.reduceLT, Int.reduceLE, Int.reduceAdd, Int.reduceSub, Int.reduceMul, Int.reduceToNat, Int.cast_ofNat_Int])))))
  repeat' (((first
      | (((with_reducible show New _ _ _); first | (refine New_ob h (fun b H' h' => ?_); replace h' := newW h'; skip) | (refine New_qob h (fun b H' h' => ?_); replace h' := newW h'; skip)))
      | ((with_reducible show CallsH _ _ 87 _ _ _); first | (refine Con.lend_at [isW _ ⟨_, false⟩] [own 3 1 _ _] h [1, 0] rfl (fun F hF hs => putF1 (seps_own hs 0 rfl).left (by omega) (by omega) (by omega) (by simp only [Int.reduceToNat, Int.reducePow]; omega) (by simp [flat_length])) (fun r B H' hr h' => ?_); obtain ⟨rfl, rfl⟩ := hr; replace h' := (h'.front 1).tail; skip) | (refine Con.lend_at [isW _ ⟨_, false⟩] [own 3 1 _ _] h [1, 0] rfl (fun F hF hs => putF2 (seps_own hs 0 rfl).left (by omega) (by omega) (by omega) (by simp only [Int.reduceToNat, Int.reducePow]; omega) (by omega) (by simp only [Int.reduceToNat, Int.reducePow]; omega) (by simp [flat_length])) (fun r B H' hr h' => ?_); obtain ⟨rfl, rfl⟩ := hr; replace h' := (h'.front 1).tail; skip))
      | ((with_reducible show CallsH _ _ 88 _ _ _); refine (doneF (by simp [flat_length])).at_ h [0] _ rfl (fun r B H' hr h' => ?_); obtain ⟨dv, rfl, rfl⟩ := hr; obtain ⟨da, dn, dc, rfl, _, _⟩ := h'.sl 0 rfl Rd_own; skip)
      | ((with_reducible show fin _ _ _); first | ((refine no _ _ (by omega) h)) | (exact yes _ _ _ (by omega) h))
      | ((with_reducible show New _ _ _); first | (refine New_sl h 1 rfl (fun b H' h' => ?_); skip) | (refine New_qsl h 1 rfl (fun b => rfl) (fun b H' h' => ?_); skip) | (refine New_ob h (fun b H' h' => ?_); skip) | (refine New_qob h (fun b H' h' => ?_); skip))
      | ((with_reducible show St _ _); first | (refine sg.st (h.front 0) rfl rfl (fun H' h' => ?_); skip) | (refine sg.st (h.front 1) rfl rfl (fun H' h' => ?_); skip) | (refine sg.st (h.front 2) rfl rfl (fun H' h' => ?_); skip) | (refine sg.st (h.front 3) rfl rfl (fun H' h' => ?_); skip) | (refine sg.st (h.front 4) rfl rfl (fun H' h' => ?_); skip) | (refine sg.st (h.front 5) rfl rfl (fun H' h' => ?_); skip) | (refine sg.st (h.front 6) rfl rfl (fun H' h' => ?_); skip) | (refine sg.st (h.front 7) rfl rfl (fun H' h' => ?_); skip))
      | ((with_reducible show Gate _ _ _); refine Gate.intro (fun g => ?_) (fun g => ?_) <;> (try subst g))
      ) <;> ((try ((try simp only [front_eq, fronts_nil, fronts_cons, List.getElem?_cons_zero, List.getElem?_cons_succ, List.eraseIdx_cons_zero, List.eraseIdx_cons_succ, List.cons_append, List.nil_append, putL_cons, putL_nil, List.set_cons_zero, List.set_cons_succ, Nat.reduceAdd] at h'); clear h; have h := h'; clear h'; (try have fc := h.ci 0 rfl); (try have fl := h.li 0 rfl); (try have fc := h.ci 1 rfl); (try have fl := h.li 1 rfl); (try have fc := h.ci 2 rfl); (try have fl := h.li 2 rfl); (try have fc := h.ci 3 rfl); (try have fl := h.li 3 rfl); (try have fc := h.ci 4 rfl); (try have fl := h.li 4 rfl); (try have fc := h.ci 5 rfl); (try have fl := h.li 5 rfl); (try have fc := h.ci 6 rfl); (try have fl := h.li 6 rfl); (try have fc := h.ci 7 rfl); (try have fl := h.li 7 rfl))); ((try simp only [S, TY, reduceCtorEq, Nat.reduceEqDiff, Nat.reduceAdd, Nat.reduceLeDiff, Nat.reduceBEq, Int.reduceBEq, Nat.reduceMul, Int.reduceEq, Int.reduceLT, Int.reduceLE, Int.reduceAdd, Int.reduceSub, Int.reduceMul, Int.reduceToNat, Int.cast_ofNat_Int, *]); (try (simp (disch := omega) only [W2, Int.cast_ofNat_Int]; (try simp only [S, TY, reduceCtorEq, Nat.reduceEqDiff, Nat.reduceAdd, Nat.reduceLeDiff, Nat.reduceBEq, Int.reduceBEq, Nat.reduceMul, Int.reduceEq, Int.reduceLT, Int.reduceLE, Int.reduceAdd, Int.reduceSub, Int.reduceMul, Int.reduceToNat, Int.cast_ofNat_Int, *]))); repeat ((first | (refine cl_drawi 3 D43_3 (List.range 11) (by decide) (by kernel_rfl) ?_; unfold D43_3) | (refine cl_drawi 4 D43_4 (List.range 26) (by decide) (by kernel_rfl) ?_; unfold D43_4)); simp only [S, TY, reduceCtorEq, Nat.reduceEqDiff, Nat.reduceAdd, Nat.reduceLeDiff, Nat.reduceBEq, Int.reduceBEq, Nat.reduceMul, Int.reduceEq, Int.reduceLT, Int.reduceLE, Int.reduceAdd, Int.reduceSub, Int.reduceMul, Int.reduceToNat, Int.cast_ofNat_Int, *]; (try (simp (disch := omega) only [W2, Int.cast_ofNat_Int]; (try simp only [S, TY, reduceCtorEq, Nat.reduceEqDiff, Nat.reduceAdd, Nat.reduceLeDiff, Nat.reduceBEq, Int.reduceBEq, Nat.reduceMul, Int.reduceEq, Int.reduceLT, Int.reduceLE, Int.reduceAdd, Int.reduceSub, Int.reduceMul, Int.reduceToNat, Int.cast_ofNat_Int, *]))))))))
def ahd (b : List UInt8) : Prop := b.take 6 = [0, 1, 8, 0, 6, 4]
instance (b : List UInt8) : Decidable (ahd b) := by unfold ahd; infer_instance
/-- What an arp's bytes tell: the op, and the addresses. -/
structure Ad where
  op : Nat
  sha : Nat
  tha : Nat
  spa : Nat
  tpa : Nat
def adec (b : List UInt8) : Ad := ⟨val ((b.drop 6).take 2), val ((b.drop 8).take 6), val ((b.drop 18).take 6), val ((b.drop 14).take 4), val ((b.drop 24).take 4)⟩
abbrev Ad.l (a : Ad) : List Value := arl a.op a.sha a.tha a.spa a.tpa
def DecV (b : List UInt8) : Value := if 28 ≤ b.length ∧ ahd b then .tuple #[.agg (adec b).l.toArray, .int .i64 0] else .tuple #[arv 0 0 0 0 0, .int .i64 2]
theorem val_lt' (l : List UInt8) (k : Nat) : val (l.take k) < 256 ^ k := Nat.lt_of_lt_of_le (val_lt _) (Nat.pow_le_pow_right (by omega) (by simp; omega))
theorem ahd_iff {l : List UInt8} (h : 6 ≤ l.length) : ahd l ↔ (val (l.take 2) = 1 ∧ val ((l.drop 2).take 2) = 2048 ∧ val ((l.drop 4).take 1) = 6 ∧ val ((l.drop 5).take 1) = 4) := by
  match l, h with
  | a :: b :: c :: d :: e :: f :: r, _ =>
    have e0 : ∀ (x y : UInt8), x = y ↔ x.toNat = y.toNat := fun x y => UInt8.toNat_inj.symm
    have ha := a.toNat_lt
    have hb := b.toNat_lt
    have hc := c.toNat_lt
    have hd := d.toNat_lt
    simp [ahd, val, e0]
    omega
theorem wr6 (b : List UInt8) : IntKind.u64.wrap (val (b.take 6) : Nat) = (val (b.take 6) : Nat) := by
  have := val_lt' b 6
  exact wrap_u64_id (by omega) (by omega)
theorem wr4 (b : List UInt8) : IntKind.u32.wrap (val (b.take 4) : Nat) = (val (b.take 4) : Nat) := by
  have := val_lt' b 4
  rw [wrap_u32]; omega
theorem Decode_ok {G : Hp} {v : Value} {l : List UInt8} (hv : rds G 1 v (bv l)) (hl : l.length ≤ 1000000) : Con Try.prog G 46 [v] [] (fun r B => r = DecV l ∧ B = []) := by
  obtain ⟨a, n, c, rfl, e1, e2⟩ := hv.slice
  rw [bv_length] at e1
  by_cases g : 28 ≤ n
  · have hm : (if (28 : Int) < (n : Int) then (28 : Int) else n) = 28 := by split <;> omega
    have hv28 := hv.take g
    rw [Nat.mul_one, ← bv_take] at hv28
    have hc : (28 : Int) ≤ c := by omega
    have key := ahd_iff (l := l) (by omega)
    have h6 := wr6
    have h4 := wr4
    have hd0 : ∀ b : List UInt8, b.length = 0 → R.done ⟨b, false⟩ = 0 := by intro b h; unfold R.done; simp [h]
    refine Con.intro Try.func46 rfl (Nat.le_of_ble_eq_true (by kernel_rfl)) (by kernel_rfl) Try.results46 ?_
    intro H h
    ((try simp only [S, TY, reduceCtorEq, Nat.reduceEqDiff, Nat.reduceAdd, Nat.reduceLeDiff, Nat.reduceBEq, Int.reduceBEq, Nat.reduceMul, Int.reduceEq, Int.reduceLT, Int.reduceLE, Int.reduceAdd, Int.reduceSub, Int.reduceMul, Int.reduceToNat, Int.cast_ofNat_Int, *]); (try (simp (disch := omega) only [W2, Int.cast_ofNat_Int]; (try simp only [S, TY, reduceCtorEq, Nat.reduceEqDiff, Nat.reduceAdd, Nat.reduceLeDiff, Nat.reduceBEq, Int.reduceBEq, Nat.reduceMul, Int.reduceEq, Int.reduceLT, Int.reduceLE, Int.reduceAdd, Int.reduceSub, Int.reduceMul, Int.reduceToNat, Int.cast_ofNat_Int, *]))))
    repeat' (((first
        | ((with_reducible show CallsH _ _ 89 _ _ _); first | (refine (read_ok hv28 (by simp; omega)).at_ h [] _ rfl (fun r B H' hr h' => ?_); obtain ⟨p, rfl, rfl⟩ := hr; skip))
        | ((with_reducible show CallsH _ _ 90 _ _ _); first | (refine (getF (by omega) (by omega) (by simp <;> omega) (by simp <;> omega)).at_ h [0] _ rfl (fun r B H' hr h' => ?_); obtain ⟨rfl, rfl⟩ := hr; skip) | (refine (getF (by omega) (by omega) (by simp <;> omega) (by simp <;> omega)).at_ h [1] _ rfl (fun r B H' hr h' => ?_); obtain ⟨rfl, rfl⟩ := hr; skip) | (refine (getF (by omega) (by omega) (by simp <;> omega) (by simp <;> omega)).at_ h [2] _ rfl (fun r B H' hr h' => ?_); obtain ⟨rfl, rfl⟩ := hr; skip) | (refine (getF (by omega) (by omega) (by simp <;> omega) (by simp <;> omega)).at_ h [3] _ rfl (fun r B H' hr h' => ?_); obtain ⟨rfl, rfl⟩ := hr; skip) | (refine (getF (by omega) (by omega) (by simp <;> omega) (by simp <;> omega)).at_ h [4] _ rfl (fun r B H' hr h' => ?_); obtain ⟨rfl, rfl⟩ := hr; skip) | (refine (getF (by omega) (by omega) (by simp <;> omega) (by simp <;> omega)).at_ h [5] _ rfl (fun r B H' hr h' => ?_); obtain ⟨rfl, rfl⟩ := hr; skip) | (refine (getF (by omega) (by omega) (by simp <;> omega) (by simp <;> omega)).at_ h [6] _ rfl (fun r B H' hr h' => ?_); obtain ⟨rfl, rfl⟩ := hr; skip) | (refine (getF (by omega) (by omega) (by simp <;> omega) (by simp <;> omega)).at_ h [7] _ rfl (fun r B H' hr h' => ?_); obtain ⟨rfl, rfl⟩ := hr; skip))
        | ((with_reducible show CallsH _ _ 92 _ _ _); first | (refine (doneE (by simp <;> omega)).at_ h [0] _ rfl (fun r B H' hr h' => ?_); obtain ⟨rfl, rfl⟩ := hr; skip) | (refine (doneE (by simp <;> omega)).at_ h [1] _ rfl (fun r B H' hr h' => ?_); obtain ⟨rfl, rfl⟩ := hr; skip) | (refine (doneE (by simp <;> omega)).at_ h [2] _ rfl (fun r B H' hr h' => ?_); obtain ⟨rfl, rfl⟩ := hr; skip) | (refine (doneE (by simp <;> omega)).at_ h [3] _ rfl (fun r B H' hr h' => ?_); obtain ⟨rfl, rfl⟩ := hr; skip) | (refine (doneE (by simp <;> omega)).at_ h [4] _ rfl (fun r B H' hr h' => ?_); obtain ⟨rfl, rfl⟩ := hr; skip) | (refine (doneE (by simp <;> omega)).at_ h [5] _ rfl (fun r B H' hr h' => ?_); obtain ⟨rfl, rfl⟩ := hr; skip) | (refine (doneE (by simp <;> omega)).at_ h [6] _ rfl (fun r B H' hr h' => ?_); obtain ⟨rfl, rfl⟩ := hr; skip) | (refine (doneE (by simp <;> omega)).at_ h [7] _ rfl (fun r B H' hr h' => ?_); obtain ⟨rfl, rfl⟩ := hr; skip))
        | ((with_reducible show New _ _ _); first | (refine New_sl h 1 rfl (fun b H' h' => ?_); skip) | (refine New_qsl h 1 rfl (fun b => rfl) (fun b H' h' => ?_); skip) | (refine New_ob h (fun b H' h' => ?_); skip) | (refine New_qob h (fun b H' h' => ?_); skip))
        | ((with_reducible show St _ _); first | (refine sg.st (h.front 0) rfl rfl (fun H' h' => ?_); skip) | (refine sg.st (h.front 1) rfl rfl (fun H' h' => ?_); skip) | (refine sg.st (h.front 2) rfl rfl (fun H' h' => ?_); skip) | (refine sg.st (h.front 3) rfl rfl (fun H' h' => ?_); skip) | (refine sg.st (h.front 4) rfl rfl (fun H' h' => ?_); skip) | (refine sg.st (h.front 5) rfl rfl (fun H' h' => ?_); skip) | (refine sg.st (h.front 6) rfl rfl (fun H' h' => ?_); skip) | (refine sg.st (h.front 7) rfl rfl (fun H' h' => ?_); skip))
        | ((with_reducible show Gate _ _ _); refine Gate.intro (fun g => ?_) (fun g => ?_) <;> (try subst g))
        ) <;> ((try ((try simp only [front_eq, fronts_nil, fronts_cons, List.getElem?_cons_zero, List.getElem?_cons_succ, List.eraseIdx_cons_zero, List.eraseIdx_cons_succ, List.cons_append, List.nil_append, putL_cons, putL_nil, List.set_cons_zero, List.set_cons_succ, Nat.reduceAdd] at h'); clear h; have h := h'; clear h'; (try have fc := h.ci 0 rfl); (try have fl := h.li 0 rfl); (try have fc := h.ci 1 rfl); (try have fl := h.li 1 rfl); (try have fc := h.ci 2 rfl); (try have fl := h.li 2 rfl); (try have fc := h.ci 3 rfl); (try have fl := h.li 3 rfl); (try have fc := h.ci 4 rfl); (try have fl := h.li 4 rfl); (try have fc := h.ci 5 rfl); (try have fl := h.li 5 rfl); (try have fc := h.ci 6 rfl); (try have fl := h.li 6 rfl); (try have fc := h.ci 7 rfl); (try have fl := h.li 7 rfl))); ((try simp only [S, TY, reduceCtorEq, Nat.reduceEqDiff, Nat.reduceAdd, Nat.reduceLeDiff, Nat.reduceBEq, Int.reduceBEq, Nat.reduceMul, Int.reduceEq, Int.reduceLT, Int.reduceLE, Int.reduceAdd, Int.reduceSub, Int.reduceMul, Int.reduceToNat, Int.cast_ofNat_Int, *]); (try (simp (disch := omega) only [W2, Int.cast_ofNat_Int]; (try simp only [S, TY, reduceCtorEq, Nat.reduceEqDiff, Nat.reduceAdd, Nat.reduceLeDiff, Nat.reduceBEq, Int.reduceBEq, Nat.reduceMul, Int.reduceEq, Int.reduceLT, Int.reduceLE, Int.reduceAdd, Int.reduceSub, Int.reduceMul, Int.reduceToNat, Int.cast_ofNat_Int, *])))))))
    · refine fin_take (B := []) h ⟨?_, rfl⟩
      have hn : ¬ ahd l := by
        rw [key]
        rintro ⟨q1, q2, q3, q4⟩
        simp [List.drop_take, List.take_take, List.drop_drop, q1, q2, q3, q4] at g
      unfold DecV
      rw [if_neg (fun q => hn q.2)]
    · refine fin_take (B := []) h ⟨?_, rfl⟩
      have hy : ahd l := by
        rw [key]
        simp [List.drop_take, List.take_take, List.drop_drop] at g
        omega
      unfold DecV
      rw [if_pos ⟨by omega, hy⟩]
      simp [adec, List.drop_take, List.take_take, List.drop_drop]
  · have hm : (if (28 : Int) < (n : Int) then (28 : Int) else n) = n := by split <;> omega
    have hc : (0 : Int) ≤ n ∧ (n : Int) ≤ c := by omega
    have hd : DecV l = .tuple #[arv 0 0 0 0 0, .int .i64 2] := by unfold DecV; rw [if_neg (by omega)]
    refine Con.intro Try.func46 rfl (Nat.le_of_ble_eq_true (by kernel_rfl)) (by kernel_rfl) Try.results46 ?_
    intro H h
    ((try simp only [S, TY, reduceCtorEq, Nat.reduceEqDiff, Nat.reduceAdd, Nat.reduceLeDiff, Nat.reduceBEq, Int.reduceBEq, Nat.reduceMul, Int.reduceEq, Int.reduceLT, Int.reduceLE, Int.reduceAdd, Int.reduceSub, Int.reduceMul, Int.reduceToNat, Int.cast_ofNat_Int, *]); (try (simp (disch := omega) only [W2, Int.cast_ofNat_Int]; (try simp only [S, TY, reduceCtorEq, Nat.reduceEqDiff, Nat.reduceAdd, Nat.reduceLeDiff, Nat.reduceBEq, Int.reduceBEq, Nat.reduceMul, Int.reduceEq, Int.reduceLT, Int.reduceLE, Int.reduceAdd, Int.reduceSub, Int.reduceMul, Int.reduceToNat, Int.cast_ofNat_Int, *]))))
    repeat' (((first
        | ((with_reducible show CallsH _ _ 89 _ _ _); first | (refine (read_ok hv (by omega)).at_ h [] _ rfl (fun r B H' hr h' => ?_); obtain ⟨p, rfl, rfl⟩ := hr; replace h' := isB_of (k := 28) h' (.inr (by simp only; omega)) (by simp only; omega); skip))
        | ((with_reducible show CallsH _ _ 90 _ _ _); first | (refine (getB (by omega) (by omega) (by simp)).at_ h [0] _ rfl (fun r B H' hr h' => ?_); obtain ⟨⟨x, rfl⟩, rfl⟩ := hr; skip) | (refine (getB (by omega) (by omega) (by simp)).at_ h [1] _ rfl (fun r B H' hr h' => ?_); obtain ⟨⟨x, rfl⟩, rfl⟩ := hr; skip) | (refine (getB (by omega) (by omega) (by simp)).at_ h [2] _ rfl (fun r B H' hr h' => ?_); obtain ⟨⟨x, rfl⟩, rfl⟩ := hr; skip) | (refine (getB (by omega) (by omega) (by simp)).at_ h [3] _ rfl (fun r B H' hr h' => ?_); obtain ⟨⟨x, rfl⟩, rfl⟩ := hr; skip) | (refine (getB (by omega) (by omega) (by simp)).at_ h [4] _ rfl (fun r B H' hr h' => ?_); obtain ⟨⟨x, rfl⟩, rfl⟩ := hr; skip) | (refine (getB (by omega) (by omega) (by simp)).at_ h [5] _ rfl (fun r B H' hr h' => ?_); obtain ⟨⟨x, rfl⟩, rfl⟩ := hr; skip) | (refine (getB (by omega) (by omega) (by simp)).at_ h [6] _ rfl (fun r B H' hr h' => ?_); obtain ⟨⟨x, rfl⟩, rfl⟩ := hr; skip) | (refine (getB (by omega) (by omega) (by simp)).at_ h [7] _ rfl (fun r B H' hr h' => ?_); obtain ⟨⟨x, rfl⟩, rfl⟩ := hr; skip))
        | ((with_reducible show CallsH _ _ 92 _ _ _); first | (refine (doneB).at_ h [0] _ rfl (fun r B H' hr h' => ?_); obtain ⟨rfl, rfl⟩ := hr; skip) | (refine (doneB).at_ h [1] _ rfl (fun r B H' hr h' => ?_); obtain ⟨rfl, rfl⟩ := hr; skip) | (refine (doneB).at_ h [2] _ rfl (fun r B H' hr h' => ?_); obtain ⟨rfl, rfl⟩ := hr; skip) | (refine (doneB).at_ h [3] _ rfl (fun r B H' hr h' => ?_); obtain ⟨rfl, rfl⟩ := hr; skip) | (refine (doneB).at_ h [4] _ rfl (fun r B H' hr h' => ?_); obtain ⟨rfl, rfl⟩ := hr; skip) | (refine (doneB).at_ h [5] _ rfl (fun r B H' hr h' => ?_); obtain ⟨rfl, rfl⟩ := hr; skip) | (refine (doneB).at_ h [6] _ rfl (fun r B H' hr h' => ?_); obtain ⟨rfl, rfl⟩ := hr; skip) | (refine (doneB).at_ h [7] _ rfl (fun r B H' hr h' => ?_); obtain ⟨rfl, rfl⟩ := hr; skip))
        | ((with_reducible show fin _ _ _); first | (refine fin_take (B := []) h ⟨?_, rfl⟩; first | rfl | rw [hd]))
        | ((with_reducible show New _ _ _); first | (refine New_sl h 1 rfl (fun b H' h' => ?_); skip) | (refine New_qsl h 1 rfl (fun b => rfl) (fun b H' h' => ?_); skip) | (refine New_ob h (fun b H' h' => ?_); skip) | (refine New_qob h (fun b H' h' => ?_); skip))
        | ((with_reducible show St _ _); first | (refine sg.st (h.front 0) rfl rfl (fun H' h' => ?_); skip) | (refine sg.st (h.front 1) rfl rfl (fun H' h' => ?_); skip) | (refine sg.st (h.front 2) rfl rfl (fun H' h' => ?_); skip) | (refine sg.st (h.front 3) rfl rfl (fun H' h' => ?_); skip) | (refine sg.st (h.front 4) rfl rfl (fun H' h' => ?_); skip) | (refine sg.st (h.front 5) rfl rfl (fun H' h' => ?_); skip) | (refine sg.st (h.front 6) rfl rfl (fun H' h' => ?_); skip) | (refine sg.st (h.front 7) rfl rfl (fun H' h' => ?_); skip))
        | ((with_reducible show Gate _ _ _); refine Gate.intro (fun g => ?_) (fun g => ?_) <;> (try subst g))
        ) <;> ((try ((try simp only [front_eq, fronts_nil, fronts_cons, List.getElem?_cons_zero, List.getElem?_cons_succ, List.eraseIdx_cons_zero, List.eraseIdx_cons_succ, List.cons_append, List.nil_append, putL_cons, putL_nil, List.set_cons_zero, List.set_cons_succ, Nat.reduceAdd] at h'); clear h; have h := h'; clear h'; (try have fc := h.ci 0 rfl); (try have fl := h.li 0 rfl); (try have fc := h.ci 1 rfl); (try have fl := h.li 1 rfl); (try have fc := h.ci 2 rfl); (try have fl := h.li 2 rfl); (try have fc := h.ci 3 rfl); (try have fl := h.li 3 rfl); (try have fc := h.ci 4 rfl); (try have fl := h.li 4 rfl); (try have fc := h.ci 5 rfl); (try have fl := h.li 5 rfl); (try have fc := h.ci 6 rfl); (try have fl := h.li 6 rfl); (try have fc := h.ci 7 rfl); (try have fl := h.li 7 rfl))); ((try simp only [S, TY, reduceCtorEq, Nat.reduceEqDiff, Nat.reduceAdd, Nat.reduceLeDiff, Nat.reduceBEq, Int.reduceBEq, Nat.reduceMul, Int.reduceEq, Int.reduceLT, Int.reduceLE, Int.reduceAdd, Int.reduceSub, Int.reduceMul, Int.reduceToNat, Int.cast_ofNat_Int, *]); (try (simp (disch := omega) only [W2, Int.cast_ofNat_Int]; (try simp only [S, TY, reduceCtorEq, Nat.reduceEqDiff, Nat.reduceAdd, Nat.reduceLeDiff, Nat.reduceBEq, Int.reduceBEq, Nat.reduceMul, Int.reduceEq, Int.reduceLT, Int.reduceLE, Int.reduceAdd, Int.reduceSub, Int.reduceMul, Int.reduceToNat, Int.cast_ofNat_Int, *])))))))
end Go.Proofs.Ytfdcllpedfifpaa.Arp
