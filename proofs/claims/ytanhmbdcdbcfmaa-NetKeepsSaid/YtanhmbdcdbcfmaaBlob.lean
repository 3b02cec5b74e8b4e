/- Slices of bytes, many, that are only read. -/
import Derived.Test.YtanhmbdcdbcfmaaRow
set_option linter.unusedVariables false
set_option linter.unusedSimpArgs false
namespace Go.Sl
open Go
/-- Each slice has its bytes. -/
def blobs : List Value → List (List UInt8) → Asn
  | [], [] => fun _ => True
  | v :: vs, b :: bs => fun H => rds H 1 v (bv b) ∧ blobs vs bs H
  | [], _ :: _ => fun _ => False
  | _ :: _, [] => fun _ => False
theorem blobs.mono : ∀ {vs : List Value} {bs : List (List UInt8)} {H K : Hp}, blobs vs bs H → H.le K → blobs vs bs K
  | [], [], _, _, _, _ => trivial
  | _ :: _, _ :: _, _, _, h, k => ⟨h.1.mono k, blobs.mono h.2 k⟩
  | [], _ :: _, _, _, h, _ => h.elim
  | _ :: _, [], _, _, h, _ => h.elim
theorem blobs.len : ∀ {vs : List Value} {bs : List (List UInt8)} {H : Hp}, blobs vs bs H → vs.length = bs.length
  | [], [], _, _ => rfl
  | _ :: _, _ :: _, _, h => by rw [List.length_cons, List.length_cons, blobs.len h.2]
  | [], _ :: _, _, h => h.elim
  | _ :: _, [], _, h => h.elim
theorem blobs.snoc {u : Value} {b : List UInt8} : ∀ {vs : List Value} {bs : List (List UInt8)} {H : Hp}, blobs vs bs H → rds H 1 u (bv b) → blobs (vs ++ [u]) (bs ++ [b]) H
  | [], [], _, _, k => ⟨k, trivial⟩
  | _ :: _, _ :: _, _, h, k => ⟨h.1, blobs.snoc h.2 k⟩
  | [], _ :: _, _, h, _ => h.elim
  | _ :: _, [], _, h, _ => h.elim
theorem blobs.get : ∀ {vs : List Value} {bs : List (List UInt8)} {H : Hp}, blobs vs bs H → ∀ (i : Nat) (h1 : i < vs.length) (h2 : i < bs.length), rds H 1 vs[i] (bv bs[i])
  | _ :: _, _ :: _, _, h, 0, _, _ => h.1
  | _ :: _, _ :: _, _, h, i + 1, h1, h2 => blobs.get h.2 i (Nat.lt_of_succ_lt_succ h1) (Nat.lt_of_succ_lt_succ h2)
  | [], _ :: _, _, h, _, _, _ => h.elim
  | _ :: _, [], _, h, _, _, _ => h.elim
theorem blobs.drop : ∀ {vs : List Value} {bs : List (List UInt8)} {H : Hp}, blobs vs bs H → ∀ n : Nat, blobs (vs.drop n) (bs.drop n) H
  | _, _, _, h, 0 => h
  | [], [], _, _, _ + 1 => trivial
  | _ :: _, _ :: _, _, h, n + 1 => blobs.drop h.2 n
  | [], _ :: _, _, h, _ => h.elim
  | _ :: _, [], _, h, _ => h.elim
theorem blobs.one : ∀ {vs : List Value} {bs : List (List UInt8)} {H : Hp}, blobs vs bs H → ∀ v ∈ vs, v.oneCell' = true
  | [], _, _, _, _, hv => by cases hv
  | _ :: _, _ :: _, _, h, v, hv => by
    rcases List.mem_cons.1 hv with rfl | hv
    · obtain ⟨a, n, c, rfl, -, -⟩ := h.1.slice; rfl
    · exact blobs.one h.2 v hv
  | _ :: _, [], _, h, _, _ => h.elim
theorem sg.blob_nil {G H : Hp} {L : List Asn} (h : sg G L H) : sg G (blobs [] [] :: L) H :=
  ⟨h.1, Hp.emp, H, (Hp.emp_un H).symm, fun b => .inl rfl, trivial, h.2⟩
theorem sg.blob_push {G H : Hp} {L : List Asn} {e : TypeId} {u : Value} {b : List UInt8} {vs : List Value} {bs : List (List UInt8)} (h : sg G (own e 1 u (bv b) :: blobs vs bs :: L) H) :
    sg G (blobs (vs ++ [u]) (bs ++ [b]) :: L) H := by
  obtain ⟨h0, H1, H2, rfl, hd, h1, H3, H4, rfl, hd2, h3, h4⟩ := h
  obtain ⟨d1, d2⟩ := Hp.disj_un.1 hd
  refine ⟨h0, H1.un H3, H4, (Hp.un_assoc _ _ _).symm, Hp.un_disj.2 ⟨d2, hd2⟩, ?_, h4⟩
  exact (h3.mono (un_le_r d1)).snoc ((own_rds0 h1).mono un_le_l)
theorem sg.blob_map {G H : Hp} {L : List Asn} {vs ws : List Value} {bs cs : List (List UInt8)} (h : sg G (blobs vs bs :: L) H) (k : ∀ K : Hp, blobs vs bs K → blobs ws cs K) : sg G (blobs ws cs :: L) H := by
  obtain ⟨h0, H1, H2, rfl, hd, h1, h2⟩ := h
  exact ⟨h0, H1, H2, rfl, hd, k _ h1, h2⟩
theorem sg.blob_drop {G H : Hp} {L : List Asn} {vs : List Value} {bs : List (List UInt8)} (h : sg G (blobs vs bs :: L) H) (n : Nat) : sg G (blobs (vs.drop n) (bs.drop n) :: L) H := h.blob_map fun _ k => k.drop n
theorem sg.blobs {G H : Hp} {L : List Asn} {vs : List Value} {bs : List (List UInt8)} (h : sg G (blobs vs bs :: L) H) : Sl.blobs vs bs (H.un G) := by
  obtain ⟨h0, H1, H2, rfl, hd, h1, h2⟩ := h
  exact (h1.mono un_le_l).mono un_le_l
theorem sg.blob_get {G H : Hp} {L : List Asn} {vs : List Value} {bs : List (List UInt8)} (h : sg G (Sl.blobs vs bs :: L) H) (i : Nat) (h1 : i < vs.length) (h2 : i < bs.length) : Sl.rds (H.un G) 1 vs[i] (bv bs[i]) := h.blobs.get i h1 h2
section
variable {P : Program} {R : Hp} {e : Env} {d : Option Tmp} {ty : TypeId} {p : String} {af : Array Edge} {g : Option (Nat × Bool)}
theorem rd_unOp_xor (t : TypeId) (x : Operand) : rd P R (execOp e.ev ⟨d, .unOp .xor t x, ty, p, af, g⟩) = rUn .xor (e.ev x) := by
  show rd P R (do pure (Next.value (← Op.unary .xor (e.ev x)))) = _
  rw [rd_vl]
  unfold rUn Op.unary
  cases e.ev x with
  | pointer a => cases a <;> rfl
  | _ => rfl
theorem rUn_xor_u32 (n : Int) : rUn .xor (.int .u32 n) = some (.value (.int .u32 (IntKind.u32.wrap (BitVec.ofInt 32 4294967295 ^^^ BitVec.ofInt 32 n).toNat))) := rfl
end
/-- Bits of numbers of 32 bits. -/
theorem w32 {a : Nat} (h : a < 4294967296) : IntKind.u32.wrap (a : Int) = (a : Int) := by rw [wrap_u32]; omega
theorem of32 {a : Nat} (h : a < 4294967296) : (BitVec.ofInt 32 (a : Int)).toNat = a := by
  rw [BitVec.ofInt_natCast, BitVec.toNat_ofNat]; omega
theorem xor32 {a b : Nat} (ha : a < 4294967296) (hb : b < 4294967296) : IntKind.u32.wrap ((BitVec.ofInt 32 (a : Int) ^^^ BitVec.ofInt 32 (b : Int)).toNat : Nat) = ((a ^^^ b : Nat) : Int) := by
  rw [BitVec.toNat_xor, of32 ha, of32 hb, w32]
  exact Nat.xor_lt_two_pow (n := 32) ha hb
theorem and32 {a b : Nat} (ha : a < 4294967296) (hb : b < 4294967296) : IntKind.u32.wrap ((BitVec.ofInt 32 (a : Int) &&& BitVec.ofInt 32 (b : Int)).toNat : Nat) = ((a &&& b : Nat) : Int) := by
  rw [BitVec.toNat_and, of32 ha, of32 hb, w32]
  exact Nat.and_lt_two_pow (n := 32) a hb
/-- A loop, so often at most. -/
def clT (P : Program) (G : Hp) (c : Code) (Q : Post) : Nat → Env → Hp → Prop
  | 0, _, _ => False
  | n + 1, e, H => cl P G c (thenH (clT P G c Q n) Q) e H
theorem clT_go {P : Program} {G : Hp} {c : Code} {Q : Post} {n : Nat} {e : Env} {H : Hp} (h : cl P G c (thenH (clT P G c Q n) Q) e H) : clT P G c Q (n + 1) e H := h
theorem cl_times {P : Program} {G : Hp} {c : Code} {Q : Post} {e : Env} {H : Hp} (n : Nat) (h : clT P G c Q n e H) : cl P G (.loop c) Q e H := by
  refine cl_loop (fun m e H => clT P G c Q m e H) (fun m => m) n h ?_
  intro m e H h
  cases m with
  | zero => exact h.elim
  | succ m =>
    refine den_mono ?_ (show cl P G c (thenH (clT P G c Q m) Q) e H from h)
    intro o e H ho
    cases o with
    | normal => exact .go m (Nat.lt_succ_self m) ho
    | _ => exact ho
/-- Bytes of a constant, as they are made. -/
theorem conv_mark {P : Program} {G H : Hp} {s e : TypeId} {sz nb : Nat} (hs : apI P s = some (e, sz, nb)) (he : inIs P e = some .u8) {b off n c : Nat} {xs : List Value} {L : List Asn} {K : Value → Hp → Prop}
    (hh : sg G (own e 1 (.slice (some ⟨b, off, none⟩) n c) xs :: L) H) (k : ∀ H', sg G (own e 1 (.slice (some ⟨b, off, none⟩) n c) xs :: L) H' → K (.slice (some ⟨b, off, none⟩) n c) H') :
    opConv P G s s (.slice (some ⟨b, off, none⟩) n c) H K := by
  obtain ⟨_, _, h1, -⟩ := apI_spec hs
  have h2 : P.underlying e = some (.int .u8) := by
    unfold inIs at he
    split at he
    · rename_i k' hk; cases he; exact hk
    · cases he
  obtain ⟨hd, H1, H2, rfl, hd2, ho, hl⟩ := hh
  rcases ho with ⟨q, _⟩ | ⟨b', off', len, cap, cs, fr, q, g1, g2, g3, g4, g5, g6⟩
  · cases q
  · cases q
    have gb : (H1.un H2) b = some (.cells cs e fr) := by unfold Hp.un; rw [g1]
    have gG : ((H1.un H2).un G) b = some (.cells cs e fr) := by
      show (match (H1.un H2) b with | some o => some o | none => G b) = _
      rw [gb]
    unfold opConv convert
    rw [wpH_bind, wpH_underlying h1]
    try simp only []
    rw [wpH_bind, wpH_underlying h1]
    try simp only []
    rw [wpH_bind, wpH_underlying h2]
    rw [beq_self_eq_true]
    show wpH P G (do markStringish ⟨b, off, none⟩; pure _) (H1.un H2) K _
    rw [wpH_bind]
    unfold markStringish
    rw [wpH_bind]
    refine ⟨_, gG, ?_⟩
    refine ⟨⟨_, gb⟩, ?_⟩
    refine k _ ⟨upd_disj hd, ?_⟩
    have hq := seps_upd (b := b) (o := .cells cs e fr) (l := L) (H := H1.un H2) ⟨H1, H2, rfl, hd2, g1, hl⟩ (Hp.frz ⟨b, cs.size, none⟩ 1)
    obtain ⟨H3, H4, e1, d1, hb, hl4⟩ := hq
    refine ⟨H3, H4, e1, d1, .inr ⟨b, off, n, c, cs, _, rfl, hb, ?_, g3, g4, g5, g6⟩, hl4⟩
    obtain ⟨lo, hi⟩ := fr
    rcases g2 with g2 | g2
    · simp only at g2
      subst g2
      exact .inr (by simp [Hp.frz])
    · simp only at g2
      right
      by_cases z : lo = hi
      · subst z; simp
      · simp only [Nat.one_ne_zero, if_false, beq_iff_eq, z]
        exact Nat.le_min.2 ⟨g2, Nat.le_refl _⟩
end Go.Sl
