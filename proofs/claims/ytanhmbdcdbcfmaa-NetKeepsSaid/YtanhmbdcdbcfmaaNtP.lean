/- Items under way, in plain Lean. -/
import Derived.Test.YtanhmbdcdbcfmaaBufP
set_option linter.unusedVariables false
set_option linter.unusedSimpArgs false
namespace Go.Proofs.Ytanhmbdcdbcfmaa.NtP
open Go Go.Sl Go.Proofs
structure It where
  k : Int
  c : Int
  b : List UInt8
deriving DecidableEq
def It.ok (x : It) : Bool := decide ((0 ≤ x.k ∧ x.k < 3) ∧ (0 ≤ x.c ∧ x.c < 16) ∧ x.b.length ≤ 2000)
structure Nt where
  l : List It
  room : Int
  lost : Int
def Nt.put1 (n : Nt) (x : It) : Nt × Bool := if x.ok = true ∧ (n.l.length : Int) < n.room then (⟨n.l ++ [x], n.room, n.lost⟩, true) else (⟨n.l, n.room, n.lost + 1⟩, false)
def pstep (a : Nt × Nat) (x : It) : Nt × Nat := ((a.1.put1 x).1, if (a.1.put1 x).2 = true then a.2 + 1 else a.2)
def Nt.puts (n : Nt) (l : List It) : Nt × Nat := l.foldl pstep (n, 0)
def Nt.has (n : Nt) (i : Int) : Prop := 0 ≤ i ∧ i < n.l.length
instance (n : Nt) (i : Int) : Decidable (n.has i) := inferInstanceAs (Decidable (_ ∧ _))
def Nt.drop (n : Nt) (i : Int) : Nt := if n.has i then ⟨n.l.eraseIdx i.toNat, n.room, n.lost⟩ else n
def Nt.dbl (n : Nt) (i : Int) : Nt × Int := if n.has i then (if n.room ≤ n.l.length then (n, 3) else (⟨n.l ++ [n.l.getD i.toNat ⟨0, 0, []⟩], n.room, n.lost⟩, 0)) else (n, 4)
def hit (k c : Int) (x : It) : Bool := decide (x.k = k ∧ x.c = c)
def find (k c : Int) : List It → Int → Int
  | [], _ => -1
  | x :: l, i => if hit k c x = true then i else find k c l (i + 1)
/-- What may stand in a net; what it has lost is bounded by N. -/
structure Nt.wf (N : Int) (n : Nt) : Prop where
  r : 0 ≤ n.room ∧ n.room ≤ 4096
  l : (n.l.length : Int) ≤ n.room
  t : 0 ≤ n.lost ∧ n.lost ≤ N
  b : ∀ x ∈ n.l, x.ok = true
theorem It.len {x : It} (h : x.ok = true) : x.b.length ≤ 2000 := by
  unfold It.ok at h
  simp only [decide_eq_true_eq] at h
  exact h.2.2
theorem wf_new {room : Int} (h : 0 ≤ room ∧ room ≤ 4096) : (Nt.mk [] room 0).wf 0 := ⟨h, by simp; omega, by simp, by simp⟩
theorem Nt.wf.mono {N M : Int} {n : Nt} (h : n.wf N) (hm : N ≤ M) : n.wf M := ⟨h.r, h.l, ⟨h.t.1, by have := h.t.2; omega⟩, h.b⟩
theorem wf_put1 {N : Int} {n : Nt} (h : n.wf N) (x : It) : (n.put1 x).1.wf (N + 1) := by
  unfold Nt.put1
  have h2 := h.t
  split
  · rename_i g
    refine ⟨h.r, by simp; omega, ⟨h2.1, by show n.lost ≤ _; omega⟩, fun y hy => ?_⟩
    rcases List.mem_append.1 hy with hy | hy
    · exact h.b y hy
    · rw [List.mem_singleton] at hy; subst hy
      exact g.1
  · exact ⟨h.r, h.l, ⟨by show 0 ≤ n.lost + 1; omega, by show n.lost + 1 ≤ N + 1; omega⟩, h.b⟩
theorem wf_fold : ∀ (l : List It) {N : Int} (a : Nt × Nat), a.1.wf N → (l.foldl pstep a).1.wf (N + l.length)
  | [], N, a, h => by simpa using h
  | x :: l, N, a, h => by
    have := wf_fold l (pstep a x) (wf_put1 h x)
    rw [List.length_cons]
    refine this.mono (by omega)
theorem wf_puts {N : Int} {n : Nt} (h : n.wf N) (l : List It) : (n.puts l).1.wf (N + l.length) := wf_fold l _ h
theorem wf_drop {N : Int} {n : Nt} (h : n.wf N) (i : Int) : (n.drop i).wf N := by
  unfold Nt.drop
  split
  · have := List.length_eraseIdx_le n.l i.toNat
    exact ⟨h.r, by have := h.l; show ((n.l.eraseIdx i.toNat).length : Int) ≤ n.room; omega, h.t, fun x hx => h.b x (List.mem_of_mem_eraseIdx hx)⟩
  · exact h
theorem wf_dbl {N : Int} {n : Nt} (h : n.wf N) (i : Int) : (n.dbl i).1.wf N := by
  unfold Nt.dbl
  split
  · rename_i g
    split
    · exact h
    · rename_i g2
      refine ⟨h.r, by simp; omega, h.t, fun x hx => ?_⟩
      rcases List.mem_append.1 hx with hx | hx
      · exact h.b x hx
      · rw [List.mem_singleton] at hx; subst hx
        have hi : i.toNat < n.l.length := by have := g.1; have := g.2; omega
        rw [List.getD_eq_getElem?_getD, List.getElem?_eq_getElem hi]
        exact h.b _ (List.getElem_mem hi)
  · exact h
theorem puts_snoc (n : Nt) (l : List It) (x : It) : n.puts (l ++ [x]) = pstep (n.puts l) x := by simp [Nt.puts]
theorem puts_cnt : ∀ (l : List It) (a : Nt × Nat), (l.foldl pstep a).2 ≤ a.2 + l.length
  | [], a => by simp
  | x :: l, a => by
    have := puts_cnt l (pstep a x)
    rw [List.foldl_cons, List.length_cons]
    unfold pstep at this ⊢
    simp only at this ⊢
    split at this <;> simp_all <;> omega
theorem puts_le (n : Nt) (l : List It) : (n.puts l).2 ≤ l.length := by have := puts_cnt l (n, 0); simpa [Nt.puts] using this
end Go.Proofs.Ytanhmbdcdbcfmaa.NtP
