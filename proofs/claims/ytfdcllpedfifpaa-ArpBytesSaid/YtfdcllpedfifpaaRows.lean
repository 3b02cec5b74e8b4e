/-
  No cell of these rows narrows 'for every input' (looked for: loops, veiled, ifaces, maps, wideKeys, modest, calm, conditions, laid).
  DERIVED. THE GIVEN ROWS OF THIS SEAT. 12 by the template 'for every input the law returns true; each argument reads behind the call as it read before'; 0 by the template 'total and deterministic' (their statements: YtfdcllpedfifpaaTotals.lean).
  GIVEN WITH THE SEED: the statements are not yours to turn. If you find one false, say at which input.
  Laid BY PROGRAM, IN A SANDBOX (cutbox-rows.mjs): the forced cells as the released guide's own fill.sh prints them over the translation cb7fbc3eb85799d7… (all of the seat's roots in one cut). By AI agents, Wed Nov 11 2026. No macro, syntax, notation, axiom, sorry.
-/
import Derived.Test.YtfdcllpedfifpaaChecked
import GoSem.Claim
import GoSem.ClaimJoined
import GoSem.ClaimMapViews
import Derived.JoinedTies
import Derived.KernelRfl
namespace Go.Proofs.Ytfdcllpedfifpaa
/- THE CELL 'sum', in the pinned program and in every row, IS THE sha256 OF THE DUMP (.gsa) THAT YtfdcllpedfifpaaProg.lean LOADS. Nothing in Lean hashes anything: it is a label: what it is worth is what the hold of that sum in a sandbox is worth. -/
noncomputable def Try.pinned : Pinned := { name := "ytfdcllpedfifpaa", sum := "cb7fbc3eb85799d7278284c71819a96b13fd170fee402e3f69224e3e6a520c07", checked := Try.checked }
namespace Rows
def none {H : Type} : Left H := { results := [], args := [] }

/-- 'rutterlaw18.NetKeeps': WHATEVER THE INPUT: true; the input reads as it did. -/
def netKeepsSpec : ChangeSpec := { name := "netKeeps", fn := fun _ => fun
  | [d1, d2, d3] => { results := [.lit (.bool true)], args := [d1, d2, d3] }
  | _ => none }
def netKeepsRow : OpenClaim := { program := "ytfdcllpedfifpaa", sum := "cb7fbc3eb85799d7278284c71819a96b13fd170fee402e3f69224e3e6a520c07", func := "rutter/rutterlaw18.NetKeeps", spec := "netKeeps", inPlace := ["sync/atomic.AddInt64", "sync/atomic.LoadInt64"], unfollowed := true, recurses := true, apart := false }
def NetKeepsSaid : Prop := netKeepsRow.holds Try.pinned (OpenSpec.ofChange netKeepsSpec)

/-- ITS FALSE NEIGHBOUR: 'it returns false'. Refute it at one input. -/
def netKeepsWrong : ChangeSpec := { name := "netKeeps", fn := fun _ => fun
  | [d1, d2, d3] => { results := [.lit (.bool false)], args := [d1, d2, d3] }
  | _ => none }
def NetKeepsWrongFalsely : Prop := netKeepsRow.holds Try.pinned (OpenSpec.ofChange netKeepsWrong)

/-- 'rutterlaw02.EtherTells': WHATEVER THE INPUT: true; the input reads as it did. -/
def etherTellsSpec : ChangeSpec := { name := "etherTells", fn := fun _ => fun
  | [d1, d2, d3] => { results := [.lit (.bool true)], args := [d1, d2, d3] }
  | _ => none }
def etherTellsRow : OpenClaim := { program := "ytfdcllpedfifpaa", sum := "cb7fbc3eb85799d7278284c71819a96b13fd170fee402e3f69224e3e6a520c07", func := "rutter/rutterlaw02.EtherTells", spec := "etherTells", apart := false }
def EtherTellsSaid : Prop := etherTellsRow.holds Try.pinned (OpenSpec.ofChange etherTellsSpec)

/-- ITS FALSE NEIGHBOUR: 'it returns false'. Refute it at one input. -/
def etherTellsWrong : ChangeSpec := { name := "etherTells", fn := fun _ => fun
  | [d1, d2, d3] => { results := [.lit (.bool false)], args := [d1, d2, d3] }
  | _ => none }
def EtherTellsWrongFalsely : Prop := etherTellsRow.holds Try.pinned (OpenSpec.ofChange etherTellsWrong)

/-- 'rutterlaw02.EtherBytes': WHATEVER THE INPUT: true; the input reads as it did. -/
def etherBytesSpec : ChangeSpec := { name := "etherBytes", fn := fun _ => fun
  | [d] => { results := [.lit (.bool true)], args := [d] }
  | _ => none }
def etherBytesRow : OpenClaim := { program := "ytfdcllpedfifpaa", sum := "cb7fbc3eb85799d7278284c71819a96b13fd170fee402e3f69224e3e6a520c07", func := "rutter/rutterlaw02.EtherBytes", spec := "etherBytes", apart := false }
def EtherBytesSaid : Prop := etherBytesRow.holds Try.pinned (OpenSpec.ofChange etherBytesSpec)

/-- ITS FALSE NEIGHBOUR: 'it returns false'. Refute it at one input. -/
def etherBytesWrong : ChangeSpec := { name := "etherBytes", fn := fun _ => fun
  | [d] => { results := [.lit (.bool false)], args := [d] }
  | _ => none }
def EtherBytesWrongFalsely : Prop := etherBytesRow.holds Try.pinned (OpenSpec.ofChange etherBytesWrong)

/-- 'rutterlaw03.ArpTells': WHATEVER THE INPUT: true; the input reads as it did. -/
def arpTellsSpec : ChangeSpec := { name := "arpTells", fn := fun _ => fun
  | [d1, d2, d3] => { results := [.lit (.bool true)], args := [d1, d2, d3] }
  | _ => none }
def arpTellsRow : OpenClaim := { program := "ytfdcllpedfifpaa", sum := "cb7fbc3eb85799d7278284c71819a96b13fd170fee402e3f69224e3e6a520c07", func := "rutter/rutterlaw03.ArpTells", spec := "arpTells", unfollowed := true, recurses := true, apart := false }
def ArpTellsSaid : Prop := arpTellsRow.holds Try.pinned (OpenSpec.ofChange arpTellsSpec)

/-- ITS FALSE NEIGHBOUR: 'it returns false'. Refute it at one input. -/
def arpTellsWrong : ChangeSpec := { name := "arpTells", fn := fun _ => fun
  | [d1, d2, d3] => { results := [.lit (.bool false)], args := [d1, d2, d3] }
  | _ => none }
def ArpTellsWrongFalsely : Prop := arpTellsRow.holds Try.pinned (OpenSpec.ofChange arpTellsWrong)

/-- 'rutterlaw03.ArpBytes': WHATEVER THE INPUT: true; the input reads as it did. -/
def arpBytesSpec : ChangeSpec := { name := "arpBytes", fn := fun _ => fun
  | [d] => { results := [.lit (.bool true)], args := [d] }
  | _ => none }
def arpBytesRow : OpenClaim := { program := "ytfdcllpedfifpaa", sum := "cb7fbc3eb85799d7278284c71819a96b13fd170fee402e3f69224e3e6a520c07", func := "rutter/rutterlaw03.ArpBytes", spec := "arpBytes", unfollowed := true, recurses := true, apart := false }
def ArpBytesSaid : Prop := arpBytesRow.holds Try.pinned (OpenSpec.ofChange arpBytesSpec)

/-- ITS FALSE NEIGHBOUR: 'it returns false'. Refute it at one input. -/
def arpBytesWrong : ChangeSpec := { name := "arpBytes", fn := fun _ => fun
  | [d] => { results := [.lit (.bool false)], args := [d] }
  | _ => none }
def ArpBytesWrongFalsely : Prop := arpBytesRow.holds Try.pinned (OpenSpec.ofChange arpBytesWrong)

/-- 'rutterlaw04.InetTells': WHATEVER THE INPUT: true; the input reads as it did. -/
def inetTellsSpec : ChangeSpec := { name := "inetTells", fn := fun _ => fun
  | [d1, d2] => { results := [.lit (.bool true)], args := [d1, d2] }
  | _ => none }
def inetTellsRow : OpenClaim := { program := "ytfdcllpedfifpaa", sum := "cb7fbc3eb85799d7278284c71819a96b13fd170fee402e3f69224e3e6a520c07", func := "rutter/rutterlaw04.InetTells", spec := "inetTells", apart := false }
def InetTellsSaid : Prop := inetTellsRow.holds Try.pinned (OpenSpec.ofChange inetTellsSpec)

/-- ITS FALSE NEIGHBOUR: 'it returns false'. Refute it at one input. -/
def inetTellsWrong : ChangeSpec := { name := "inetTells", fn := fun _ => fun
  | [d1, d2] => { results := [.lit (.bool false)], args := [d1, d2] }
  | _ => none }
def InetTellsWrongFalsely : Prop := inetTellsRow.holds Try.pinned (OpenSpec.ofChange inetTellsWrong)

/-- 'rutterlaw04.InetBytes': WHATEVER THE INPUT: true; the input reads as it did. -/
def inetBytesSpec : ChangeSpec := { name := "inetBytes", fn := fun _ => fun
  | [d] => { results := [.lit (.bool true)], args := [d] }
  | _ => none }
def inetBytesRow : OpenClaim := { program := "ytfdcllpedfifpaa", sum := "cb7fbc3eb85799d7278284c71819a96b13fd170fee402e3f69224e3e6a520c07", func := "rutter/rutterlaw04.InetBytes", spec := "inetBytes", apart := false }
def InetBytesSaid : Prop := inetBytesRow.holds Try.pinned (OpenSpec.ofChange inetBytesSpec)

/-- ITS FALSE NEIGHBOUR: 'it returns false'. Refute it at one input. -/
def inetBytesWrong : ChangeSpec := { name := "inetBytes", fn := fun _ => fun
  | [d] => { results := [.lit (.bool false)], args := [d] }
  | _ => none }
def InetBytesWrongFalsely : Prop := inetBytesRow.holds Try.pinned (OpenSpec.ofChange inetBytesWrong)

/-- 'rutterlaw09.PhaseTells': WHATEVER THE INPUT: true; the input reads as it did. -/
def phaseTellsSpec : ChangeSpec := { name := "phaseTells", fn := fun _ => fun
  | [d1, d2, d3] => { results := [.lit (.bool true)], args := [d1, d2, d3] }
  | _ => none }
def phaseTellsRow : OpenClaim := { program := "ytfdcllpedfifpaa", sum := "cb7fbc3eb85799d7278284c71819a96b13fd170fee402e3f69224e3e6a520c07", func := "rutter/rutterlaw09.PhaseTells", spec := "phaseTells", unfollowed := true, recurses := true, apart := false }
def PhaseTellsSaid : Prop := phaseTellsRow.holds Try.pinned (OpenSpec.ofChange phaseTellsSpec)

/-- ITS FALSE NEIGHBOUR: 'it returns false'. Refute it at one input. -/
def phaseTellsWrong : ChangeSpec := { name := "phaseTells", fn := fun _ => fun
  | [d1, d2, d3] => { results := [.lit (.bool false)], args := [d1, d2, d3] }
  | _ => none }
def PhaseTellsWrongFalsely : Prop := phaseTellsRow.holds Try.pinned (OpenSpec.ofChange phaseTellsWrong)

/-- 'rutterlaw09.PhaseOwner': WHATEVER THE INPUT: true; the input reads as it did. -/
def phaseOwnerSpec : ChangeSpec := { name := "phaseOwner", fn := fun _ => fun
  | [d1, d2] => { results := [.lit (.bool true)], args := [d1, d2] }
  | _ => none }
def phaseOwnerRow : OpenClaim := { program := "ytfdcllpedfifpaa", sum := "cb7fbc3eb85799d7278284c71819a96b13fd170fee402e3f69224e3e6a520c07", func := "rutter/rutterlaw09.PhaseOwner", spec := "phaseOwner", unfollowed := true, recurses := true, apart := false }
def PhaseOwnerSaid : Prop := phaseOwnerRow.holds Try.pinned (OpenSpec.ofChange phaseOwnerSpec)

/-- ITS FALSE NEIGHBOUR: 'it returns false'. Refute it at one input. -/
def phaseOwnerWrong : ChangeSpec := { name := "phaseOwner", fn := fun _ => fun
  | [d1, d2] => { results := [.lit (.bool false)], args := [d1, d2] }
  | _ => none }
def PhaseOwnerWrongFalsely : Prop := phaseOwnerRow.holds Try.pinned (OpenSpec.ofChange phaseOwnerWrong)

/-- 'rutterlaw05.TunnelTells': WHATEVER THE INPUT: true; the input reads as it did. -/
def tunnelTellsSpec : ChangeSpec := { name := "tunnelTells", fn := fun _ => fun
  | [d1, d2, d3] => { results := [.lit (.bool true)], args := [d1, d2, d3] }
  | _ => none }
def tunnelTellsRow : OpenClaim := { program := "ytfdcllpedfifpaa", sum := "cb7fbc3eb85799d7278284c71819a96b13fd170fee402e3f69224e3e6a520c07", func := "rutter/rutterlaw05.TunnelTells", spec := "tunnelTells", apart := false }
def TunnelTellsSaid : Prop := tunnelTellsRow.holds Try.pinned (OpenSpec.ofChange tunnelTellsSpec)

/-- ITS FALSE NEIGHBOUR: 'it returns false'. Refute it at one input. -/
def tunnelTellsWrong : ChangeSpec := { name := "tunnelTells", fn := fun _ => fun
  | [d1, d2, d3] => { results := [.lit (.bool false)], args := [d1, d2, d3] }
  | _ => none }
def TunnelTellsWrongFalsely : Prop := tunnelTellsRow.holds Try.pinned (OpenSpec.ofChange tunnelTellsWrong)

/-- 'rutterlaw05.TunnelBytes': WHATEVER THE INPUT: true; the input reads as it did. -/
def tunnelBytesSpec : ChangeSpec := { name := "tunnelBytes", fn := fun _ => fun
  | [d] => { results := [.lit (.bool true)], args := [d] }
  | _ => none }
def tunnelBytesRow : OpenClaim := { program := "ytfdcllpedfifpaa", sum := "cb7fbc3eb85799d7278284c71819a96b13fd170fee402e3f69224e3e6a520c07", func := "rutter/rutterlaw05.TunnelBytes", spec := "tunnelBytes", apart := false }
def TunnelBytesSaid : Prop := tunnelBytesRow.holds Try.pinned (OpenSpec.ofChange tunnelBytesSpec)

/-- ITS FALSE NEIGHBOUR: 'it returns false'. Refute it at one input. -/
def tunnelBytesWrong : ChangeSpec := { name := "tunnelBytes", fn := fun _ => fun
  | [d] => { results := [.lit (.bool false)], args := [d] }
  | _ => none }
def TunnelBytesWrongFalsely : Prop := tunnelBytesRow.holds Try.pinned (OpenSpec.ofChange tunnelBytesWrong)

/-- 'rutterlaw05.TunnelNever': WHATEVER THE INPUT: true; the input reads as it did. -/
def tunnelNeverSpec : ChangeSpec := { name := "tunnelNever", fn := fun _ => fun
  | [d1, d2, d3] => { results := [.lit (.bool true)], args := [d1, d2, d3] }
  | _ => none }
def tunnelNeverRow : OpenClaim := { program := "ytfdcllpedfifpaa", sum := "cb7fbc3eb85799d7278284c71819a96b13fd170fee402e3f69224e3e6a520c07", func := "rutter/rutterlaw05.TunnelNever", spec := "tunnelNever", apart := false }
def TunnelNeverSaid : Prop := tunnelNeverRow.holds Try.pinned (OpenSpec.ofChange tunnelNeverSpec)

/-- ITS FALSE NEIGHBOUR: 'it returns false'. Refute it at one input. -/
def tunnelNeverWrong : ChangeSpec := { name := "tunnelNever", fn := fun _ => fun
  | [d1, d2, d3] => { results := [.lit (.bool false)], args := [d1, d2, d3] }
  | _ => none }
def TunnelNeverWrongFalsely : Prop := tunnelNeverRow.holds Try.pinned (OpenSpec.ofChange tunnelNeverWrong)

/- THE SECOND FORM. 'bulk': how many values and letters a reading holds, each counted each time it is reached (what is shared counts as often as it is met; a slice's spare places count too). A statement '..UptoSaid' is the law's where the arguments, and the package variables that the reading takes, are together of bulk at most 1048576: NARROWER than '..Said'. Prove '..Said' where nothing that the law and all that it calls make is longer than what came in: it says more and counts as full. Else prove '..UptoSaid'. A law counts once. -/
mutual
def uptoBulk {H : Type} : DataW H → Nat
  | .lit (.string bytes) => bytes.length + 1
  | .lit _ => 1
  | .nil => 1
  | .ptr d => uptoBulk d + 1
  | .slice elems spare => uptoBulkAll elems + uptoBulkAll spare + 1
  | .agg parts => uptoBulkAll parts + 1
  | .iface _ d => uptoBulk d + 1
  | .map entries => uptoBulkEntries entries + 1
  | .held _ => 1
def uptoBulkAll {H : Type} : List (DataW H) → Nat
  | [] => 0
  | d :: r => uptoBulk d + uptoBulkAll r
def uptoBulkEntries {H : Type} : List (Lit × DataW H) → Nat
  | [] => 0
  | x :: r => uptoBulkEntry x + uptoBulkEntries r
def uptoBulkEntry {H : Type} : Lit × DataW H → Nat
  | (.string bytes, d) => bytes.length + uptoBulk d + 1
  | (_, d) => uptoBulk d + 1
 end
def uptoSmall : (H : Type) → List (DataW H) → Bool := fun _ ds => decide (uptoBulkAll ds ≤ 1048576)
def OpenSpec.upto (s : _root_.Go.ChangeSpec) : _root_.Go.OpenSpec := { _root_.Go.OpenSpec.ofChange s with cond := some uptoSmall }

/-- 'rutterlaw18.NetKeeps', WHERE WHAT IT READS IS OF BULK AT MOST 1048576: true; the input reads as it did. -/
def netKeepsUptoRow : OpenClaim := { program := "ytfdcllpedfifpaa", sum := "cb7fbc3eb85799d7278284c71819a96b13fd170fee402e3f69224e3e6a520c07", func := "rutter/rutterlaw18.NetKeeps", spec := "netKeeps", inPlace := ["sync/atomic.AddInt64", "sync/atomic.LoadInt64"], unfollowed := true, recurses := true, apart := false, narrowed := true }
def NetKeepsUptoSaid : Prop := netKeepsUptoRow.holds Try.pinned (OpenSpec.upto netKeepsSpec)

/-- 'rutterlaw02.EtherTells', WHERE WHAT IT READS IS OF BULK AT MOST 1048576: true; the input reads as it did. -/
def etherTellsUptoRow : OpenClaim := { program := "ytfdcllpedfifpaa", sum := "cb7fbc3eb85799d7278284c71819a96b13fd170fee402e3f69224e3e6a520c07", func := "rutter/rutterlaw02.EtherTells", spec := "etherTells", apart := false, narrowed := true }
def EtherTellsUptoSaid : Prop := etherTellsUptoRow.holds Try.pinned (OpenSpec.upto etherTellsSpec)

/-- 'rutterlaw02.EtherBytes', WHERE WHAT IT READS IS OF BULK AT MOST 1048576: true; the input reads as it did. -/
def etherBytesUptoRow : OpenClaim := { program := "ytfdcllpedfifpaa", sum := "cb7fbc3eb85799d7278284c71819a96b13fd170fee402e3f69224e3e6a520c07", func := "rutter/rutterlaw02.EtherBytes", spec := "etherBytes", apart := false, narrowed := true }
def EtherBytesUptoSaid : Prop := etherBytesUptoRow.holds Try.pinned (OpenSpec.upto etherBytesSpec)

/-- 'rutterlaw03.ArpTells', WHERE WHAT IT READS IS OF BULK AT MOST 1048576: true; the input reads as it did. -/
def arpTellsUptoRow : OpenClaim := { program := "ytfdcllpedfifpaa", sum := "cb7fbc3eb85799d7278284c71819a96b13fd170fee402e3f69224e3e6a520c07", func := "rutter/rutterlaw03.ArpTells", spec := "arpTells", unfollowed := true, recurses := true, apart := false, narrowed := true }
def ArpTellsUptoSaid : Prop := arpTellsUptoRow.holds Try.pinned (OpenSpec.upto arpTellsSpec)

/-- 'rutterlaw03.ArpBytes', WHERE WHAT IT READS IS OF BULK AT MOST 1048576: true; the input reads as it did. -/
def arpBytesUptoRow : OpenClaim := { program := "ytfdcllpedfifpaa", sum := "cb7fbc3eb85799d7278284c71819a96b13fd170fee402e3f69224e3e6a520c07", func := "rutter/rutterlaw03.ArpBytes", spec := "arpBytes", unfollowed := true, recurses := true, apart := false, narrowed := true }
def ArpBytesUptoSaid : Prop := arpBytesUptoRow.holds Try.pinned (OpenSpec.upto arpBytesSpec)

/-- 'rutterlaw04.InetTells', WHERE WHAT IT READS IS OF BULK AT MOST 1048576: true; the input reads as it did. -/
def inetTellsUptoRow : OpenClaim := { program := "ytfdcllpedfifpaa", sum := "cb7fbc3eb85799d7278284c71819a96b13fd170fee402e3f69224e3e6a520c07", func := "rutter/rutterlaw04.InetTells", spec := "inetTells", apart := false, narrowed := true }
def InetTellsUptoSaid : Prop := inetTellsUptoRow.holds Try.pinned (OpenSpec.upto inetTellsSpec)

/-- 'rutterlaw04.InetBytes', WHERE WHAT IT READS IS OF BULK AT MOST 1048576: true; the input reads as it did. -/
def inetBytesUptoRow : OpenClaim := { program := "ytfdcllpedfifpaa", sum := "cb7fbc3eb85799d7278284c71819a96b13fd170fee402e3f69224e3e6a520c07", func := "rutter/rutterlaw04.InetBytes", spec := "inetBytes", apart := false, narrowed := true }
def InetBytesUptoSaid : Prop := inetBytesUptoRow.holds Try.pinned (OpenSpec.upto inetBytesSpec)

/-- 'rutterlaw09.PhaseTells', WHERE WHAT IT READS IS OF BULK AT MOST 1048576: true; the input reads as it did. -/
def phaseTellsUptoRow : OpenClaim := { program := "ytfdcllpedfifpaa", sum := "cb7fbc3eb85799d7278284c71819a96b13fd170fee402e3f69224e3e6a520c07", func := "rutter/rutterlaw09.PhaseTells", spec := "phaseTells", unfollowed := true, recurses := true, apart := false, narrowed := true }
def PhaseTellsUptoSaid : Prop := phaseTellsUptoRow.holds Try.pinned (OpenSpec.upto phaseTellsSpec)

/-- 'rutterlaw09.PhaseOwner', WHERE WHAT IT READS IS OF BULK AT MOST 1048576: true; the input reads as it did. -/
def phaseOwnerUptoRow : OpenClaim := { program := "ytfdcllpedfifpaa", sum := "cb7fbc3eb85799d7278284c71819a96b13fd170fee402e3f69224e3e6a520c07", func := "rutter/rutterlaw09.PhaseOwner", spec := "phaseOwner", unfollowed := true, recurses := true, apart := false, narrowed := true }
def PhaseOwnerUptoSaid : Prop := phaseOwnerUptoRow.holds Try.pinned (OpenSpec.upto phaseOwnerSpec)

/-- 'rutterlaw05.TunnelTells', WHERE WHAT IT READS IS OF BULK AT MOST 1048576: true; the input reads as it did. -/
def tunnelTellsUptoRow : OpenClaim := { program := "ytfdcllpedfifpaa", sum := "cb7fbc3eb85799d7278284c71819a96b13fd170fee402e3f69224e3e6a520c07", func := "rutter/rutterlaw05.TunnelTells", spec := "tunnelTells", apart := false, narrowed := true }
def TunnelTellsUptoSaid : Prop := tunnelTellsUptoRow.holds Try.pinned (OpenSpec.upto tunnelTellsSpec)

/-- 'rutterlaw05.TunnelBytes', WHERE WHAT IT READS IS OF BULK AT MOST 1048576: true; the input reads as it did. -/
def tunnelBytesUptoRow : OpenClaim := { program := "ytfdcllpedfifpaa", sum := "cb7fbc3eb85799d7278284c71819a96b13fd170fee402e3f69224e3e6a520c07", func := "rutter/rutterlaw05.TunnelBytes", spec := "tunnelBytes", apart := false, narrowed := true }
def TunnelBytesUptoSaid : Prop := tunnelBytesUptoRow.holds Try.pinned (OpenSpec.upto tunnelBytesSpec)

/-- 'rutterlaw05.TunnelNever', WHERE WHAT IT READS IS OF BULK AT MOST 1048576: true; the input reads as it did. -/
def tunnelNeverUptoRow : OpenClaim := { program := "ytfdcllpedfifpaa", sum := "cb7fbc3eb85799d7278284c71819a96b13fd170fee402e3f69224e3e6a520c07", func := "rutter/rutterlaw05.TunnelNever", spec := "tunnelNever", apart := false, narrowed := true }
def TunnelNeverUptoSaid : Prop := tunnelNeverUptoRow.holds Try.pinned (OpenSpec.upto tunnelNeverSpec)

end Rows
end Go.Proofs.Ytfdcllpedfifpaa
