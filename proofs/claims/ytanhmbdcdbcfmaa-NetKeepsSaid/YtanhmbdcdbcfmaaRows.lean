/-
  No cell of these rows narrows 'for every input' (looked for: loops, veiled, ifaces, maps, wideKeys, modest, calm, conditions, laid).
  DERIVED. THE GIVEN ROWS OF THIS SEAT. 12 by the template 'for every input the law returns true; each argument reads behind the call as it read before'; 0 by the template 'total and deterministic' (their statements: YtanhmbdcdbcfmaaTotals.lean).
  GIVEN WITH THE SEED: the statements are not yours to turn. If you find one false, say at which input.
  Laid BY PROGRAM, IN A SANDBOX (cutbox-rows.mjs): the forced cells as the released guide's own fill.sh prints them over the translation 8c639506cbd575de… (all of the seat's roots in one cut). By AI agents, Wed Nov 11 2026. No macro, syntax, notation, axiom, sorry.
-/
import Derived.Test.YtanhmbdcdbcfmaaChecked
import GoSem.Claim
import GoSem.ClaimJoined
import GoSem.ClaimMapViews
import Derived.JoinedTies
import Derived.KernelRfl
namespace Go.Proofs.Ytanhmbdcdbcfmaa
/- THE CELL 'sum', in the pinned program and in every row, IS THE sha256 OF THE DUMP (.gsa) THAT YtanhmbdcdbcfmaaProg.lean LOADS. Nothing in Lean hashes anything: it is a label: what it is worth is what the hold of that sum in a sandbox is worth. -/
noncomputable def Try.pinned : Pinned := { name := "ytanhmbdcdbcfmaa", sum := "8c639506cbd575de9d0792f3ed4cf68de8cc060faa317dd564738274c54fbd58", checked := Try.checked }
namespace Rows
def none {H : Type} : Left H := { results := [], args := [] }

/-- 'rutterlaw15.DpathTunnel': WHATEVER THE INPUT: true; the input reads as it did. -/
def dpathTunnelSpec : ChangeSpec := { name := "dpathTunnel", fn := fun _ => fun
  | [d1, d2, d3] => { results := [.lit (.bool true)], args := [d1, d2, d3] }
  | _ => none }
def dpathTunnelRow : OpenClaim := { program := "ytanhmbdcdbcfmaa", sum := "8c639506cbd575de9d0792f3ed4cf68de8cc060faa317dd564738274c54fbd58", func := "rutter/rutterlaw15.DpathTunnel", spec := "dpathTunnel", unfollowed := true, recurses := true, apart := false }
def DpathTunnelSaid : Prop := dpathTunnelRow.holds Try.pinned (OpenSpec.ofChange dpathTunnelSpec)

/-- ITS FALSE NEIGHBOUR: 'it returns false'. Refute it at one input. -/
def dpathTunnelWrong : ChangeSpec := { name := "dpathTunnel", fn := fun _ => fun
  | [d1, d2, d3] => { results := [.lit (.bool false)], args := [d1, d2, d3] }
  | _ => none }
def DpathTunnelWrongFalsely : Prop := dpathTunnelRow.holds Try.pinned (OpenSpec.ofChange dpathTunnelWrong)

/-- 'rutterlaw15.DpathOn': WHATEVER THE INPUT: true; the input reads as it did. -/
def dpathOnSpec : ChangeSpec := { name := "dpathOn", fn := fun _ => fun
  | [d1, d2, d3] => { results := [.lit (.bool true)], args := [d1, d2, d3] }
  | _ => none }
def dpathOnRow : OpenClaim := { program := "ytanhmbdcdbcfmaa", sum := "8c639506cbd575de9d0792f3ed4cf68de8cc060faa317dd564738274c54fbd58", func := "rutter/rutterlaw15.DpathOn", spec := "dpathOn", unfollowed := true, recurses := true, apart := false }
def DpathOnSaid : Prop := dpathOnRow.holds Try.pinned (OpenSpec.ofChange dpathOnSpec)

/-- ITS FALSE NEIGHBOUR: 'it returns false'. Refute it at one input. -/
def dpathOnWrong : ChangeSpec := { name := "dpathOn", fn := fun _ => fun
  | [d1, d2, d3] => { results := [.lit (.bool false)], args := [d1, d2, d3] }
  | _ => none }
def DpathOnWrongFalsely : Prop := dpathOnRow.holds Try.pinned (OpenSpec.ofChange dpathOnWrong)

/-- 'rutterlaw11.SessionLetters': WHATEVER THE INPUT: true; the input reads as it did. -/
def sessionLettersSpec : ChangeSpec := { name := "sessionLetters", fn := fun _ => fun
  | [d1, d2] => { results := [.lit (.bool true)], args := [d1, d2] }
  | _ => none }
def sessionLettersRow : OpenClaim := { program := "ytanhmbdcdbcfmaa", sum := "8c639506cbd575de9d0792f3ed4cf68de8cc060faa317dd564738274c54fbd58", func := "rutter/rutterlaw11.SessionLetters", spec := "sessionLetters", unfollowed := true, recurses := true, apart := false }
def SessionLettersSaid : Prop := sessionLettersRow.holds Try.pinned (OpenSpec.ofChange sessionLettersSpec)

/-- ITS FALSE NEIGHBOUR: 'it returns false'. Refute it at one input. -/
def sessionLettersWrong : ChangeSpec := { name := "sessionLetters", fn := fun _ => fun
  | [d1, d2] => { results := [.lit (.bool false)], args := [d1, d2] }
  | _ => none }
def SessionLettersWrongFalsely : Prop := sessionLettersRow.holds Try.pinned (OpenSpec.ofChange sessionLettersWrong)

/-- 'rutterlaw11.SessionPlays': WHATEVER THE INPUT: true; the input reads as it did. -/
def sessionPlaysSpec : ChangeSpec := { name := "sessionPlays", fn := fun _ => fun
  | [d1, d2] => { results := [.lit (.bool true)], args := [d1, d2] }
  | _ => none }
def sessionPlaysRow : OpenClaim := { program := "ytanhmbdcdbcfmaa", sum := "8c639506cbd575de9d0792f3ed4cf68de8cc060faa317dd564738274c54fbd58", func := "rutter/rutterlaw11.SessionPlays", spec := "sessionPlays", unfollowed := true, recurses := true, apart := false }
def SessionPlaysSaid : Prop := sessionPlaysRow.holds Try.pinned (OpenSpec.ofChange sessionPlaysSpec)

/-- ITS FALSE NEIGHBOUR: 'it returns false'. Refute it at one input. -/
def sessionPlaysWrong : ChangeSpec := { name := "sessionPlays", fn := fun _ => fun
  | [d1, d2] => { results := [.lit (.bool false)], args := [d1, d2] }
  | _ => none }
def SessionPlaysWrongFalsely : Prop := sessionPlaysRow.holds Try.pinned (OpenSpec.ofChange sessionPlaysWrong)

/-- 'rutterlaw11.SessionOrder': WHATEVER THE INPUT: true; the input reads as it did. -/
def sessionOrderSpec : ChangeSpec := { name := "sessionOrder", fn := fun _ => fun
  | [d] => { results := [.lit (.bool true)], args := [d] }
  | _ => none }
def sessionOrderRow : OpenClaim := { program := "ytanhmbdcdbcfmaa", sum := "8c639506cbd575de9d0792f3ed4cf68de8cc060faa317dd564738274c54fbd58", func := "rutter/rutterlaw11.SessionOrder", spec := "sessionOrder", unfollowed := true, recurses := true, apart := false }
def SessionOrderSaid : Prop := sessionOrderRow.holds Try.pinned (OpenSpec.ofChange sessionOrderSpec)

/-- ITS FALSE NEIGHBOUR: 'it returns false'. Refute it at one input. -/
def sessionOrderWrong : ChangeSpec := { name := "sessionOrder", fn := fun _ => fun
  | [d] => { results := [.lit (.bool false)], args := [d] }
  | _ => none }
def SessionOrderWrongFalsely : Prop := sessionOrderRow.holds Try.pinned (OpenSpec.ofChange sessionOrderWrong)

/-- 'rutterlaw08.JournalPlays': WHATEVER THE INPUT: true; the input reads as it did. -/
def journalPlaysSpec : ChangeSpec := { name := "journalPlays", fn := fun _ => fun
  | [d1, d2] => { results := [.lit (.bool true)], args := [d1, d2] }
  | _ => none }
def journalPlaysRow : OpenClaim := { program := "ytanhmbdcdbcfmaa", sum := "8c639506cbd575de9d0792f3ed4cf68de8cc060faa317dd564738274c54fbd58", func := "rutter/rutterlaw08.JournalPlays", spec := "journalPlays", apart := false }
def JournalPlaysSaid : Prop := journalPlaysRow.holds Try.pinned (OpenSpec.ofChange journalPlaysSpec)

/-- ITS FALSE NEIGHBOUR: 'it returns false'. Refute it at one input. -/
def journalPlaysWrong : ChangeSpec := { name := "journalPlays", fn := fun _ => fun
  | [d1, d2] => { results := [.lit (.bool false)], args := [d1, d2] }
  | _ => none }
def JournalPlaysWrongFalsely : Prop := journalPlaysRow.holds Try.pinned (OpenSpec.ofChange journalPlaysWrong)

/-- 'rutterlaw08.JournalScans': WHATEVER THE INPUT: true; the input reads as it did. -/
def journalScansSpec : ChangeSpec := { name := "journalScans", fn := fun _ => fun
  | [d1, d2] => { results := [.lit (.bool true)], args := [d1, d2] }
  | _ => none }
def journalScansRow : OpenClaim := { program := "ytanhmbdcdbcfmaa", sum := "8c639506cbd575de9d0792f3ed4cf68de8cc060faa317dd564738274c54fbd58", func := "rutter/rutterlaw08.JournalScans", spec := "journalScans", apart := false }
def JournalScansSaid : Prop := journalScansRow.holds Try.pinned (OpenSpec.ofChange journalScansSpec)

/-- ITS FALSE NEIGHBOUR: 'it returns false'. Refute it at one input. -/
def journalScansWrong : ChangeSpec := { name := "journalScans", fn := fun _ => fun
  | [d1, d2] => { results := [.lit (.bool false)], args := [d1, d2] }
  | _ => none }
def JournalScansWrongFalsely : Prop := journalScansRow.holds Try.pinned (OpenSpec.ofChange journalScansWrong)

/-- 'rutterlaw08.JournalKeeps': WHATEVER THE INPUT: true; the input reads as it did. -/
def journalKeepsSpec : ChangeSpec := { name := "journalKeeps", fn := fun _ => fun
  | [d1, d2, d3] => { results := [.lit (.bool true)], args := [d1, d2, d3] }
  | _ => none }
def journalKeepsRow : OpenClaim := { program := "ytanhmbdcdbcfmaa", sum := "8c639506cbd575de9d0792f3ed4cf68de8cc060faa317dd564738274c54fbd58", func := "rutter/rutterlaw08.JournalKeeps", spec := "journalKeeps", apart := false }
def JournalKeepsSaid : Prop := journalKeepsRow.holds Try.pinned (OpenSpec.ofChange journalKeepsSpec)

/-- ITS FALSE NEIGHBOUR: 'it returns false'. Refute it at one input. -/
def journalKeepsWrong : ChangeSpec := { name := "journalKeeps", fn := fun _ => fun
  | [d1, d2, d3] => { results := [.lit (.bool false)], args := [d1, d2, d3] }
  | _ => none }
def JournalKeepsWrongFalsely : Prop := journalKeepsRow.holds Try.pinned (OpenSpec.ofChange journalKeepsWrong)

/-- 'rutterlaw18.NetPlays': WHATEVER THE INPUT: true; the input reads as it did. -/
def netPlaysSpec : ChangeSpec := { name := "netPlays", fn := fun _ => fun
  | [d1, d2] => { results := [.lit (.bool true)], args := [d1, d2] }
  | _ => none }
def netPlaysRow : OpenClaim := { program := "ytanhmbdcdbcfmaa", sum := "8c639506cbd575de9d0792f3ed4cf68de8cc060faa317dd564738274c54fbd58", func := "rutter/rutterlaw18.NetPlays", spec := "netPlays", inPlace := ["sync/atomic.AddInt64", "sync/atomic.LoadInt64"], unfollowed := true, recurses := true, apart := false }
def NetPlaysSaid : Prop := netPlaysRow.holds Try.pinned (OpenSpec.ofChange netPlaysSpec)

/-- ITS FALSE NEIGHBOUR: 'it returns false'. Refute it at one input. -/
def netPlaysWrong : ChangeSpec := { name := "netPlays", fn := fun _ => fun
  | [d1, d2] => { results := [.lit (.bool false)], args := [d1, d2] }
  | _ => none }
def NetPlaysWrongFalsely : Prop := netPlaysRow.holds Try.pinned (OpenSpec.ofChange netPlaysWrong)

/-- 'rutterlaw18.NetKeeps': WHATEVER THE INPUT: true; the input reads as it did. -/
def netKeepsSpec : ChangeSpec := { name := "netKeeps", fn := fun _ => fun
  | [d1, d2, d3] => { results := [.lit (.bool true)], args := [d1, d2, d3] }
  | _ => none }
def netKeepsRow : OpenClaim := { program := "ytanhmbdcdbcfmaa", sum := "8c639506cbd575de9d0792f3ed4cf68de8cc060faa317dd564738274c54fbd58", func := "rutter/rutterlaw18.NetKeeps", spec := "netKeeps", inPlace := ["sync/atomic.AddInt64", "sync/atomic.LoadInt64"], unfollowed := true, recurses := true, apart := false }
def NetKeepsSaid : Prop := netKeepsRow.holds Try.pinned (OpenSpec.ofChange netKeepsSpec)

/-- ITS FALSE NEIGHBOUR: 'it returns false'. Refute it at one input. -/
def netKeepsWrong : ChangeSpec := { name := "netKeeps", fn := fun _ => fun
  | [d1, d2, d3] => { results := [.lit (.bool false)], args := [d1, d2, d3] }
  | _ => none }
def NetKeepsWrongFalsely : Prop := netKeepsRow.holds Try.pinned (OpenSpec.ofChange netKeepsWrong)

/-- 'rutterlaw12.TrackPlays': WHATEVER THE INPUT: true; the input reads as it did. -/
def trackPlaysSpec : ChangeSpec := { name := "trackPlays", fn := fun _ => fun
  | [d1, d2, d3] => { results := [.lit (.bool true)], args := [d1, d2, d3] }
  | _ => none }
def trackPlaysRow : OpenClaim := { program := "ytanhmbdcdbcfmaa", sum := "8c639506cbd575de9d0792f3ed4cf68de8cc060faa317dd564738274c54fbd58", func := "rutter/rutterlaw12.TrackPlays", spec := "trackPlays", unfollowed := true, recurses := true, apart := false }
def TrackPlaysSaid : Prop := trackPlaysRow.holds Try.pinned (OpenSpec.ofChange trackPlaysSpec)

/-- ITS FALSE NEIGHBOUR: 'it returns false'. Refute it at one input. -/
def trackPlaysWrong : ChangeSpec := { name := "trackPlays", fn := fun _ => fun
  | [d1, d2, d3] => { results := [.lit (.bool false)], args := [d1, d2, d3] }
  | _ => none }
def TrackPlaysWrongFalsely : Prop := trackPlaysRow.holds Try.pinned (OpenSpec.ofChange trackPlaysWrong)

/-- 'rutterlaw12.TrackBoth': WHATEVER THE INPUT: true; the input reads as it did. -/
def trackBothSpec : ChangeSpec := { name := "trackBoth", fn := fun _ => fun
  | [d1, d2, d3] => { results := [.lit (.bool true)], args := [d1, d2, d3] }
  | _ => none }
def trackBothRow : OpenClaim := { program := "ytanhmbdcdbcfmaa", sum := "8c639506cbd575de9d0792f3ed4cf68de8cc060faa317dd564738274c54fbd58", func := "rutter/rutterlaw12.TrackBoth", spec := "trackBoth", unfollowed := true, recurses := true, apart := false }
def TrackBothSaid : Prop := trackBothRow.holds Try.pinned (OpenSpec.ofChange trackBothSpec)

/-- ITS FALSE NEIGHBOUR: 'it returns false'. Refute it at one input. -/
def trackBothWrong : ChangeSpec := { name := "trackBoth", fn := fun _ => fun
  | [d1, d2, d3] => { results := [.lit (.bool false)], args := [d1, d2, d3] }
  | _ => none }
def TrackBothWrongFalsely : Prop := trackBothRow.holds Try.pinned (OpenSpec.ofChange trackBothWrong)

/- THE SECOND FORM. 'bulk': how many values and letters a reading holds, each counted each time it is reached (what is shared counts as often as it is met; a slice's spare places count too). A statement '..UptoSaid' is the law's where the arguments, and the package variables that the reading takes, are together of bulk at most 1048576: NARROWER than '..Said'. Prove '..Said' where nothing that the law and all that it calls make is longer than what came in: it says more and counts as full. Else prove '..UptoSaid'. A law counts once. -/
mutual
def uptoBulk {H : Type} : DataW H → Nat
  | .lit (.string bytes) => bytes.length + 1
  | .lit _ => 1
  | .nil => 1
  | .ptr d => uptoBulk d + 1
  | .slice elems spare => uptoBulkAll elems + uptoBulkAll spare + 1
  | .agg parts => uptoBulkAll parts + 1
  | .iface _ d => uptoBulk d + 1
  | .map entries => uptoBulkEntries entries + 1
  | .held _ => 1
def uptoBulkAll {H : Type} : List (DataW H) → Nat
  | [] => 0
  | d :: r => uptoBulk d + uptoBulkAll r
def uptoBulkEntries {H : Type} : List (Lit × DataW H) → Nat
  | [] => 0
  | x :: r => uptoBulkEntry x + uptoBulkEntries r
def uptoBulkEntry {H : Type} : Lit × DataW H → Nat
  | (.string bytes, d) => bytes.length + uptoBulk d + 1
  | (_, d) => uptoBulk d + 1
 end
def uptoSmall : (H : Type) → List (DataW H) → Bool := fun _ ds => decide (uptoBulkAll ds ≤ 1048576)
def OpenSpec.upto (s : _root_.Go.ChangeSpec) : _root_.Go.OpenSpec := { _root_.Go.OpenSpec.ofChange s with cond := some uptoSmall }

/-- 'rutterlaw15.DpathTunnel', WHERE WHAT IT READS IS OF BULK AT MOST 1048576: true; the input reads as it did. -/
def dpathTunnelUptoRow : OpenClaim := { program := "ytanhmbdcdbcfmaa", sum := "8c639506cbd575de9d0792f3ed4cf68de8cc060faa317dd564738274c54fbd58", func := "rutter/rutterlaw15.DpathTunnel", spec := "dpathTunnel", unfollowed := true, recurses := true, apart := false, narrowed := true }
def DpathTunnelUptoSaid : Prop := dpathTunnelUptoRow.holds Try.pinned (OpenSpec.upto dpathTunnelSpec)

/-- 'rutterlaw15.DpathOn', WHERE WHAT IT READS IS OF BULK AT MOST 1048576: true; the input reads as it did. -/
def dpathOnUptoRow : OpenClaim := { program := "ytanhmbdcdbcfmaa", sum := "8c639506cbd575de9d0792f3ed4cf68de8cc060faa317dd564738274c54fbd58", func := "rutter/rutterlaw15.DpathOn", spec := "dpathOn", unfollowed := true, recurses := true, apart := false, narrowed := true }
def DpathOnUptoSaid : Prop := dpathOnUptoRow.holds Try.pinned (OpenSpec.upto dpathOnSpec)

/-- 'rutterlaw11.SessionLetters', WHERE WHAT IT READS IS OF BULK AT MOST 1048576: true; the input reads as it did. -/
def sessionLettersUptoRow : OpenClaim := { program := "ytanhmbdcdbcfmaa", sum := "8c639506cbd575de9d0792f3ed4cf68de8cc060faa317dd564738274c54fbd58", func := "rutter/rutterlaw11.SessionLetters", spec := "sessionLetters", unfollowed := true, recurses := true, apart := false, narrowed := true }
def SessionLettersUptoSaid : Prop := sessionLettersUptoRow.holds Try.pinned (OpenSpec.upto sessionLettersSpec)

/-- 'rutterlaw11.SessionPlays', WHERE WHAT IT READS IS OF BULK AT MOST 1048576: true; the input reads as it did. -/
def sessionPlaysUptoRow : OpenClaim := { program := "ytanhmbdcdbcfmaa", sum := "8c639506cbd575de9d0792f3ed4cf68de8cc060faa317dd564738274c54fbd58", func := "rutter/rutterlaw11.SessionPlays", spec := "sessionPlays", unfollowed := true, recurses := true, apart := false, narrowed := true }
def SessionPlaysUptoSaid : Prop := sessionPlaysUptoRow.holds Try.pinned (OpenSpec.upto sessionPlaysSpec)

/-- 'rutterlaw11.SessionOrder', WHERE WHAT IT READS IS OF BULK AT MOST 1048576: true; the input reads as it did. -/
def sessionOrderUptoRow : OpenClaim := { program := "ytanhmbdcdbcfmaa", sum := "8c639506cbd575de9d0792f3ed4cf68de8cc060faa317dd564738274c54fbd58", func := "rutter/rutterlaw11.SessionOrder", spec := "sessionOrder", unfollowed := true, recurses := true, apart := false, narrowed := true }
def SessionOrderUptoSaid : Prop := sessionOrderUptoRow.holds Try.pinned (OpenSpec.upto sessionOrderSpec)

/-- 'rutterlaw08.JournalPlays', WHERE WHAT IT READS IS OF BULK AT MOST 1048576: true; the input reads as it did. -/
def journalPlaysUptoRow : OpenClaim := { program := "ytanhmbdcdbcfmaa", sum := "8c639506cbd575de9d0792f3ed4cf68de8cc060faa317dd564738274c54fbd58", func := "rutter/rutterlaw08.JournalPlays", spec := "journalPlays", apart := false, narrowed := true }
def JournalPlaysUptoSaid : Prop := journalPlaysUptoRow.holds Try.pinned (OpenSpec.upto journalPlaysSpec)

/-- 'rutterlaw08.JournalScans', WHERE WHAT IT READS IS OF BULK AT MOST 1048576: true; the input reads as it did. -/
def journalScansUptoRow : OpenClaim := { program := "ytanhmbdcdbcfmaa", sum := "8c639506cbd575de9d0792f3ed4cf68de8cc060faa317dd564738274c54fbd58", func := "rutter/rutterlaw08.JournalScans", spec := "journalScans", apart := false, narrowed := true }
def JournalScansUptoSaid : Prop := journalScansUptoRow.holds Try.pinned (OpenSpec.upto journalScansSpec)

/-- 'rutterlaw08.JournalKeeps', WHERE WHAT IT READS IS OF BULK AT MOST 1048576: true; the input reads as it did. -/
def journalKeepsUptoRow : OpenClaim := { program := "ytanhmbdcdbcfmaa", sum := "8c639506cbd575de9d0792f3ed4cf68de8cc060faa317dd564738274c54fbd58", func := "rutter/rutterlaw08.JournalKeeps", spec := "journalKeeps", apart := false, narrowed := true }
def JournalKeepsUptoSaid : Prop := journalKeepsUptoRow.holds Try.pinned (OpenSpec.upto journalKeepsSpec)

/-- 'rutterlaw18.NetPlays', WHERE WHAT IT READS IS OF BULK AT MOST 1048576: true; the input reads as it did. -/
def netPlaysUptoRow : OpenClaim := { program := "ytanhmbdcdbcfmaa", sum := "8c639506cbd575de9d0792f3ed4cf68de8cc060faa317dd564738274c54fbd58", func := "rutter/rutterlaw18.NetPlays", spec := "netPlays", inPlace := ["sync/atomic.AddInt64", "sync/atomic.LoadInt64"], unfollowed := true, recurses := true, apart := false, narrowed := true }
def NetPlaysUptoSaid : Prop := netPlaysUptoRow.holds Try.pinned (OpenSpec.upto netPlaysSpec)

/-- 'rutterlaw18.NetKeeps', WHERE WHAT IT READS IS OF BULK AT MOST 1048576: true; the input reads as it did. -/
def netKeepsUptoRow : OpenClaim := { program := "ytanhmbdcdbcfmaa", sum := "8c639506cbd575de9d0792f3ed4cf68de8cc060faa317dd564738274c54fbd58", func := "rutter/rutterlaw18.NetKeeps", spec := "netKeeps", inPlace := ["sync/atomic.AddInt64", "sync/atomic.LoadInt64"], unfollowed := true, recurses := true, apart := false, narrowed := true }
def NetKeepsUptoSaid : Prop := netKeepsUptoRow.holds Try.pinned (OpenSpec.upto netKeepsSpec)

/-- 'rutterlaw12.TrackPlays', WHERE WHAT IT READS IS OF BULK AT MOST 1048576: true; the input reads as it did. -/
def trackPlaysUptoRow : OpenClaim := { program := "ytanhmbdcdbcfmaa", sum := "8c639506cbd575de9d0792f3ed4cf68de8cc060faa317dd564738274c54fbd58", func := "rutter/rutterlaw12.TrackPlays", spec := "trackPlays", unfollowed := true, recurses := true, apart := false, narrowed := true }
def TrackPlaysUptoSaid : Prop := trackPlaysUptoRow.holds Try.pinned (OpenSpec.upto trackPlaysSpec)

/-- 'rutterlaw12.TrackBoth', WHERE WHAT IT READS IS OF BULK AT MOST 1048576: true; the input reads as it did. -/
def trackBothUptoRow : OpenClaim := { program := "ytanhmbdcdbcfmaa", sum := "8c639506cbd575de9d0792f3ed4cf68de8cc060faa317dd564738274c54fbd58", func := "rutter/rutterlaw12.TrackBoth", spec := "trackBoth", unfollowed := true, recurses := true, apart := false, narrowed := true }
def TrackBothUptoSaid : Prop := trackBothUptoRow.holds Try.pinned (OpenSpec.upto trackBothSpec)

end Rows
end Go.Proofs.Ytanhmbdcdbcfmaa
