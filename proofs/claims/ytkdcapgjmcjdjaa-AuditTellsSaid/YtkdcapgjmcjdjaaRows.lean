/-
  No cell of these rows narrows 'for every input' (looked for: loops, veiled, ifaces, maps, wideKeys, modest, calm, conditions, laid).
  DERIVED. THE GIVEN ROWS OF THIS SEAT. 12 by the template 'for every input the law returns true; each argument reads behind the call as it read before'; 0 by the template 'total and deterministic' (their statements: YtkdcapgjmcjdjaaTotals.lean).
  GIVEN WITH THE SEED: the statements are not yours to turn. If you find one false, say at which input.
  Laid BY PROGRAM, IN A SANDBOX (cutbox-rows.mjs): the forced cells as the released guide's own fill.sh prints them over the translation 9c2fd142e41eabf6… (all of the seat's roots in one cut). By AI agents, Wed Nov 11 2026. No macro, syntax, notation, axiom, sorry.
-/
import Derived.Test.YtkdcapgjmcjdjaaChecked
import GoSem.Claim
import GoSem.ClaimJoined
import GoSem.ClaimMapViews
import Derived.JoinedTies
import Derived.KernelRfl
namespace Go.Proofs.Ytkdcapgjmcjdjaa
/- THE CELL 'sum', in the pinned program and in every row, IS THE sha256 OF THE DUMP (.gsa) THAT YtkdcapgjmcjdjaaProg.lean LOADS. Nothing in Lean hashes anything: it is a label: what it is worth is what the hold of that sum in a sandbox is worth. -/
noncomputable def Try.pinned : Pinned := { name := "ytkdcapgjmcjdjaa", sum := "9c2fd142e41eabf68d3104a4081deca5964e7b8daa9a1fb92183493bb894fd68", checked := Try.checked }
namespace Rows
def none {H : Type} : Left H := { results := [], args := [] }

/-- 'rutterlaw21.AuditTells': WHATEVER THE INPUT: true; the input reads as it did. -/
def auditTellsSpec : ChangeSpec := { name := "auditTells", fn := fun _ => fun
  | [d1, d2] => { results := [.lit (.bool true)], args := [d1, d2] }
  | _ => none }
def auditTellsRow : OpenClaim := { program := "ytkdcapgjmcjdjaa", sum := "9c2fd142e41eabf68d3104a4081deca5964e7b8daa9a1fb92183493bb894fd68", func := "rutter/rutterlaw21.AuditTells", spec := "auditTells", plainKeys := false, apart := false }
def AuditTellsSaid : Prop := auditTellsRow.holds Try.pinned (OpenSpec.ofChange auditTellsSpec)

/-- ITS FALSE NEIGHBOUR: 'it returns false'. Refute it at one input. -/
def auditTellsWrong : ChangeSpec := { name := "auditTells", fn := fun _ => fun
  | [d1, d2] => { results := [.lit (.bool false)], args := [d1, d2] }
  | _ => none }
def AuditTellsWrongFalsely : Prop := auditTellsRow.holds Try.pinned (OpenSpec.ofChange auditTellsWrong)

/-- 'rutterlaw21.AuditAll': WHATEVER THE INPUT: true; the input reads as it did. -/
def auditAllSpec : ChangeSpec := { name := "auditAll", fn := fun _ => fun
  | [d1, d2] => { results := [.lit (.bool true)], args := [d1, d2] }
  | _ => none }
def auditAllRow : OpenClaim := { program := "ytkdcapgjmcjdjaa", sum := "9c2fd142e41eabf68d3104a4081deca5964e7b8daa9a1fb92183493bb894fd68", func := "rutter/rutterlaw21.AuditAll", spec := "auditAll", plainKeys := false, apart := false }
def AuditAllSaid : Prop := auditAllRow.holds Try.pinned (OpenSpec.ofChange auditAllSpec)

/-- ITS FALSE NEIGHBOUR: 'it returns false'. Refute it at one input. -/
def auditAllWrong : ChangeSpec := { name := "auditAll", fn := fun _ => fun
  | [d1, d2] => { results := [.lit (.bool false)], args := [d1, d2] }
  | _ => none }
def AuditAllWrongFalsely : Prop := auditAllRow.holds Try.pinned (OpenSpec.ofChange auditAllWrong)

/-- 'rutterlaw07.DiskPlays': WHATEVER THE INPUT: true; the input reads as it did. -/
def diskPlaysSpec : ChangeSpec := { name := "diskPlays", fn := fun _ => fun
  | [d1, d2] => { results := [.lit (.bool true)], args := [d1, d2] }
  | _ => none }
def diskPlaysRow : OpenClaim := { program := "ytkdcapgjmcjdjaa", sum := "9c2fd142e41eabf68d3104a4081deca5964e7b8daa9a1fb92183493bb894fd68", func := "rutter/rutterlaw07.DiskPlays", spec := "diskPlays", plainKeys := false, apart := false }
def DiskPlaysSaid : Prop := diskPlaysRow.holds Try.pinned (OpenSpec.ofChange diskPlaysSpec)

/-- ITS FALSE NEIGHBOUR: 'it returns false'. Refute it at one input. -/
def diskPlaysWrong : ChangeSpec := { name := "diskPlays", fn := fun _ => fun
  | [d1, d2] => { results := [.lit (.bool false)], args := [d1, d2] }
  | _ => none }
def DiskPlaysWrongFalsely : Prop := diskPlaysRow.holds Try.pinned (OpenSpec.ofChange diskPlaysWrong)

/-- 'rutterlaw07.DiskSafe': WHATEVER THE INPUT: true; the input reads as it did. -/
def diskSafeSpec : ChangeSpec := { name := "diskSafe", fn := fun _ => fun
  | [d1, d2] => { results := [.lit (.bool true)], args := [d1, d2] }
  | _ => none }
def diskSafeRow : OpenClaim := { program := "ytkdcapgjmcjdjaa", sum := "9c2fd142e41eabf68d3104a4081deca5964e7b8daa9a1fb92183493bb894fd68", func := "rutter/rutterlaw07.DiskSafe", spec := "diskSafe", plainKeys := false, apart := false }
def DiskSafeSaid : Prop := diskSafeRow.holds Try.pinned (OpenSpec.ofChange diskSafeSpec)

/-- ITS FALSE NEIGHBOUR: 'it returns false'. Refute it at one input. -/
def diskSafeWrong : ChangeSpec := { name := "diskSafe", fn := fun _ => fun
  | [d1, d2] => { results := [.lit (.bool false)], args := [d1, d2] }
  | _ => none }
def DiskSafeWrongFalsely : Prop := diskSafeRow.holds Try.pinned (OpenSpec.ofChange diskSafeWrong)

/-- 'rutterlaw11.SessionPlays': WHATEVER THE INPUT: true; the input reads as it did. -/
def sessionPlaysSpec : ChangeSpec := { name := "sessionPlays", fn := fun _ => fun
  | [d1, d2] => { results := [.lit (.bool true)], args := [d1, d2] }
  | _ => none }
def sessionPlaysRow : OpenClaim := { program := "ytkdcapgjmcjdjaa", sum := "9c2fd142e41eabf68d3104a4081deca5964e7b8daa9a1fb92183493bb894fd68", func := "rutter/rutterlaw11.SessionPlays", spec := "sessionPlays", unfollowed := true, recurses := true, plainKeys := false, apart := false }
def SessionPlaysSaid : Prop := sessionPlaysRow.holds Try.pinned (OpenSpec.ofChange sessionPlaysSpec)

/-- ITS FALSE NEIGHBOUR: 'it returns false'. Refute it at one input. -/
def sessionPlaysWrong : ChangeSpec := { name := "sessionPlays", fn := fun _ => fun
  | [d1, d2] => { results := [.lit (.bool false)], args := [d1, d2] }
  | _ => none }
def SessionPlaysWrongFalsely : Prop := sessionPlaysRow.holds Try.pinned (OpenSpec.ofChange sessionPlaysWrong)

/-- 'rutterlaw11.SessionOrder': WHATEVER THE INPUT: true; the input reads as it did. -/
def sessionOrderSpec : ChangeSpec := { name := "sessionOrder", fn := fun _ => fun
  | [d] => { results := [.lit (.bool true)], args := [d] }
  | _ => none }
def sessionOrderRow : OpenClaim := { program := "ytkdcapgjmcjdjaa", sum := "9c2fd142e41eabf68d3104a4081deca5964e7b8daa9a1fb92183493bb894fd68", func := "rutter/rutterlaw11.SessionOrder", spec := "sessionOrder", unfollowed := true, recurses := true, plainKeys := false, apart := false }
def SessionOrderSaid : Prop := sessionOrderRow.holds Try.pinned (OpenSpec.ofChange sessionOrderSpec)

/-- ITS FALSE NEIGHBOUR: 'it returns false'. Refute it at one input. -/
def sessionOrderWrong : ChangeSpec := { name := "sessionOrder", fn := fun _ => fun
  | [d] => { results := [.lit (.bool false)], args := [d] }
  | _ => none }
def SessionOrderWrongFalsely : Prop := sessionOrderRow.holds Try.pinned (OpenSpec.ofChange sessionOrderWrong)

/-- 'rutterlaw01.BufWrites': WHATEVER THE INPUT: true; the input reads as it did. -/
def bufWritesSpec : ChangeSpec := { name := "bufWrites", fn := fun _ => fun
  | [d] => { results := [.lit (.bool true)], args := [d] }
  | _ => none }
def bufWritesRow : OpenClaim := { program := "ytkdcapgjmcjdjaa", sum := "9c2fd142e41eabf68d3104a4081deca5964e7b8daa9a1fb92183493bb894fd68", func := "rutter/rutterlaw01.BufWrites", spec := "bufWrites", plainKeys := false, apart := false }
def BufWritesSaid : Prop := bufWritesRow.holds Try.pinned (OpenSpec.ofChange bufWritesSpec)

/-- ITS FALSE NEIGHBOUR: 'it returns false'. Refute it at one input. -/
def bufWritesWrong : ChangeSpec := { name := "bufWrites", fn := fun _ => fun
  | [d] => { results := [.lit (.bool false)], args := [d] }
  | _ => none }
def BufWritesWrongFalsely : Prop := bufWritesRow.holds Try.pinned (OpenSpec.ofChange bufWritesWrong)

/-- 'rutterlaw01.BufReads': WHATEVER THE INPUT: true; the input reads as it did. -/
def bufReadsSpec : ChangeSpec := { name := "bufReads", fn := fun _ => fun
  | [d1, d2] => { results := [.lit (.bool true)], args := [d1, d2] }
  | _ => none }
def bufReadsRow : OpenClaim := { program := "ytkdcapgjmcjdjaa", sum := "9c2fd142e41eabf68d3104a4081deca5964e7b8daa9a1fb92183493bb894fd68", func := "rutter/rutterlaw01.BufReads", spec := "bufReads", plainKeys := false, apart := false }
def BufReadsSaid : Prop := bufReadsRow.holds Try.pinned (OpenSpec.ofChange bufReadsSpec)

/-- ITS FALSE NEIGHBOUR: 'it returns false'. Refute it at one input. -/
def bufReadsWrong : ChangeSpec := { name := "bufReads", fn := fun _ => fun
  | [d1, d2] => { results := [.lit (.bool false)], args := [d1, d2] }
  | _ => none }
def BufReadsWrongFalsely : Prop := bufReadsRow.holds Try.pinned (OpenSpec.ofChange bufReadsWrong)

/-- 'rutterlaw01.BufBack': WHATEVER THE INPUT: true; the input reads as it did. -/
def bufBackSpec : ChangeSpec := { name := "bufBack", fn := fun _ => fun
  | [d1, d2, d3] => { results := [.lit (.bool true)], args := [d1, d2, d3] }
  | _ => none }
def bufBackRow : OpenClaim := { program := "ytkdcapgjmcjdjaa", sum := "9c2fd142e41eabf68d3104a4081deca5964e7b8daa9a1fb92183493bb894fd68", func := "rutter/rutterlaw01.BufBack", spec := "bufBack", plainKeys := false, apart := false }
def BufBackSaid : Prop := bufBackRow.holds Try.pinned (OpenSpec.ofChange bufBackSpec)

/-- ITS FALSE NEIGHBOUR: 'it returns false'. Refute it at one input. -/
def bufBackWrong : ChangeSpec := { name := "bufBack", fn := fun _ => fun
  | [d1, d2, d3] => { results := [.lit (.bool false)], args := [d1, d2, d3] }
  | _ => none }
def BufBackWrongFalsely : Prop := bufBackRow.holds Try.pinned (OpenSpec.ofChange bufBackWrong)

/-- 'rutterlaw12.TrackPlays': WHATEVER THE INPUT: true; the input reads as it did. -/
def trackPlaysSpec : ChangeSpec := { name := "trackPlays", fn := fun _ => fun
  | [d1, d2, d3] => { results := [.lit (.bool true)], args := [d1, d2, d3] }
  | _ => none }
def trackPlaysRow : OpenClaim := { program := "ytkdcapgjmcjdjaa", sum := "9c2fd142e41eabf68d3104a4081deca5964e7b8daa9a1fb92183493bb894fd68", func := "rutter/rutterlaw12.TrackPlays", spec := "trackPlays", unfollowed := true, recurses := true, plainKeys := false, apart := false }
def TrackPlaysSaid : Prop := trackPlaysRow.holds Try.pinned (OpenSpec.ofChange trackPlaysSpec)

/-- ITS FALSE NEIGHBOUR: 'it returns false'. Refute it at one input. -/
def trackPlaysWrong : ChangeSpec := { name := "trackPlays", fn := fun _ => fun
  | [d1, d2, d3] => { results := [.lit (.bool false)], args := [d1, d2, d3] }
  | _ => none }
def TrackPlaysWrongFalsely : Prop := trackPlaysRow.holds Try.pinned (OpenSpec.ofChange trackPlaysWrong)

/-- 'rutterlaw12.TrackBoth': WHATEVER THE INPUT: true; the input reads as it did. -/
def trackBothSpec : ChangeSpec := { name := "trackBoth", fn := fun _ => fun
  | [d1, d2, d3] => { results := [.lit (.bool true)], args := [d1, d2, d3] }
  | _ => none }
def trackBothRow : OpenClaim := { program := "ytkdcapgjmcjdjaa", sum := "9c2fd142e41eabf68d3104a4081deca5964e7b8daa9a1fb92183493bb894fd68", func := "rutter/rutterlaw12.TrackBoth", spec := "trackBoth", unfollowed := true, recurses := true, plainKeys := false, apart := false }
def TrackBothSaid : Prop := trackBothRow.holds Try.pinned (OpenSpec.ofChange trackBothSpec)

/-- ITS FALSE NEIGHBOUR: 'it returns false'. Refute it at one input. -/
def trackBothWrong : ChangeSpec := { name := "trackBoth", fn := fun _ => fun
  | [d1, d2, d3] => { results := [.lit (.bool false)], args := [d1, d2, d3] }
  | _ => none }
def TrackBothWrongFalsely : Prop := trackBothRow.holds Try.pinned (OpenSpec.ofChange trackBothWrong)

/-- 'rutterlaw18.NetPlays': WHATEVER THE INPUT: true; the input reads as it did. -/
def netPlaysSpec : ChangeSpec := { name := "netPlays", fn := fun _ => fun
  | [d1, d2] => { results := [.lit (.bool true)], args := [d1, d2] }
  | _ => none }
def netPlaysRow : OpenClaim := { program := "ytkdcapgjmcjdjaa", sum := "9c2fd142e41eabf68d3104a4081deca5964e7b8daa9a1fb92183493bb894fd68", func := "rutter/rutterlaw18.NetPlays", spec := "netPlays", inPlace := ["sync/atomic.AddInt64", "sync/atomic.LoadInt64"], unfollowed := true, recurses := true, plainKeys := false, apart := false }
def NetPlaysSaid : Prop := netPlaysRow.holds Try.pinned (OpenSpec.ofChange netPlaysSpec)

/-- ITS FALSE NEIGHBOUR: 'it returns false'. Refute it at one input. -/
def netPlaysWrong : ChangeSpec := { name := "netPlays", fn := fun _ => fun
  | [d1, d2] => { results := [.lit (.bool false)], args := [d1, d2] }
  | _ => none }
def NetPlaysWrongFalsely : Prop := netPlaysRow.holds Try.pinned (OpenSpec.ofChange netPlaysWrong)

/- THE SECOND FORM. 'bulk': how many values and letters a reading holds, each counted each time it is reached (what is shared counts as often as it is met; a slice's spare places count too). A statement '..UptoSaid' is the law's where the arguments, and the package variables that the reading takes, are together of bulk at most 1048576: NARROWER than '..Said'. Prove '..Said' where nothing that the law and all that it calls make is longer than what came in: it says more and counts as full. Else prove '..UptoSaid'. A law counts once. -/
mutual
def uptoBulk {H : Type} : DataW H → Nat
  | .lit (.string bytes) => bytes.length + 1
  | .lit _ => 1
  | .nil => 1
  | .ptr d => uptoBulk d + 1
  | .slice elems spare => uptoBulkAll elems + uptoBulkAll spare + 1
  | .agg parts => uptoBulkAll parts + 1
  | .iface _ d => uptoBulk d + 1
  | .map entries => uptoBulkEntries entries + 1
  | .held _ => 1
def uptoBulkAll {H : Type} : List (DataW H) → Nat
  | [] => 0
  | d :: r => uptoBulk d + uptoBulkAll r
def uptoBulkEntries {H : Type} : List (Lit × DataW H) → Nat
  | [] => 0
  | x :: r => uptoBulkEntry x + uptoBulkEntries r
def uptoBulkEntry {H : Type} : Lit × DataW H → Nat
  | (.string bytes, d) => bytes.length + uptoBulk d + 1
  | (_, d) => uptoBulk d + 1
 end
def uptoSmall : (H : Type) → List (DataW H) → Bool := fun _ ds => decide (uptoBulkAll ds ≤ 1048576)
def OpenSpec.upto (s : _root_.Go.ChangeSpec) : _root_.Go.OpenSpec := { _root_.Go.OpenSpec.ofChange s with cond := some uptoSmall }

/-- 'rutterlaw21.AuditTells', WHERE WHAT IT READS IS OF BULK AT MOST 1048576: true; the input reads as it did. -/
def auditTellsUptoRow : OpenClaim := { program := "ytkdcapgjmcjdjaa", sum := "9c2fd142e41eabf68d3104a4081deca5964e7b8daa9a1fb92183493bb894fd68", func := "rutter/rutterlaw21.AuditTells", spec := "auditTells", plainKeys := false, apart := false, narrowed := true }
def AuditTellsUptoSaid : Prop := auditTellsUptoRow.holds Try.pinned (OpenSpec.upto auditTellsSpec)

/-- 'rutterlaw21.AuditAll', WHERE WHAT IT READS IS OF BULK AT MOST 1048576: true; the input reads as it did. -/
def auditAllUptoRow : OpenClaim := { program := "ytkdcapgjmcjdjaa", sum := "9c2fd142e41eabf68d3104a4081deca5964e7b8daa9a1fb92183493bb894fd68", func := "rutter/rutterlaw21.AuditAll", spec := "auditAll", plainKeys := false, apart := false, narrowed := true }
def AuditAllUptoSaid : Prop := auditAllUptoRow.holds Try.pinned (OpenSpec.upto auditAllSpec)

/-- 'rutterlaw07.DiskPlays', WHERE WHAT IT READS IS OF BULK AT MOST 1048576: true; the input reads as it did. -/
def diskPlaysUptoRow : OpenClaim := { program := "ytkdcapgjmcjdjaa", sum := "9c2fd142e41eabf68d3104a4081deca5964e7b8daa9a1fb92183493bb894fd68", func := "rutter/rutterlaw07.DiskPlays", spec := "diskPlays", plainKeys := false, apart := false, narrowed := true }
def DiskPlaysUptoSaid : Prop := diskPlaysUptoRow.holds Try.pinned (OpenSpec.upto diskPlaysSpec)

/-- 'rutterlaw07.DiskSafe', WHERE WHAT IT READS IS OF BULK AT MOST 1048576: true; the input reads as it did. -/
def diskSafeUptoRow : OpenClaim := { program := "ytkdcapgjmcjdjaa", sum := "9c2fd142e41eabf68d3104a4081deca5964e7b8daa9a1fb92183493bb894fd68", func := "rutter/rutterlaw07.DiskSafe", spec := "diskSafe", plainKeys := false, apart := false, narrowed := true }
def DiskSafeUptoSaid : Prop := diskSafeUptoRow.holds Try.pinned (OpenSpec.upto diskSafeSpec)

/-- 'rutterlaw11.SessionPlays', WHERE WHAT IT READS IS OF BULK AT MOST 1048576: true; the input reads as it did. -/
def sessionPlaysUptoRow : OpenClaim := { program := "ytkdcapgjmcjdjaa", sum := "9c2fd142e41eabf68d3104a4081deca5964e7b8daa9a1fb92183493bb894fd68", func := "rutter/rutterlaw11.SessionPlays", spec := "sessionPlays", unfollowed := true, recurses := true, plainKeys := false, apart := false, narrowed := true }
def SessionPlaysUptoSaid : Prop := sessionPlaysUptoRow.holds Try.pinned (OpenSpec.upto sessionPlaysSpec)

/-- 'rutterlaw11.SessionOrder', WHERE WHAT IT READS IS OF BULK AT MOST 1048576: true; the input reads as it did. -/
def sessionOrderUptoRow : OpenClaim := { program := "ytkdcapgjmcjdjaa", sum := "9c2fd142e41eabf68d3104a4081deca5964e7b8daa9a1fb92183493bb894fd68", func := "rutter/rutterlaw11.SessionOrder", spec := "sessionOrder", unfollowed := true, recurses := true, plainKeys := false, apart := false, narrowed := true }
def SessionOrderUptoSaid : Prop := sessionOrderUptoRow.holds Try.pinned (OpenSpec.upto sessionOrderSpec)

/-- 'rutterlaw01.BufWrites', WHERE WHAT IT READS IS OF BULK AT MOST 1048576: true; the input reads as it did. -/
def bufWritesUptoRow : OpenClaim := { program := "ytkdcapgjmcjdjaa", sum := "9c2fd142e41eabf68d3104a4081deca5964e7b8daa9a1fb92183493bb894fd68", func := "rutter/rutterlaw01.BufWrites", spec := "bufWrites", plainKeys := false, apart := false, narrowed := true }
def BufWritesUptoSaid : Prop := bufWritesUptoRow.holds Try.pinned (OpenSpec.upto bufWritesSpec)

/-- 'rutterlaw01.BufReads', WHERE WHAT IT READS IS OF BULK AT MOST 1048576: true; the input reads as it did. -/
def bufReadsUptoRow : OpenClaim := { program := "ytkdcapgjmcjdjaa", sum := "9c2fd142e41eabf68d3104a4081deca5964e7b8daa9a1fb92183493bb894fd68", func := "rutter/rutterlaw01.BufReads", spec := "bufReads", plainKeys := false, apart := false, narrowed := true }
def BufReadsUptoSaid : Prop := bufReadsUptoRow.holds Try.pinned (OpenSpec.upto bufReadsSpec)

/-- 'rutterlaw01.BufBack', WHERE WHAT IT READS IS OF BULK AT MOST 1048576: true; the input reads as it did. -/
def bufBackUptoRow : OpenClaim := { program := "ytkdcapgjmcjdjaa", sum := "9c2fd142e41eabf68d3104a4081deca5964e7b8daa9a1fb92183493bb894fd68", func := "rutter/rutterlaw01.BufBack", spec := "bufBack", plainKeys := false, apart := false, narrowed := true }
def BufBackUptoSaid : Prop := bufBackUptoRow.holds Try.pinned (OpenSpec.upto bufBackSpec)

/-- 'rutterlaw12.TrackPlays', WHERE WHAT IT READS IS OF BULK AT MOST 1048576: true; the input reads as it did. -/
def trackPlaysUptoRow : OpenClaim := { program := "ytkdcapgjmcjdjaa", sum := "9c2fd142e41eabf68d3104a4081deca5964e7b8daa9a1fb92183493bb894fd68", func := "rutter/rutterlaw12.TrackPlays", spec := "trackPlays", unfollowed := true, recurses := true, plainKeys := false, apart := false, narrowed := true }
def TrackPlaysUptoSaid : Prop := trackPlaysUptoRow.holds Try.pinned (OpenSpec.upto trackPlaysSpec)

/-- 'rutterlaw12.TrackBoth', WHERE WHAT IT READS IS OF BULK AT MOST 1048576: true; the input reads as it did. -/
def trackBothUptoRow : OpenClaim := { program := "ytkdcapgjmcjdjaa", sum := "9c2fd142e41eabf68d3104a4081deca5964e7b8daa9a1fb92183493bb894fd68", func := "rutter/rutterlaw12.TrackBoth", spec := "trackBoth", unfollowed := true, recurses := true, plainKeys := false, apart := false, narrowed := true }
def TrackBothUptoSaid : Prop := trackBothUptoRow.holds Try.pinned (OpenSpec.upto trackBothSpec)

/-- 'rutterlaw18.NetPlays', WHERE WHAT IT READS IS OF BULK AT MOST 1048576: true; the input reads as it did. -/
def netPlaysUptoRow : OpenClaim := { program := "ytkdcapgjmcjdjaa", sum := "9c2fd142e41eabf68d3104a4081deca5964e7b8daa9a1fb92183493bb894fd68", func := "rutter/rutterlaw18.NetPlays", spec := "netPlays", inPlace := ["sync/atomic.AddInt64", "sync/atomic.LoadInt64"], unfollowed := true, recurses := true, plainKeys := false, apart := false, narrowed := true }
def NetPlaysUptoSaid : Prop := netPlaysUptoRow.holds Try.pinned (OpenSpec.upto netPlaysSpec)

end Rows
end Go.Proofs.Ytkdcapgjmcjdjaa
