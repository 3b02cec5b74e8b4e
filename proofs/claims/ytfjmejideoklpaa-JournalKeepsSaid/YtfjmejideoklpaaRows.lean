/-
  No cell of these rows narrows 'for every input' (looked for: loops, veiled, ifaces, maps, wideKeys, modest, calm, conditions, laid).
  DERIVED. THE GIVEN ROWS OF THIS SEAT. 12 by the template 'for every input the law returns true; each argument reads behind the call as it read before'; 0 by the template 'total and deterministic' (their statements: YtfjmejideoklpaaTotals.lean).
  GIVEN WITH THE SEED: the statements are not yours to turn. If you find one false, say at which input.
  Laid BY PROGRAM, IN A SANDBOX (cutbox-rows.mjs): the forced cells as the released guide's own fill.sh prints them over the translation 885e4213ea17206e… (all of the seat's roots in one cut). By AI agents, Wed Nov 11 2026. No macro, syntax, notation, axiom, sorry.
-/
import Derived.Test.YtfjmejideoklpaaChecked
import GoSem.Claim
import GoSem.ClaimJoined
import GoSem.ClaimMapViews
import Derived.JoinedTies
import Derived.KernelRfl
namespace Go.Proofs.Ytfjmejideoklpaa
/- THE CELL 'sum', in the pinned program and in every row, IS THE sha256 OF THE DUMP (.gsa) THAT YtfjmejideoklpaaProg.lean LOADS. Nothing in Lean hashes anything: it is a label: what it is worth is what the hold of that sum in a sandbox is worth. -/
noncomputable def Try.pinned : Pinned := { name := "ytfjmejideoklpaa", sum := "885e4213ea17206e8d583bff463a60d03a4aa853d0e2f799177f351d6be30644", checked := Try.checked }
namespace Rows
def none {H : Type} : Left H := { results := [], args := [] }

/-- 'rutterlaw06.ControlTells': WHATEVER THE INPUT: true; the input reads as it did. -/
def controlTellsSpec : ChangeSpec := { name := "controlTells", fn := fun _ => fun
  | [d1, d2, d3] => { results := [.lit (.bool true)], args := [d1, d2, d3] }
  | _ => none }
def controlTellsRow : OpenClaim := { program := "ytfjmejideoklpaa", sum := "885e4213ea17206e8d583bff463a60d03a4aa853d0e2f799177f351d6be30644", func := "rutter/rutterlaw06.ControlTells", spec := "controlTells", unfollowed := true, recurses := true, apart := false }
def ControlTellsSaid : Prop := controlTellsRow.holds Try.pinned (OpenSpec.ofChange controlTellsSpec)

/-- ITS FALSE NEIGHBOUR: 'it returns false'. Refute it at one input. -/
def controlTellsWrong : ChangeSpec := { name := "controlTells", fn := fun _ => fun
  | [d1, d2, d3] => { results := [.lit (.bool false)], args := [d1, d2, d3] }
  | _ => none }
def ControlTellsWrongFalsely : Prop := controlTellsRow.holds Try.pinned (OpenSpec.ofChange controlTellsWrong)

/-- 'rutterlaw06.ControlBytes': WHATEVER THE INPUT: true; the input reads as it did. -/
def controlBytesSpec : ChangeSpec := { name := "controlBytes", fn := fun _ => fun
  | [d] => { results := [.lit (.bool true)], args := [d] }
  | _ => none }
def controlBytesRow : OpenClaim := { program := "ytfjmejideoklpaa", sum := "885e4213ea17206e8d583bff463a60d03a4aa853d0e2f799177f351d6be30644", func := "rutter/rutterlaw06.ControlBytes", spec := "controlBytes", unfollowed := true, recurses := true, apart := false }
def ControlBytesSaid : Prop := controlBytesRow.holds Try.pinned (OpenSpec.ofChange controlBytesSpec)

/-- ITS FALSE NEIGHBOUR: 'it returns false'. Refute it at one input. -/
def controlBytesWrong : ChangeSpec := { name := "controlBytes", fn := fun _ => fun
  | [d] => { results := [.lit (.bool false)], args := [d] }
  | _ => none }
def ControlBytesWrongFalsely : Prop := controlBytesRow.holds Try.pinned (OpenSpec.ofChange controlBytesWrong)

/-- 'rutterlaw11.SessionLetters': WHATEVER THE INPUT: true; the input reads as it did. -/
def sessionLettersSpec : ChangeSpec := { name := "sessionLetters", fn := fun _ => fun
  | [d1, d2] => { results := [.lit (.bool true)], args := [d1, d2] }
  | _ => none }
def sessionLettersRow : OpenClaim := { program := "ytfjmejideoklpaa", sum := "885e4213ea17206e8d583bff463a60d03a4aa853d0e2f799177f351d6be30644", func := "rutter/rutterlaw11.SessionLetters", spec := "sessionLetters", unfollowed := true, recurses := true, apart := false }
def SessionLettersSaid : Prop := sessionLettersRow.holds Try.pinned (OpenSpec.ofChange sessionLettersSpec)

/-- ITS FALSE NEIGHBOUR: 'it returns false'. Refute it at one input. -/
def sessionLettersWrong : ChangeSpec := { name := "sessionLetters", fn := fun _ => fun
  | [d1, d2] => { results := [.lit (.bool false)], args := [d1, d2] }
  | _ => none }
def SessionLettersWrongFalsely : Prop := sessionLettersRow.holds Try.pinned (OpenSpec.ofChange sessionLettersWrong)

/-- 'rutterlaw13.FlowTells': WHATEVER THE INPUT: true; the input reads as it did. -/
def flowTellsSpec : ChangeSpec := { name := "flowTells", fn := fun _ => fun
  | [d1, d2] => { results := [.lit (.bool true)], args := [d1, d2] }
  | _ => none }
def flowTellsRow : OpenClaim := { program := "ytfjmejideoklpaa", sum := "885e4213ea17206e8d583bff463a60d03a4aa853d0e2f799177f351d6be30644", func := "rutter/rutterlaw13.FlowTells", spec := "flowTells", unfollowed := true, recurses := true, apart := false }
def FlowTellsSaid : Prop := flowTellsRow.holds Try.pinned (OpenSpec.ofChange flowTellsSpec)

/-- ITS FALSE NEIGHBOUR: 'it returns false'. Refute it at one input. -/
def flowTellsWrong : ChangeSpec := { name := "flowTells", fn := fun _ => fun
  | [d1, d2] => { results := [.lit (.bool false)], args := [d1, d2] }
  | _ => none }
def FlowTellsWrongFalsely : Prop := flowTellsRow.holds Try.pinned (OpenSpec.ofChange flowTellsWrong)

/-- 'rutterlaw13.FlowRank': WHATEVER THE INPUT: true; the input reads as it did. -/
def flowRankSpec : ChangeSpec := { name := "flowRank", fn := fun _ => fun
  | [d1, d2] => { results := [.lit (.bool true)], args := [d1, d2] }
  | _ => none }
def flowRankRow : OpenClaim := { program := "ytfjmejideoklpaa", sum := "885e4213ea17206e8d583bff463a60d03a4aa853d0e2f799177f351d6be30644", func := "rutter/rutterlaw13.FlowRank", spec := "flowRank", unfollowed := true, recurses := true, apart := false }
def FlowRankSaid : Prop := flowRankRow.holds Try.pinned (OpenSpec.ofChange flowRankSpec)

/-- ITS FALSE NEIGHBOUR: 'it returns false'. Refute it at one input. -/
def flowRankWrong : ChangeSpec := { name := "flowRank", fn := fun _ => fun
  | [d1, d2] => { results := [.lit (.bool false)], args := [d1, d2] }
  | _ => none }
def FlowRankWrongFalsely : Prop := flowRankRow.holds Try.pinned (OpenSpec.ofChange flowRankWrong)

/-- 'rutterlaw08.JournalPlays': WHATEVER THE INPUT: true; the input reads as it did. -/
def journalPlaysSpec : ChangeSpec := { name := "journalPlays", fn := fun _ => fun
  | [d1, d2] => { results := [.lit (.bool true)], args := [d1, d2] }
  | _ => none }
def journalPlaysRow : OpenClaim := { program := "ytfjmejideoklpaa", sum := "885e4213ea17206e8d583bff463a60d03a4aa853d0e2f799177f351d6be30644", func := "rutter/rutterlaw08.JournalPlays", spec := "journalPlays", apart := false }
def JournalPlaysSaid : Prop := journalPlaysRow.holds Try.pinned (OpenSpec.ofChange journalPlaysSpec)

/-- ITS FALSE NEIGHBOUR: 'it returns false'. Refute it at one input. -/
def journalPlaysWrong : ChangeSpec := { name := "journalPlays", fn := fun _ => fun
  | [d1, d2] => { results := [.lit (.bool false)], args := [d1, d2] }
  | _ => none }
def JournalPlaysWrongFalsely : Prop := journalPlaysRow.holds Try.pinned (OpenSpec.ofChange journalPlaysWrong)

/-- 'rutterlaw08.JournalScans': WHATEVER THE INPUT: true; the input reads as it did. -/
def journalScansSpec : ChangeSpec := { name := "journalScans", fn := fun _ => fun
  | [d1, d2] => { results := [.lit (.bool true)], args := [d1, d2] }
  | _ => none }
def journalScansRow : OpenClaim := { program := "ytfjmejideoklpaa", sum := "885e4213ea17206e8d583bff463a60d03a4aa853d0e2f799177f351d6be30644", func := "rutter/rutterlaw08.JournalScans", spec := "journalScans", apart := false }
def JournalScansSaid : Prop := journalScansRow.holds Try.pinned (OpenSpec.ofChange journalScansSpec)

/-- ITS FALSE NEIGHBOUR: 'it returns false'. Refute it at one input. -/
def journalScansWrong : ChangeSpec := { name := "journalScans", fn := fun _ => fun
  | [d1, d2] => { results := [.lit (.bool false)], args := [d1, d2] }
  | _ => none }
def JournalScansWrongFalsely : Prop := journalScansRow.holds Try.pinned (OpenSpec.ofChange journalScansWrong)

/-- 'rutterlaw08.JournalKeeps': WHATEVER THE INPUT: true; the input reads as it did. -/
def journalKeepsSpec : ChangeSpec := { name := "journalKeeps", fn := fun _ => fun
  | [d1, d2, d3] => { results := [.lit (.bool true)], args := [d1, d2, d3] }
  | _ => none }
def journalKeepsRow : OpenClaim := { program := "ytfjmejideoklpaa", sum := "885e4213ea17206e8d583bff463a60d03a4aa853d0e2f799177f351d6be30644", func := "rutter/rutterlaw08.JournalKeeps", spec := "journalKeeps", apart := false }
def JournalKeepsSaid : Prop := journalKeepsRow.holds Try.pinned (OpenSpec.ofChange journalKeepsSpec)

/-- ITS FALSE NEIGHBOUR: 'it returns false'. Refute it at one input. -/
def journalKeepsWrong : ChangeSpec := { name := "journalKeeps", fn := fun _ => fun
  | [d1, d2, d3] => { results := [.lit (.bool false)], args := [d1, d2, d3] }
  | _ => none }
def JournalKeepsWrongFalsely : Prop := journalKeepsRow.holds Try.pinned (OpenSpec.ofChange journalKeepsWrong)

/-- 'rutterlaw14.BindMeans': WHATEVER THE INPUT: true; the input reads as it did. -/
def bindMeansSpec : ChangeSpec := { name := "bindMeans", fn := fun _ => fun
  | [d1, d2, d3] => { results := [.lit (.bool true)], args := [d1, d2, d3] }
  | _ => none }
def bindMeansRow : OpenClaim := { program := "ytfjmejideoklpaa", sum := "885e4213ea17206e8d583bff463a60d03a4aa853d0e2f799177f351d6be30644", func := "rutter/rutterlaw14.BindMeans", spec := "bindMeans", unfollowed := true, recurses := true, apart := false }
def BindMeansSaid : Prop := bindMeansRow.holds Try.pinned (OpenSpec.ofChange bindMeansSpec)

/-- ITS FALSE NEIGHBOUR: 'it returns false'. Refute it at one input. -/
def bindMeansWrong : ChangeSpec := { name := "bindMeans", fn := fun _ => fun
  | [d1, d2, d3] => { results := [.lit (.bool false)], args := [d1, d2, d3] }
  | _ => none }
def BindMeansWrongFalsely : Prop := bindMeansRow.holds Try.pinned (OpenSpec.ofChange bindMeansWrong)

/-- 'rutterlaw14.BindTable': WHATEVER THE INPUT: true; the input reads as it did. -/
def bindTableSpec : ChangeSpec := { name := "bindTable", fn := fun _ => fun
  | [d1, d2, d3] => { results := [.lit (.bool true)], args := [d1, d2, d3] }
  | _ => none }
def bindTableRow : OpenClaim := { program := "ytfjmejideoklpaa", sum := "885e4213ea17206e8d583bff463a60d03a4aa853d0e2f799177f351d6be30644", func := "rutter/rutterlaw14.BindTable", spec := "bindTable", unfollowed := true, recurses := true, apart := false }
def BindTableSaid : Prop := bindTableRow.holds Try.pinned (OpenSpec.ofChange bindTableSpec)

/-- ITS FALSE NEIGHBOUR: 'it returns false'. Refute it at one input. -/
def bindTableWrong : ChangeSpec := { name := "bindTable", fn := fun _ => fun
  | [d1, d2, d3] => { results := [.lit (.bool false)], args := [d1, d2, d3] }
  | _ => none }
def BindTableWrongFalsely : Prop := bindTableRow.holds Try.pinned (OpenSpec.ofChange bindTableWrong)

/-- 'rutterlaw14.BindOne': WHATEVER THE INPUT: true; the input reads as it did. -/
def bindOneSpec : ChangeSpec := { name := "bindOne", fn := fun _ => fun
  | [d1, d2, d3] => { results := [.lit (.bool true)], args := [d1, d2, d3] }
  | _ => none }
def bindOneRow : OpenClaim := { program := "ytfjmejideoklpaa", sum := "885e4213ea17206e8d583bff463a60d03a4aa853d0e2f799177f351d6be30644", func := "rutter/rutterlaw14.BindOne", spec := "bindOne", unfollowed := true, recurses := true, apart := false }
def BindOneSaid : Prop := bindOneRow.holds Try.pinned (OpenSpec.ofChange bindOneSpec)

/-- ITS FALSE NEIGHBOUR: 'it returns false'. Refute it at one input. -/
def bindOneWrong : ChangeSpec := { name := "bindOne", fn := fun _ => fun
  | [d1, d2, d3] => { results := [.lit (.bool false)], args := [d1, d2, d3] }
  | _ => none }
def BindOneWrongFalsely : Prop := bindOneRow.holds Try.pinned (OpenSpec.ofChange bindOneWrong)

/-- 'rutterlaw15.DpathGuest': WHATEVER THE INPUT: true; the input reads as it did. -/
def dpathGuestSpec : ChangeSpec := { name := "dpathGuest", fn := fun _ => fun
  | [d1, d2, d3] => { results := [.lit (.bool true)], args := [d1, d2, d3] }
  | _ => none }
def dpathGuestRow : OpenClaim := { program := "ytfjmejideoklpaa", sum := "885e4213ea17206e8d583bff463a60d03a4aa853d0e2f799177f351d6be30644", func := "rutter/rutterlaw15.DpathGuest", spec := "dpathGuest", unfollowed := true, recurses := true, apart := false }
def DpathGuestSaid : Prop := dpathGuestRow.holds Try.pinned (OpenSpec.ofChange dpathGuestSpec)

/-- ITS FALSE NEIGHBOUR: 'it returns false'. Refute it at one input. -/
def dpathGuestWrong : ChangeSpec := { name := "dpathGuest", fn := fun _ => fun
  | [d1, d2, d3] => { results := [.lit (.bool false)], args := [d1, d2, d3] }
  | _ => none }
def DpathGuestWrongFalsely : Prop := dpathGuestRow.holds Try.pinned (OpenSpec.ofChange dpathGuestWrong)

/- THE SECOND FORM. 'bulk': how many values and letters a reading holds, each counted each time it is reached (what is shared counts as often as it is met; a slice's spare places count too). A statement '..UptoSaid' is the law's where the arguments, and the package variables that the reading takes, are together of bulk at most 1048576: NARROWER than '..Said'. Prove '..Said' where nothing that the law and all that it calls make is longer than what came in: it says more and counts as full. Else prove '..UptoSaid'. A law counts once. -/
mutual
def uptoBulk {H : Type} : DataW H → Nat
  | .lit (.string bytes) => bytes.length + 1
  | .lit _ => 1
  | .nil => 1
  | .ptr d => uptoBulk d + 1
  | .slice elems spare => uptoBulkAll elems + uptoBulkAll spare + 1
  | .agg parts => uptoBulkAll parts + 1
  | .iface _ d => uptoBulk d + 1
  | .map entries => uptoBulkEntries entries + 1
  | .held _ => 1
def uptoBulkAll {H : Type} : List (DataW H) → Nat
  | [] => 0
  | d :: r => uptoBulk d + uptoBulkAll r
def uptoBulkEntries {H : Type} : List (Lit × DataW H) → Nat
  | [] => 0
  | x :: r => uptoBulkEntry x + uptoBulkEntries r
def uptoBulkEntry {H : Type} : Lit × DataW H → Nat
  | (.string bytes, d) => bytes.length + uptoBulk d + 1
  | (_, d) => uptoBulk d + 1
 end
def uptoSmall : (H : Type) → List (DataW H) → Bool := fun _ ds => decide (uptoBulkAll ds ≤ 1048576)
def OpenSpec.upto (s : _root_.Go.ChangeSpec) : _root_.Go.OpenSpec := { _root_.Go.OpenSpec.ofChange s with cond := some uptoSmall }

/-- 'rutterlaw06.ControlTells', WHERE WHAT IT READS IS OF BULK AT MOST 1048576: true; the input reads as it did. -/
def controlTellsUptoRow : OpenClaim := { program := "ytfjmejideoklpaa", sum := "885e4213ea17206e8d583bff463a60d03a4aa853d0e2f799177f351d6be30644", func := "rutter/rutterlaw06.ControlTells", spec := "controlTells", unfollowed := true, recurses := true, apart := false, narrowed := true }
def ControlTellsUptoSaid : Prop := controlTellsUptoRow.holds Try.pinned (OpenSpec.upto controlTellsSpec)

/-- 'rutterlaw06.ControlBytes', WHERE WHAT IT READS IS OF BULK AT MOST 1048576: true; the input reads as it did. -/
def controlBytesUptoRow : OpenClaim := { program := "ytfjmejideoklpaa", sum := "885e4213ea17206e8d583bff463a60d03a4aa853d0e2f799177f351d6be30644", func := "rutter/rutterlaw06.ControlBytes", spec := "controlBytes", unfollowed := true, recurses := true, apart := false, narrowed := true }
def ControlBytesUptoSaid : Prop := controlBytesUptoRow.holds Try.pinned (OpenSpec.upto controlBytesSpec)

/-- 'rutterlaw11.SessionLetters', WHERE WHAT IT READS IS OF BULK AT MOST 1048576: true; the input reads as it did. -/
def sessionLettersUptoRow : OpenClaim := { program := "ytfjmejideoklpaa", sum := "885e4213ea17206e8d583bff463a60d03a4aa853d0e2f799177f351d6be30644", func := "rutter/rutterlaw11.SessionLetters", spec := "sessionLetters", unfollowed := true, recurses := true, apart := false, narrowed := true }
def SessionLettersUptoSaid : Prop := sessionLettersUptoRow.holds Try.pinned (OpenSpec.upto sessionLettersSpec)

/-- 'rutterlaw13.FlowTells', WHERE WHAT IT READS IS OF BULK AT MOST 1048576: true; the input reads as it did. -/
def flowTellsUptoRow : OpenClaim := { program := "ytfjmejideoklpaa", sum := "885e4213ea17206e8d583bff463a60d03a4aa853d0e2f799177f351d6be30644", func := "rutter/rutterlaw13.FlowTells", spec := "flowTells", unfollowed := true, recurses := true, apart := false, narrowed := true }
def FlowTellsUptoSaid : Prop := flowTellsUptoRow.holds Try.pinned (OpenSpec.upto flowTellsSpec)

/-- 'rutterlaw13.FlowRank', WHERE WHAT IT READS IS OF BULK AT MOST 1048576: true; the input reads as it did. -/
def flowRankUptoRow : OpenClaim := { program := "ytfjmejideoklpaa", sum := "885e4213ea17206e8d583bff463a60d03a4aa853d0e2f799177f351d6be30644", func := "rutter/rutterlaw13.FlowRank", spec := "flowRank", unfollowed := true, recurses := true, apart := false, narrowed := true }
def FlowRankUptoSaid : Prop := flowRankUptoRow.holds Try.pinned (OpenSpec.upto flowRankSpec)

/-- 'rutterlaw08.JournalPlays', WHERE WHAT IT READS IS OF BULK AT MOST 1048576: true; the input reads as it did. -/
def journalPlaysUptoRow : OpenClaim := { program := "ytfjmejideoklpaa", sum := "885e4213ea17206e8d583bff463a60d03a4aa853d0e2f799177f351d6be30644", func := "rutter/rutterlaw08.JournalPlays", spec := "journalPlays", apart := false, narrowed := true }
def JournalPlaysUptoSaid : Prop := journalPlaysUptoRow.holds Try.pinned (OpenSpec.upto journalPlaysSpec)

/-- 'rutterlaw08.JournalScans', WHERE WHAT IT READS IS OF BULK AT MOST 1048576: true; the input reads as it did. -/
def journalScansUptoRow : OpenClaim := { program := "ytfjmejideoklpaa", sum := "885e4213ea17206e8d583bff463a60d03a4aa853d0e2f799177f351d6be30644", func := "rutter/rutterlaw08.JournalScans", spec := "journalScans", apart := false, narrowed := true }
def JournalScansUptoSaid : Prop := journalScansUptoRow.holds Try.pinned (OpenSpec.upto journalScansSpec)

/-- 'rutterlaw08.JournalKeeps', WHERE WHAT IT READS IS OF BULK AT MOST 1048576: true; the input reads as it did. -/
def journalKeepsUptoRow : OpenClaim := { program := "ytfjmejideoklpaa", sum := "885e4213ea17206e8d583bff463a60d03a4aa853d0e2f799177f351d6be30644", func := "rutter/rutterlaw08.JournalKeeps", spec := "journalKeeps", apart := false, narrowed := true }
def JournalKeepsUptoSaid : Prop := journalKeepsUptoRow.holds Try.pinned (OpenSpec.upto journalKeepsSpec)

/-- 'rutterlaw14.BindMeans', WHERE WHAT IT READS IS OF BULK AT MOST 1048576: true; the input reads as it did. -/
def bindMeansUptoRow : OpenClaim := { program := "ytfjmejideoklpaa", sum := "885e4213ea17206e8d583bff463a60d03a4aa853d0e2f799177f351d6be30644", func := "rutter/rutterlaw14.BindMeans", spec := "bindMeans", unfollowed := true, recurses := true, apart := false, narrowed := true }
def BindMeansUptoSaid : Prop := bindMeansUptoRow.holds Try.pinned (OpenSpec.upto bindMeansSpec)

/-- 'rutterlaw14.BindTable', WHERE WHAT IT READS IS OF BULK AT MOST 1048576: true; the input reads as it did. -/
def bindTableUptoRow : OpenClaim := { program := "ytfjmejideoklpaa", sum := "885e4213ea17206e8d583bff463a60d03a4aa853d0e2f799177f351d6be30644", func := "rutter/rutterlaw14.BindTable", spec := "bindTable", unfollowed := true, recurses := true, apart := false, narrowed := true }
def BindTableUptoSaid : Prop := bindTableUptoRow.holds Try.pinned (OpenSpec.upto bindTableSpec)

/-- 'rutterlaw14.BindOne', WHERE WHAT IT READS IS OF BULK AT MOST 1048576: true; the input reads as it did. -/
def bindOneUptoRow : OpenClaim := { program := "ytfjmejideoklpaa", sum := "885e4213ea17206e8d583bff463a60d03a4aa853d0e2f799177f351d6be30644", func := "rutter/rutterlaw14.BindOne", spec := "bindOne", unfollowed := true, recurses := true, apart := false, narrowed := true }
def BindOneUptoSaid : Prop := bindOneUptoRow.holds Try.pinned (OpenSpec.upto bindOneSpec)

/-- 'rutterlaw15.DpathGuest', WHERE WHAT IT READS IS OF BULK AT MOST 1048576: true; the input reads as it did. -/
def dpathGuestUptoRow : OpenClaim := { program := "ytfjmejideoklpaa", sum := "885e4213ea17206e8d583bff463a60d03a4aa853d0e2f799177f351d6be30644", func := "rutter/rutterlaw15.DpathGuest", spec := "dpathGuest", unfollowed := true, recurses := true, apart := false, narrowed := true }
def DpathGuestUptoSaid : Prop := dpathGuestUptoRow.holds Try.pinned (OpenSpec.upto dpathGuestSpec)

end Rows
end Go.Proofs.Ytfjmejideoklpaa
