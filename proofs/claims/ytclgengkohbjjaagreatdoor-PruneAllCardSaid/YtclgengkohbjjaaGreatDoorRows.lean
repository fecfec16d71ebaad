/-
  NARROWER THAN 'FOR EVERY INPUT', by the rows' own cells (each row's printed sentence says how): PruneDeletes: laid · PruneEmpties: laid · GrowPuts: laid · GrowWhole: laid · GrowKeeps: laid · GrowAll: laid · GrowOrder: laid · GrowGets: laid · PruneChanges: laid · PruneKeeps: laid · PruneAll: laid · CheckChanges: laid.
  DERIVED. THE GIVEN ROWS OF THIS SEAT. 12 by the template 'for every input the law returns true; each argument reads behind the call as it read before'; 0 by the template 'total and deterministic' (their statements: YtclgengkohbjjaaGreatDoorTotals.lean).
  GIVEN WITH THE SEED: the statements are not yours to turn. If you find one false, say at which input.
  Laid BY PROGRAM, IN A SANDBOX (cutbox-rows.mjs): the forced cells as the released guide's own fill.sh prints them over the translation e54531d663108c5c… (all of the seat's roots in one cut). By AI agents, Wed Nov 11 2026. No macro, syntax, notation, axiom, sorry.
-/
import Derived.Test.YtclgengkohbjjaaGreatDoorChecked
import GoSem.PinnedTables
import GoSem.Claim
import GoSem.ClaimJoined
import GoSem.ClaimMapViews
import Derived.JoinedTies
import Derived.KernelRfl
namespace Go.Proofs.YtclgengkohbjjaaGreatDoor
/- THE CELL 'sum', in the pinned program and in every row, IS THE sha256 OF THE DUMP (.gsa) THAT YtclgengkohbjjaaGreatDoorProg.lean LOADS. Nothing in Lean hashes anything: it is a label: what it is worth is what the hold of that sum in a sandbox is worth. -/
noncomputable def Tryz.pinned : Pinned := { name := "ytclgengkohbjjaagreatdoor", sum := "e54531d663108c5c6c1cc53357d87470447132519aa2f9f30e788528b901621b", checked := Tryz.checked }
namespace Rows
def none {H : Type} : Left H := { results := [], args := [] }

/- WHAT THE LISTED PACKAGE-LEVEL VARIABLES READ AS WHEN THE CALL BEGINS. Each datum BY PROGRAM (the guide's laid-datum.mjs) off the statement by which the dump's own 'gosem.cut.vars' lays the variable. In a bare row this is a premise. The card (YtclgengkohbjjaaGreatDoorCards.lean) ties it to the program's text. -/
def laid_unicode_utf8_acceptRanges {H : Type} : DataW H := .agg [.agg [.lit (.int .u8 128), .lit (.int .u8 191)], .agg [.lit (.int .u8 160), .lit (.int .u8 191)], .agg [.lit (.int .u8 128), .lit (.int .u8 159)], .agg [.lit (.int .u8 144), .lit (.int .u8 191)], .agg [.lit (.int .u8 128), .lit (.int .u8 143)], .agg [.lit (.int .u8 0), .lit (.int .u8 0)], .agg [.lit (.int .u8 0), .lit (.int .u8 0)], .agg [.lit (.int .u8 0), .lit (.int .u8 0)], .agg [.lit (.int .u8 0), .lit (.int .u8 0)], .agg [.lit (.int .u8 0), .lit (.int .u8 0)], .agg [.lit (.int .u8 0), .lit (.int .u8 0)], .agg [.lit (.int .u8 0), .lit (.int .u8 0)], .agg [.lit (.int .u8 0), .lit (.int .u8 0)], .agg [.lit (.int .u8 0), .lit (.int .u8 0)], .agg [.lit (.int .u8 0), .lit (.int .u8 0)], .agg [.lit (.int .u8 0), .lit (.int .u8 0)]]
/-- One of Go's own tables, pinned by name: the form's constant. -/
def laid_unicode_utf8_first : DataW Unit := Go.Pinned.utf8First

/-- 'penelopelaw10.PruneDeletes': WHATEVER THE INPUT: true; the input reads as it did. -/
def pruneDeletesSpec : ChangeSpec := { name := "pruneDeletes", fn := fun _ => fun
  | [d1, d2] => { results := [.lit (.bool true)], args := [d1, d2] }
  | _ => none }
def pruneDeletesRow : OpenClaim := { program := "ytclgengkohbjjaagreatdoor", sum := "e54531d663108c5c6c1cc53357d87470447132519aa2f9f30e788528b901621b", func := "penelope/penelopelaw10.PruneDeletes", spec := "pruneDeletes", inPlace := ["internal/abi.NoEscape", "internal/bytealg.MakeNoZero", "internal/bytealg.IndexByteString", "internal/bytealg.IndexString"], unfollowed := true, recurses := true, named := ["unicode/utf8.first", "unicode/utf8.acceptRanges", "internal/bytealg.MaxLen"], apart := false, laid := [("unicode/utf8.acceptRanges", laid_unicode_utf8_acceptRanges), ("unicode/utf8.first", laid_unicode_utf8_first)] }
def PruneDeletesSaid : Prop := pruneDeletesRow.holds Tryz.pinned (OpenSpec.ofChange pruneDeletesSpec)

/-- ITS FALSE NEIGHBOUR: 'it returns false'. Refute it at one input. -/
def pruneDeletesWrong : ChangeSpec := { name := "pruneDeletes", fn := fun _ => fun
  | [d1, d2] => { results := [.lit (.bool false)], args := [d1, d2] }
  | _ => none }
def PruneDeletesWrongFalsely : Prop := pruneDeletesRow.holds Tryz.pinned (OpenSpec.ofChange pruneDeletesWrong)

/-- 'penelopelaw10.PruneEmpties': WHATEVER THE INPUT: true; the input reads as it did. -/
def pruneEmptiesSpec : ChangeSpec := { name := "pruneEmpties", fn := fun _ => fun
  | [d1, d2] => { results := [.lit (.bool true)], args := [d1, d2] }
  | _ => none }
def pruneEmptiesRow : OpenClaim := { program := "ytclgengkohbjjaagreatdoor", sum := "e54531d663108c5c6c1cc53357d87470447132519aa2f9f30e788528b901621b", func := "penelope/penelopelaw10.PruneEmpties", spec := "pruneEmpties", inPlace := ["internal/abi.NoEscape", "internal/bytealg.MakeNoZero", "internal/bytealg.IndexByteString", "internal/bytealg.IndexString"], unfollowed := true, recurses := true, named := ["unicode/utf8.first", "unicode/utf8.acceptRanges", "internal/bytealg.MaxLen"], apart := false, laid := [("unicode/utf8.acceptRanges", laid_unicode_utf8_acceptRanges), ("unicode/utf8.first", laid_unicode_utf8_first)] }
def PruneEmptiesSaid : Prop := pruneEmptiesRow.holds Tryz.pinned (OpenSpec.ofChange pruneEmptiesSpec)

/-- ITS FALSE NEIGHBOUR: 'it returns false'. Refute it at one input. -/
def pruneEmptiesWrong : ChangeSpec := { name := "pruneEmpties", fn := fun _ => fun
  | [d1, d2] => { results := [.lit (.bool false)], args := [d1, d2] }
  | _ => none }
def PruneEmptiesWrongFalsely : Prop := pruneEmptiesRow.holds Tryz.pinned (OpenSpec.ofChange pruneEmptiesWrong)

/-- 'penelopelaw09.GrowPuts': WHATEVER THE INPUT: true; the input reads as it did. -/
def growPutsSpec : ChangeSpec := { name := "growPuts", fn := fun _ => fun
  | [d1, d2, d3] => { results := [.lit (.bool true)], args := [d1, d2, d3] }
  | _ => none }
def growPutsRow : OpenClaim := { program := "ytclgengkohbjjaagreatdoor", sum := "e54531d663108c5c6c1cc53357d87470447132519aa2f9f30e788528b901621b", func := "penelope/penelopelaw09.GrowPuts", spec := "growPuts", inPlace := ["internal/abi.NoEscape", "internal/bytealg.MakeNoZero", "internal/bytealg.IndexByteString", "internal/bytealg.IndexString", "slices.overlaps[string]", "slices.overlaps[int]"], unfollowed := true, recurses := true, named := ["unicode/utf8.first", "unicode/utf8.acceptRanges", "internal/bytealg.MaxLen"], apart := false, laid := [("unicode/utf8.acceptRanges", laid_unicode_utf8_acceptRanges), ("unicode/utf8.first", laid_unicode_utf8_first)] }
def GrowPutsSaid : Prop := growPutsRow.holds Tryz.pinned (OpenSpec.ofChange growPutsSpec)

/-- ITS FALSE NEIGHBOUR: 'it returns false'. Refute it at one input. -/
def growPutsWrong : ChangeSpec := { name := "growPuts", fn := fun _ => fun
  | [d1, d2, d3] => { results := [.lit (.bool false)], args := [d1, d2, d3] }
  | _ => none }
def GrowPutsWrongFalsely : Prop := growPutsRow.holds Tryz.pinned (OpenSpec.ofChange growPutsWrong)

/-- 'penelopelaw09.GrowWhole': WHATEVER THE INPUT: true; the input reads as it did. -/
def growWholeSpec : ChangeSpec := { name := "growWhole", fn := fun _ => fun
  | [d1, d2] => { results := [.lit (.bool true)], args := [d1, d2] }
  | _ => none }
def growWholeRow : OpenClaim := { program := "ytclgengkohbjjaagreatdoor", sum := "e54531d663108c5c6c1cc53357d87470447132519aa2f9f30e788528b901621b", func := "penelope/penelopelaw09.GrowWhole", spec := "growWhole", inPlace := ["internal/abi.NoEscape", "internal/bytealg.MakeNoZero", "internal/bytealg.IndexByteString", "internal/bytealg.IndexString", "slices.overlaps[string]", "slices.overlaps[int]"], unfollowed := true, recurses := true, named := ["unicode/utf8.first", "unicode/utf8.acceptRanges", "internal/bytealg.MaxLen"], apart := false, laid := [("unicode/utf8.acceptRanges", laid_unicode_utf8_acceptRanges), ("unicode/utf8.first", laid_unicode_utf8_first)] }
def GrowWholeSaid : Prop := growWholeRow.holds Tryz.pinned (OpenSpec.ofChange growWholeSpec)

/-- ITS FALSE NEIGHBOUR: 'it returns false'. Refute it at one input. -/
def growWholeWrong : ChangeSpec := { name := "growWhole", fn := fun _ => fun
  | [d1, d2] => { results := [.lit (.bool false)], args := [d1, d2] }
  | _ => none }
def GrowWholeWrongFalsely : Prop := growWholeRow.holds Tryz.pinned (OpenSpec.ofChange growWholeWrong)

/-- 'penelopelaw09.GrowKeeps': WHATEVER THE INPUT: true; the input reads as it did. -/
def growKeepsSpec : ChangeSpec := { name := "growKeeps", fn := fun _ => fun
  | [d1, d2, d3] => { results := [.lit (.bool true)], args := [d1, d2, d3] }
  | _ => none }
def growKeepsRow : OpenClaim := { program := "ytclgengkohbjjaagreatdoor", sum := "e54531d663108c5c6c1cc53357d87470447132519aa2f9f30e788528b901621b", func := "penelope/penelopelaw09.GrowKeeps", spec := "growKeeps", inPlace := ["internal/abi.NoEscape", "internal/bytealg.MakeNoZero", "internal/bytealg.IndexByteString", "internal/bytealg.IndexString", "slices.overlaps[string]", "slices.overlaps[int]"], unfollowed := true, recurses := true, named := ["unicode/utf8.first", "unicode/utf8.acceptRanges", "internal/bytealg.MaxLen"], apart := false, laid := [("unicode/utf8.acceptRanges", laid_unicode_utf8_acceptRanges), ("unicode/utf8.first", laid_unicode_utf8_first)] }
def GrowKeepsSaid : Prop := growKeepsRow.holds Tryz.pinned (OpenSpec.ofChange growKeepsSpec)

/-- ITS FALSE NEIGHBOUR: 'it returns false'. Refute it at one input. -/
def growKeepsWrong : ChangeSpec := { name := "growKeeps", fn := fun _ => fun
  | [d1, d2, d3] => { results := [.lit (.bool false)], args := [d1, d2, d3] }
  | _ => none }
def GrowKeepsWrongFalsely : Prop := growKeepsRow.holds Tryz.pinned (OpenSpec.ofChange growKeepsWrong)

/-- 'penelopelaw09.GrowAll': WHATEVER THE INPUT: true; the input reads as it did. -/
def growAllSpec : ChangeSpec := { name := "growAll", fn := fun _ => fun
  | [d1, d2] => { results := [.lit (.bool true)], args := [d1, d2] }
  | _ => none }
def growAllRow : OpenClaim := { program := "ytclgengkohbjjaagreatdoor", sum := "e54531d663108c5c6c1cc53357d87470447132519aa2f9f30e788528b901621b", func := "penelope/penelopelaw09.GrowAll", spec := "growAll", inPlace := ["internal/abi.NoEscape", "internal/bytealg.MakeNoZero", "internal/bytealg.IndexByteString", "internal/bytealg.IndexString", "slices.overlaps[string]", "slices.overlaps[int]"], unfollowed := true, recurses := true, named := ["unicode/utf8.first", "unicode/utf8.acceptRanges", "internal/bytealg.MaxLen"], apart := false, laid := [("unicode/utf8.acceptRanges", laid_unicode_utf8_acceptRanges), ("unicode/utf8.first", laid_unicode_utf8_first)] }
def GrowAllSaid : Prop := growAllRow.holds Tryz.pinned (OpenSpec.ofChange growAllSpec)

/-- ITS FALSE NEIGHBOUR: 'it returns false'. Refute it at one input. -/
def growAllWrong : ChangeSpec := { name := "growAll", fn := fun _ => fun
  | [d1, d2] => { results := [.lit (.bool false)], args := [d1, d2] }
  | _ => none }
def GrowAllWrongFalsely : Prop := growAllRow.holds Tryz.pinned (OpenSpec.ofChange growAllWrong)

/-- 'penelopelaw09.GrowOrder': WHATEVER THE INPUT: true; the input reads as it did. -/
def growOrderSpec : ChangeSpec := { name := "growOrder", fn := fun _ => fun
  | [d1, d2, d3] => { results := [.lit (.bool true)], args := [d1, d2, d3] }
  | _ => none }
def growOrderRow : OpenClaim := { program := "ytclgengkohbjjaagreatdoor", sum := "e54531d663108c5c6c1cc53357d87470447132519aa2f9f30e788528b901621b", func := "penelope/penelopelaw09.GrowOrder", spec := "growOrder", inPlace := ["internal/abi.NoEscape", "internal/bytealg.MakeNoZero", "internal/bytealg.IndexByteString", "internal/bytealg.IndexString", "slices.overlaps[string]", "slices.overlaps[int]"], unfollowed := true, recurses := true, named := ["unicode/utf8.first", "unicode/utf8.acceptRanges", "internal/bytealg.MaxLen"], apart := false, laid := [("unicode/utf8.acceptRanges", laid_unicode_utf8_acceptRanges), ("unicode/utf8.first", laid_unicode_utf8_first)] }
def GrowOrderSaid : Prop := growOrderRow.holds Tryz.pinned (OpenSpec.ofChange growOrderSpec)

/-- ITS FALSE NEIGHBOUR: 'it returns false'. Refute it at one input. -/
def growOrderWrong : ChangeSpec := { name := "growOrder", fn := fun _ => fun
  | [d1, d2, d3] => { results := [.lit (.bool false)], args := [d1, d2, d3] }
  | _ => none }
def GrowOrderWrongFalsely : Prop := growOrderRow.holds Tryz.pinned (OpenSpec.ofChange growOrderWrong)

/-- 'penelopelaw09.GrowGets': WHATEVER THE INPUT: true; the input reads as it did. -/
def growGetsSpec : ChangeSpec := { name := "growGets", fn := fun _ => fun
  | [d1, d2, d3, d4] => { results := [.lit (.bool true)], args := [d1, d2, d3, d4] }
  | _ => none }
def growGetsRow : OpenClaim := { program := "ytclgengkohbjjaagreatdoor", sum := "e54531d663108c5c6c1cc53357d87470447132519aa2f9f30e788528b901621b", func := "penelope/penelopelaw09.GrowGets", spec := "growGets", inPlace := ["internal/abi.NoEscape", "internal/bytealg.MakeNoZero", "internal/bytealg.IndexByteString", "internal/bytealg.IndexString", "slices.overlaps[string]", "slices.overlaps[int]"], unfollowed := true, recurses := true, named := ["unicode/utf8.first", "unicode/utf8.acceptRanges", "internal/bytealg.MaxLen"], apart := false, laid := [("unicode/utf8.acceptRanges", laid_unicode_utf8_acceptRanges), ("unicode/utf8.first", laid_unicode_utf8_first)] }
def GrowGetsSaid : Prop := growGetsRow.holds Tryz.pinned (OpenSpec.ofChange growGetsSpec)

/-- ITS FALSE NEIGHBOUR: 'it returns false'. Refute it at one input. -/
def growGetsWrong : ChangeSpec := { name := "growGets", fn := fun _ => fun
  | [d1, d2, d3, d4] => { results := [.lit (.bool false)], args := [d1, d2, d3, d4] }
  | _ => none }
def GrowGetsWrongFalsely : Prop := growGetsRow.holds Tryz.pinned (OpenSpec.ofChange growGetsWrong)

/-- 'penelopelaw10.PruneChanges': WHATEVER THE INPUT: true; the input reads as it did. -/
def pruneChangesSpec : ChangeSpec := { name := "pruneChanges", fn := fun _ => fun
  | [d1, d2] => { results := [.lit (.bool true)], args := [d1, d2] }
  | _ => none }
def pruneChangesRow : OpenClaim := { program := "ytclgengkohbjjaagreatdoor", sum := "e54531d663108c5c6c1cc53357d87470447132519aa2f9f30e788528b901621b", func := "penelope/penelopelaw10.PruneChanges", spec := "pruneChanges", inPlace := ["internal/abi.NoEscape", "internal/bytealg.MakeNoZero", "internal/bytealg.IndexByteString", "internal/bytealg.IndexString", "slices.overlaps[string]", "slices.overlaps[int]"], unfollowed := true, recurses := true, named := ["unicode/utf8.first", "unicode/utf8.acceptRanges", "internal/bytealg.MaxLen"], apart := false, laid := [("unicode/utf8.acceptRanges", laid_unicode_utf8_acceptRanges), ("unicode/utf8.first", laid_unicode_utf8_first)] }
def PruneChangesSaid : Prop := pruneChangesRow.holds Tryz.pinned (OpenSpec.ofChange pruneChangesSpec)

/-- ITS FALSE NEIGHBOUR: 'it returns false'. Refute it at one input. -/
def pruneChangesWrong : ChangeSpec := { name := "pruneChanges", fn := fun _ => fun
  | [d1, d2] => { results := [.lit (.bool false)], args := [d1, d2] }
  | _ => none }
def PruneChangesWrongFalsely : Prop := pruneChangesRow.holds Tryz.pinned (OpenSpec.ofChange pruneChangesWrong)

/-- 'penelopelaw10.PruneKeeps': WHATEVER THE INPUT: true; the input reads as it did. -/
def pruneKeepsSpec : ChangeSpec := { name := "pruneKeeps", fn := fun _ => fun
  | [d1, d2] => { results := [.lit (.bool true)], args := [d1, d2] }
  | _ => none }
def pruneKeepsRow : OpenClaim := { program := "ytclgengkohbjjaagreatdoor", sum := "e54531d663108c5c6c1cc53357d87470447132519aa2f9f30e788528b901621b", func := "penelope/penelopelaw10.PruneKeeps", spec := "pruneKeeps", inPlace := ["internal/abi.NoEscape", "internal/bytealg.MakeNoZero", "internal/bytealg.IndexByteString", "internal/bytealg.IndexString", "slices.overlaps[string]", "slices.overlaps[int]"], unfollowed := true, recurses := true, named := ["unicode/utf8.first", "unicode/utf8.acceptRanges", "internal/bytealg.MaxLen"], apart := false, laid := [("unicode/utf8.acceptRanges", laid_unicode_utf8_acceptRanges), ("unicode/utf8.first", laid_unicode_utf8_first)] }
def PruneKeepsSaid : Prop := pruneKeepsRow.holds Tryz.pinned (OpenSpec.ofChange pruneKeepsSpec)

/-- ITS FALSE NEIGHBOUR: 'it returns false'. Refute it at one input. -/
def pruneKeepsWrong : ChangeSpec := { name := "pruneKeeps", fn := fun _ => fun
  | [d1, d2] => { results := [.lit (.bool false)], args := [d1, d2] }
  | _ => none }
def PruneKeepsWrongFalsely : Prop := pruneKeepsRow.holds Tryz.pinned (OpenSpec.ofChange pruneKeepsWrong)

/-- 'penelopelaw10.PruneAll': WHATEVER THE INPUT: true; the input reads as it did. -/
def pruneAllSpec : ChangeSpec := { name := "pruneAll", fn := fun _ => fun
  | [d1, d2, d3] => { results := [.lit (.bool true)], args := [d1, d2, d3] }
  | _ => none }
def pruneAllRow : OpenClaim := { program := "ytclgengkohbjjaagreatdoor", sum := "e54531d663108c5c6c1cc53357d87470447132519aa2f9f30e788528b901621b", func := "penelope/penelopelaw10.PruneAll", spec := "pruneAll", inPlace := ["internal/abi.NoEscape", "internal/bytealg.MakeNoZero", "internal/bytealg.IndexByteString", "internal/bytealg.IndexString", "slices.overlaps[string]", "slices.overlaps[int]"], unfollowed := true, recurses := true, named := ["unicode/utf8.first", "unicode/utf8.acceptRanges", "internal/bytealg.MaxLen"], apart := false, laid := [("unicode/utf8.acceptRanges", laid_unicode_utf8_acceptRanges), ("unicode/utf8.first", laid_unicode_utf8_first)] }
def PruneAllSaid : Prop := pruneAllRow.holds Tryz.pinned (OpenSpec.ofChange pruneAllSpec)

/-- ITS FALSE NEIGHBOUR: 'it returns false'. Refute it at one input. -/
def pruneAllWrong : ChangeSpec := { name := "pruneAll", fn := fun _ => fun
  | [d1, d2, d3] => { results := [.lit (.bool false)], args := [d1, d2, d3] }
  | _ => none }
def PruneAllWrongFalsely : Prop := pruneAllRow.holds Tryz.pinned (OpenSpec.ofChange pruneAllWrong)

/-- 'penelopelaw11.CheckChanges': WHATEVER THE INPUT: true; the input reads as it did. -/
def checkChangesSpec : ChangeSpec := { name := "checkChanges", fn := fun _ => fun
  | [d1, d2, d3] => { results := [.lit (.bool true)], args := [d1, d2, d3] }
  | _ => none }
def checkChangesRow : OpenClaim := { program := "ytclgengkohbjjaagreatdoor", sum := "e54531d663108c5c6c1cc53357d87470447132519aa2f9f30e788528b901621b", func := "penelope/penelopelaw11.CheckChanges", spec := "checkChanges", inPlace := ["internal/abi.NoEscape", "internal/bytealg.MakeNoZero", "internal/bytealg.IndexByteString", "internal/bytealg.IndexString", "slices.overlaps[string]", "slices.overlaps[int]"], unfollowed := true, recurses := true, named := ["unicode/utf8.first", "unicode/utf8.acceptRanges", "internal/bytealg.MaxLen"], apart := false, laid := [("unicode/utf8.acceptRanges", laid_unicode_utf8_acceptRanges), ("unicode/utf8.first", laid_unicode_utf8_first)] }
def CheckChangesSaid : Prop := checkChangesRow.holds Tryz.pinned (OpenSpec.ofChange checkChangesSpec)

/-- ITS FALSE NEIGHBOUR: 'it returns false'. Refute it at one input. -/
def checkChangesWrong : ChangeSpec := { name := "checkChanges", fn := fun _ => fun
  | [d1, d2, d3] => { results := [.lit (.bool false)], args := [d1, d2, d3] }
  | _ => none }
def CheckChangesWrongFalsely : Prop := checkChangesRow.holds Tryz.pinned (OpenSpec.ofChange checkChangesWrong)

/- THE SECOND FORM. 'bulk': how many values and letters a reading holds, each counted each time it is reached (what is shared counts as often as it is met; a slice's spare places count too). A statement '..UptoSaid' is the law's where the arguments, and the package variables that the reading takes, are together of bulk at most 1048576: NARROWER than '..Said'. Prove '..Said' where nothing that the law and all that it calls make is longer than what came in: it says more and counts as full. Else prove '..UptoSaid'. A law counts once. -/
mutual
def uptoBulk {H : Type} : DataW H → Nat
  | .lit (.string bytes) => bytes.length + 1
  | .lit _ => 1
  | .nil => 1
  | .ptr d => uptoBulk d + 1
  | .slice elems spare => uptoBulkAll elems + uptoBulkAll spare + 1
  | .agg parts => uptoBulkAll parts + 1
  | .iface _ d => uptoBulk d + 1
  | .map entries => uptoBulkEntries entries + 1
  | .held _ => 1
def uptoBulkAll {H : Type} : List (DataW H) → Nat
  | [] => 0
  | d :: r => uptoBulk d + uptoBulkAll r
def uptoBulkEntries {H : Type} : List (Lit × DataW H) → Nat
  | [] => 0
  | x :: r => uptoBulkEntry x + uptoBulkEntries r
def uptoBulkEntry {H : Type} : Lit × DataW H → Nat
  | (.string bytes, d) => bytes.length + uptoBulk d + 1
  | (_, d) => uptoBulk d + 1
 end
def uptoSmall : (H : Type) → List (DataW H) → Bool := fun _ ds => decide (uptoBulkAll ds ≤ 1048576)
def OpenSpec.upto (s : _root_.Go.ChangeSpec) : _root_.Go.OpenSpec := { _root_.Go.OpenSpec.ofChange s with cond := some uptoSmall }

/-- 'penelopelaw10.PruneDeletes', WHERE WHAT IT READS IS OF BULK AT MOST 1048576: true; the input reads as it did. -/
def pruneDeletesUptoRow : OpenClaim := { program := "ytclgengkohbjjaagreatdoor", sum := "e54531d663108c5c6c1cc53357d87470447132519aa2f9f30e788528b901621b", func := "penelope/penelopelaw10.PruneDeletes", spec := "pruneDeletes", inPlace := ["internal/abi.NoEscape", "internal/bytealg.MakeNoZero", "internal/bytealg.IndexByteString", "internal/bytealg.IndexString"], unfollowed := true, recurses := true, named := ["unicode/utf8.first", "unicode/utf8.acceptRanges", "internal/bytealg.MaxLen"], apart := false, laid := [("unicode/utf8.acceptRanges", laid_unicode_utf8_acceptRanges), ("unicode/utf8.first", laid_unicode_utf8_first)], narrowed := true }
def PruneDeletesUptoSaid : Prop := pruneDeletesUptoRow.holds Tryz.pinned (OpenSpec.upto pruneDeletesSpec)

/-- 'penelopelaw10.PruneEmpties', WHERE WHAT IT READS IS OF BULK AT MOST 1048576: true; the input reads as it did. -/
def pruneEmptiesUptoRow : OpenClaim := { program := "ytclgengkohbjjaagreatdoor", sum := "e54531d663108c5c6c1cc53357d87470447132519aa2f9f30e788528b901621b", func := "penelope/penelopelaw10.PruneEmpties", spec := "pruneEmpties", inPlace := ["internal/abi.NoEscape", "internal/bytealg.MakeNoZero", "internal/bytealg.IndexByteString", "internal/bytealg.IndexString"], unfollowed := true, recurses := true, named := ["unicode/utf8.first", "unicode/utf8.acceptRanges", "internal/bytealg.MaxLen"], apart := false, laid := [("unicode/utf8.acceptRanges", laid_unicode_utf8_acceptRanges), ("unicode/utf8.first", laid_unicode_utf8_first)], narrowed := true }
def PruneEmptiesUptoSaid : Prop := pruneEmptiesUptoRow.holds Tryz.pinned (OpenSpec.upto pruneEmptiesSpec)

/-- 'penelopelaw09.GrowPuts', WHERE WHAT IT READS IS OF BULK AT MOST 1048576: true; the input reads as it did. -/
def growPutsUptoRow : OpenClaim := { program := "ytclgengkohbjjaagreatdoor", sum := "e54531d663108c5c6c1cc53357d87470447132519aa2f9f30e788528b901621b", func := "penelope/penelopelaw09.GrowPuts", spec := "growPuts", inPlace := ["internal/abi.NoEscape", "internal/bytealg.MakeNoZero", "internal/bytealg.IndexByteString", "internal/bytealg.IndexString", "slices.overlaps[string]", "slices.overlaps[int]"], unfollowed := true, recurses := true, named := ["unicode/utf8.first", "unicode/utf8.acceptRanges", "internal/bytealg.MaxLen"], apart := false, laid := [("unicode/utf8.acceptRanges", laid_unicode_utf8_acceptRanges), ("unicode/utf8.first", laid_unicode_utf8_first)], narrowed := true }
def GrowPutsUptoSaid : Prop := growPutsUptoRow.holds Tryz.pinned (OpenSpec.upto growPutsSpec)

/-- 'penelopelaw09.GrowWhole', WHERE WHAT IT READS IS OF BULK AT MOST 1048576: true; the input reads as it did. -/
def growWholeUptoRow : OpenClaim := { program := "ytclgengkohbjjaagreatdoor", sum := "e54531d663108c5c6c1cc53357d87470447132519aa2f9f30e788528b901621b", func := "penelope/penelopelaw09.GrowWhole", spec := "growWhole", inPlace := ["internal/abi.NoEscape", "internal/bytealg.MakeNoZero", "internal/bytealg.IndexByteString", "internal/bytealg.IndexString", "slices.overlaps[string]", "slices.overlaps[int]"], unfollowed := true, recurses := true, named := ["unicode/utf8.first", "unicode/utf8.acceptRanges", "internal/bytealg.MaxLen"], apart := false, laid := [("unicode/utf8.acceptRanges", laid_unicode_utf8_acceptRanges), ("unicode/utf8.first", laid_unicode_utf8_first)], narrowed := true }
def GrowWholeUptoSaid : Prop := growWholeUptoRow.holds Tryz.pinned (OpenSpec.upto growWholeSpec)

/-- 'penelopelaw09.GrowKeeps', WHERE WHAT IT READS IS OF BULK AT MOST 1048576: true; the input reads as it did. -/
def growKeepsUptoRow : OpenClaim := { program := "ytclgengkohbjjaagreatdoor", sum := "e54531d663108c5c6c1cc53357d87470447132519aa2f9f30e788528b901621b", func := "penelope/penelopelaw09.GrowKeeps", spec := "growKeeps", inPlace := ["internal/abi.NoEscape", "internal/bytealg.MakeNoZero", "internal/bytealg.IndexByteString", "internal/bytealg.IndexString", "slices.overlaps[string]", "slices.overlaps[int]"], unfollowed := true, recurses := true, named := ["unicode/utf8.first", "unicode/utf8.acceptRanges", "internal/bytealg.MaxLen"], apart := false, laid := [("unicode/utf8.acceptRanges", laid_unicode_utf8_acceptRanges), ("unicode/utf8.first", laid_unicode_utf8_first)], narrowed := true }
def GrowKeepsUptoSaid : Prop := growKeepsUptoRow.holds Tryz.pinned (OpenSpec.upto growKeepsSpec)

/-- 'penelopelaw09.GrowAll', WHERE WHAT IT READS IS OF BULK AT MOST 1048576: true; the input reads as it did. -/
def growAllUptoRow : OpenClaim := { program := "ytclgengkohbjjaagreatdoor", sum := "e54531d663108c5c6c1cc53357d87470447132519aa2f9f30e788528b901621b", func := "penelope/penelopelaw09.GrowAll", spec := "growAll", inPlace := ["internal/abi.NoEscape", "internal/bytealg.MakeNoZero", "internal/bytealg.IndexByteString", "internal/bytealg.IndexString", "slices.overlaps[string]", "slices.overlaps[int]"], unfollowed := true, recurses := true, named := ["unicode/utf8.first", "unicode/utf8.acceptRanges", "internal/bytealg.MaxLen"], apart := false, laid := [("unicode/utf8.acceptRanges", laid_unicode_utf8_acceptRanges), ("unicode/utf8.first", laid_unicode_utf8_first)], narrowed := true }
def GrowAllUptoSaid : Prop := growAllUptoRow.holds Tryz.pinned (OpenSpec.upto growAllSpec)

/-- 'penelopelaw09.GrowOrder', WHERE WHAT IT READS IS OF BULK AT MOST 1048576: true; the input reads as it did. -/
def growOrderUptoRow : OpenClaim := { program := "ytclgengkohbjjaagreatdoor", sum := "e54531d663108c5c6c1cc53357d87470447132519aa2f9f30e788528b901621b", func := "penelope/penelopelaw09.GrowOrder", spec := "growOrder", inPlace := ["internal/abi.NoEscape", "internal/bytealg.MakeNoZero", "internal/bytealg.IndexByteString", "internal/bytealg.IndexString", "slices.overlaps[string]", "slices.overlaps[int]"], unfollowed := true, recurses := true, named := ["unicode/utf8.first", "unicode/utf8.acceptRanges", "internal/bytealg.MaxLen"], apart := false, laid := [("unicode/utf8.acceptRanges", laid_unicode_utf8_acceptRanges), ("unicode/utf8.first", laid_unicode_utf8_first)], narrowed := true }
def GrowOrderUptoSaid : Prop := growOrderUptoRow.holds Tryz.pinned (OpenSpec.upto growOrderSpec)

/-- 'penelopelaw09.GrowGets', WHERE WHAT IT READS IS OF BULK AT MOST 1048576: true; the input reads as it did. -/
def growGetsUptoRow : OpenClaim := { program := "ytclgengkohbjjaagreatdoor", sum := "e54531d663108c5c6c1cc53357d87470447132519aa2f9f30e788528b901621b", func := "penelope/penelopelaw09.GrowGets", spec := "growGets", inPlace := ["internal/abi.NoEscape", "internal/bytealg.MakeNoZero", "internal/bytealg.IndexByteString", "internal/bytealg.IndexString", "slices.overlaps[string]", "slices.overlaps[int]"], unfollowed := true, recurses := true, named := ["unicode/utf8.first", "unicode/utf8.acceptRanges", "internal/bytealg.MaxLen"], apart := false, laid := [("unicode/utf8.acceptRanges", laid_unicode_utf8_acceptRanges), ("unicode/utf8.first", laid_unicode_utf8_first)], narrowed := true }
def GrowGetsUptoSaid : Prop := growGetsUptoRow.holds Tryz.pinned (OpenSpec.upto growGetsSpec)

/-- 'penelopelaw10.PruneChanges', WHERE WHAT IT READS IS OF BULK AT MOST 1048576: true; the input reads as it did. -/
def pruneChangesUptoRow : OpenClaim := { program := "ytclgengkohbjjaagreatdoor", sum := "e54531d663108c5c6c1cc53357d87470447132519aa2f9f30e788528b901621b", func := "penelope/penelopelaw10.PruneChanges", spec := "pruneChanges", inPlace := ["internal/abi.NoEscape", "internal/bytealg.MakeNoZero", "internal/bytealg.IndexByteString", "internal/bytealg.IndexString", "slices.overlaps[string]", "slices.overlaps[int]"], unfollowed := true, recurses := true, named := ["unicode/utf8.first", "unicode/utf8.acceptRanges", "internal/bytealg.MaxLen"], apart := false, laid := [("unicode/utf8.acceptRanges", laid_unicode_utf8_acceptRanges), ("unicode/utf8.first", laid_unicode_utf8_first)], narrowed := true }
def PruneChangesUptoSaid : Prop := pruneChangesUptoRow.holds Tryz.pinned (OpenSpec.upto pruneChangesSpec)

/-- 'penelopelaw10.PruneKeeps', WHERE WHAT IT READS IS OF BULK AT MOST 1048576: true; the input reads as it did. -/
def pruneKeepsUptoRow : OpenClaim := { program := "ytclgengkohbjjaagreatdoor", sum := "e54531d663108c5c6c1cc53357d87470447132519aa2f9f30e788528b901621b", func := "penelope/penelopelaw10.PruneKeeps", spec := "pruneKeeps", inPlace := ["internal/abi.NoEscape", "internal/bytealg.MakeNoZero", "internal/bytealg.IndexByteString", "internal/bytealg.IndexString", "slices.overlaps[string]", "slices.overlaps[int]"], unfollowed := true, recurses := true, named := ["unicode/utf8.first", "unicode/utf8.acceptRanges", "internal/bytealg.MaxLen"], apart := false, laid := [("unicode/utf8.acceptRanges", laid_unicode_utf8_acceptRanges), ("unicode/utf8.first", laid_unicode_utf8_first)], narrowed := true }
def PruneKeepsUptoSaid : Prop := pruneKeepsUptoRow.holds Tryz.pinned (OpenSpec.upto pruneKeepsSpec)

/-- 'penelopelaw10.PruneAll', WHERE WHAT IT READS IS OF BULK AT MOST 1048576: true; the input reads as it did. -/
def pruneAllUptoRow : OpenClaim := { program := "ytclgengkohbjjaagreatdoor", sum := "e54531d663108c5c6c1cc53357d87470447132519aa2f9f30e788528b901621b", func := "penelope/penelopelaw10.PruneAll", spec := "pruneAll", inPlace := ["internal/abi.NoEscape", "internal/bytealg.MakeNoZero", "internal/bytealg.IndexByteString", "internal/bytealg.IndexString", "slices.overlaps[string]", "slices.overlaps[int]"], unfollowed := true, recurses := true, named := ["unicode/utf8.first", "unicode/utf8.acceptRanges", "internal/bytealg.MaxLen"], apart := false, laid := [("unicode/utf8.acceptRanges", laid_unicode_utf8_acceptRanges), ("unicode/utf8.first", laid_unicode_utf8_first)], narrowed := true }
def PruneAllUptoSaid : Prop := pruneAllUptoRow.holds Tryz.pinned (OpenSpec.upto pruneAllSpec)

/-- 'penelopelaw11.CheckChanges', WHERE WHAT IT READS IS OF BULK AT MOST 1048576: true; the input reads as it did. -/
def checkChangesUptoRow : OpenClaim := { program := "ytclgengkohbjjaagreatdoor", sum := "e54531d663108c5c6c1cc53357d87470447132519aa2f9f30e788528b901621b", func := "penelope/penelopelaw11.CheckChanges", spec := "checkChanges", inPlace := ["internal/abi.NoEscape", "internal/bytealg.MakeNoZero", "internal/bytealg.IndexByteString", "internal/bytealg.IndexString", "slices.overlaps[string]", "slices.overlaps[int]"], unfollowed := true, recurses := true, named := ["unicode/utf8.first", "unicode/utf8.acceptRanges", "internal/bytealg.MaxLen"], apart := false, laid := [("unicode/utf8.acceptRanges", laid_unicode_utf8_acceptRanges), ("unicode/utf8.first", laid_unicode_utf8_first)], narrowed := true }
def CheckChangesUptoSaid : Prop := checkChangesUptoRow.holds Tryz.pinned (OpenSpec.upto checkChangesSpec)

end Rows
end Go.Proofs.YtclgengkohbjjaaGreatDoor
