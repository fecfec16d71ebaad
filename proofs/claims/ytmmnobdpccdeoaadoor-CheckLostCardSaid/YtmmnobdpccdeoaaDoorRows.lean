/-
  NARROWER THAN 'FOR EVERY INPUT', by the rows' own cells (each row's printed sentence says how): SuperGets: laid · RingWhole: laid · SuperPuts: laid · SuperBack: laid · SuperChooses: laid · RingScans: laid · RingRows: laid · RingBack: laid · LookGets: laid · LookRights: laid · CheckLost: laid.
  DERIVED. THE GIVEN ROWS OF THIS SEAT. 11 by the template 'for every input the law returns true; each argument reads behind the call as it read before'; 0 by the template 'total and deterministic' (their statements: YtmmnobdpccdeoaaDoorTotals.lean).
  GIVEN WITH THE SEED: the statements are not yours to turn. If you find one false, say at which input.
  Laid BY PROGRAM, IN A SANDBOX (cutbox-rows.mjs): the forced cells as the released guide's own fill.sh prints them over the translation 8225496f645416d7… (all of the seat's roots in one cut). By AI agents, Wed Nov 11 2026. No macro, syntax, notation, axiom, sorry.
-/
import Derived.Test.YtmmnobdpccdeoaaDoorChecked
import GoSem.PinnedTables
import GoSem.Claim
import GoSem.ClaimJoined
import GoSem.ClaimMapViews
import Derived.JoinedTies
import Derived.KernelRfl
namespace Go.Proofs.YtmmnobdpccdeoaaDoor
/- THE CELL 'sum', in the pinned program and in every row, IS THE sha256 OF THE DUMP (.gsa) THAT YtmmnobdpccdeoaaDoorProg.lean LOADS. Nothing in Lean hashes anything: it is a label: what it is worth is what the hold of that sum in a sandbox is worth. -/
noncomputable def Tryd.pinned : Pinned := { name := "ytmmnobdpccdeoaadoor", sum := "8225496f645416d7439b3aa058fbbfeda5e543035d3b09e00e1206e9973f2497", checked := Tryd.checked }
namespace Rows
def none {H : Type} : Left H := { results := [], args := [] }

/- WHAT THE LISTED PACKAGE-LEVEL VARIABLES READ AS WHEN THE CALL BEGINS. Each datum BY PROGRAM (the guide's laid-datum.mjs) off the statement by which the dump's own 'gosem.cut.vars' lays the variable. In a bare row this is a premise. The card (YtmmnobdpccdeoaaDoorCards.lean) ties it to the program's text. -/
def laid_unicode_utf8_acceptRanges {H : Type} : DataW H := .agg [.agg [.lit (.int .u8 128), .lit (.int .u8 191)], .agg [.lit (.int .u8 160), .lit (.int .u8 191)], .agg [.lit (.int .u8 128), .lit (.int .u8 159)], .agg [.lit (.int .u8 144), .lit (.int .u8 191)], .agg [.lit (.int .u8 128), .lit (.int .u8 143)], .agg [.lit (.int .u8 0), .lit (.int .u8 0)], .agg [.lit (.int .u8 0), .lit (.int .u8 0)], .agg [.lit (.int .u8 0), .lit (.int .u8 0)], .agg [.lit (.int .u8 0), .lit (.int .u8 0)], .agg [.lit (.int .u8 0), .lit (.int .u8 0)], .agg [.lit (.int .u8 0), .lit (.int .u8 0)], .agg [.lit (.int .u8 0), .lit (.int .u8 0)], .agg [.lit (.int .u8 0), .lit (.int .u8 0)], .agg [.lit (.int .u8 0), .lit (.int .u8 0)], .agg [.lit (.int .u8 0), .lit (.int .u8 0)], .agg [.lit (.int .u8 0), .lit (.int .u8 0)]]
/-- One of Go's own tables, pinned by name: the form's constant. -/
def laid_unicode_utf8_first : DataW Unit := Go.Pinned.utf8First

/-- 'penelopelaw12.SuperGets': WHATEVER THE INPUT: true; the input reads as it did. -/
def superGetsSpec : ChangeSpec := { name := "superGets", fn := fun _ => fun
  | [d] => { results := [.lit (.bool true)], args := [d] }
  | _ => none }
def superGetsRow : OpenClaim := { program := "ytmmnobdpccdeoaadoor", sum := "8225496f645416d7439b3aa058fbbfeda5e543035d3b09e00e1206e9973f2497", func := "penelope/penelopelaw12.SuperGets", spec := "superGets", inPlace := ["internal/abi.NoEscape", "internal/bytealg.MakeNoZero", "internal/bytealg.IndexByteString", "internal/bytealg.IndexString"], unfollowed := true, recurses := true, named := ["unicode/utf8.first", "unicode/utf8.acceptRanges", "internal/bytealg.MaxLen"], apart := false, laid := [("unicode/utf8.acceptRanges", laid_unicode_utf8_acceptRanges), ("unicode/utf8.first", laid_unicode_utf8_first)] }
def SuperGetsSaid : Prop := superGetsRow.holds Tryd.pinned (OpenSpec.ofChange superGetsSpec)

/-- ITS FALSE NEIGHBOUR: 'it returns false'. Refute it at one input. -/
def superGetsWrong : ChangeSpec := { name := "superGets", fn := fun _ => fun
  | [d] => { results := [.lit (.bool false)], args := [d] }
  | _ => none }
def SuperGetsWrongFalsely : Prop := superGetsRow.holds Tryd.pinned (OpenSpec.ofChange superGetsWrong)

/-- 'penelopelaw13.RingWhole': WHATEVER THE INPUT: true; the input reads as it did. -/
def ringWholeSpec : ChangeSpec := { name := "ringWhole", fn := fun _ => fun
  | [d1, d2, d3, d4, d5] => { results := [.lit (.bool true)], args := [d1, d2, d3, d4, d5] }
  | _ => none }
def ringWholeRow : OpenClaim := { program := "ytmmnobdpccdeoaadoor", sum := "8225496f645416d7439b3aa058fbbfeda5e543035d3b09e00e1206e9973f2497", func := "penelope/penelopelaw13.RingWhole", spec := "ringWhole", inPlace := ["internal/abi.NoEscape", "internal/bytealg.MakeNoZero", "internal/bytealg.IndexByteString", "internal/bytealg.IndexString"], unfollowed := true, recurses := true, named := ["unicode/utf8.first", "unicode/utf8.acceptRanges", "internal/bytealg.MaxLen"], apart := false, laid := [("unicode/utf8.acceptRanges", laid_unicode_utf8_acceptRanges), ("unicode/utf8.first", laid_unicode_utf8_first)] }
def RingWholeSaid : Prop := ringWholeRow.holds Tryd.pinned (OpenSpec.ofChange ringWholeSpec)

/-- ITS FALSE NEIGHBOUR: 'it returns false'. Refute it at one input. -/
def ringWholeWrong : ChangeSpec := { name := "ringWhole", fn := fun _ => fun
  | [d1, d2, d3, d4, d5] => { results := [.lit (.bool false)], args := [d1, d2, d3, d4, d5] }
  | _ => none }
def RingWholeWrongFalsely : Prop := ringWholeRow.holds Tryd.pinned (OpenSpec.ofChange ringWholeWrong)

/-- 'penelopelaw12.SuperPuts': WHATEVER THE INPUT: true; the input reads as it did. -/
def superPutsSpec : ChangeSpec := { name := "superPuts", fn := fun _ => fun
  | [d] => { results := [.lit (.bool true)], args := [d] }
  | _ => none }
def superPutsRow : OpenClaim := { program := "ytmmnobdpccdeoaadoor", sum := "8225496f645416d7439b3aa058fbbfeda5e543035d3b09e00e1206e9973f2497", func := "penelope/penelopelaw12.SuperPuts", spec := "superPuts", inPlace := ["internal/abi.NoEscape", "internal/bytealg.MakeNoZero", "internal/bytealg.IndexByteString", "internal/bytealg.IndexString"], unfollowed := true, recurses := true, named := ["unicode/utf8.first", "unicode/utf8.acceptRanges", "internal/bytealg.MaxLen"], apart := false, laid := [("unicode/utf8.acceptRanges", laid_unicode_utf8_acceptRanges), ("unicode/utf8.first", laid_unicode_utf8_first)] }
def SuperPutsSaid : Prop := superPutsRow.holds Tryd.pinned (OpenSpec.ofChange superPutsSpec)

/-- ITS FALSE NEIGHBOUR: 'it returns false'. Refute it at one input. -/
def superPutsWrong : ChangeSpec := { name := "superPuts", fn := fun _ => fun
  | [d] => { results := [.lit (.bool false)], args := [d] }
  | _ => none }
def SuperPutsWrongFalsely : Prop := superPutsRow.holds Tryd.pinned (OpenSpec.ofChange superPutsWrong)

/-- 'penelopelaw12.SuperBack': WHATEVER THE INPUT: true; the input reads as it did. -/
def superBackSpec : ChangeSpec := { name := "superBack", fn := fun _ => fun
  | [d1, d2] => { results := [.lit (.bool true)], args := [d1, d2] }
  | _ => none }
def superBackRow : OpenClaim := { program := "ytmmnobdpccdeoaadoor", sum := "8225496f645416d7439b3aa058fbbfeda5e543035d3b09e00e1206e9973f2497", func := "penelope/penelopelaw12.SuperBack", spec := "superBack", inPlace := ["internal/abi.NoEscape", "internal/bytealg.MakeNoZero", "internal/bytealg.IndexByteString", "internal/bytealg.IndexString"], unfollowed := true, recurses := true, named := ["unicode/utf8.first", "unicode/utf8.acceptRanges", "internal/bytealg.MaxLen"], apart := false, laid := [("unicode/utf8.acceptRanges", laid_unicode_utf8_acceptRanges), ("unicode/utf8.first", laid_unicode_utf8_first)] }
def SuperBackSaid : Prop := superBackRow.holds Tryd.pinned (OpenSpec.ofChange superBackSpec)

/-- ITS FALSE NEIGHBOUR: 'it returns false'. Refute it at one input. -/
def superBackWrong : ChangeSpec := { name := "superBack", fn := fun _ => fun
  | [d1, d2] => { results := [.lit (.bool false)], args := [d1, d2] }
  | _ => none }
def SuperBackWrongFalsely : Prop := superBackRow.holds Tryd.pinned (OpenSpec.ofChange superBackWrong)

/-- 'penelopelaw12.SuperChooses': WHATEVER THE INPUT: true; the input reads as it did. -/
def superChoosesSpec : ChangeSpec := { name := "superChooses", fn := fun _ => fun
  | [d1, d2, d3] => { results := [.lit (.bool true)], args := [d1, d2, d3] }
  | _ => none }
def superChoosesRow : OpenClaim := { program := "ytmmnobdpccdeoaadoor", sum := "8225496f645416d7439b3aa058fbbfeda5e543035d3b09e00e1206e9973f2497", func := "penelope/penelopelaw12.SuperChooses", spec := "superChooses", inPlace := ["internal/abi.NoEscape", "internal/bytealg.MakeNoZero", "internal/bytealg.IndexByteString", "internal/bytealg.IndexString"], unfollowed := true, recurses := true, named := ["unicode/utf8.first", "unicode/utf8.acceptRanges", "internal/bytealg.MaxLen"], apart := false, laid := [("unicode/utf8.acceptRanges", laid_unicode_utf8_acceptRanges), ("unicode/utf8.first", laid_unicode_utf8_first)] }
def SuperChoosesSaid : Prop := superChoosesRow.holds Tryd.pinned (OpenSpec.ofChange superChoosesSpec)

/-- ITS FALSE NEIGHBOUR: 'it returns false'. Refute it at one input. -/
def superChoosesWrong : ChangeSpec := { name := "superChooses", fn := fun _ => fun
  | [d1, d2, d3] => { results := [.lit (.bool false)], args := [d1, d2, d3] }
  | _ => none }
def SuperChoosesWrongFalsely : Prop := superChoosesRow.holds Tryd.pinned (OpenSpec.ofChange superChoosesWrong)

/-- 'penelopelaw13.RingScans': WHATEVER THE INPUT: true; the input reads as it did. -/
def ringScansSpec : ChangeSpec := { name := "ringScans", fn := fun _ => fun
  | [d1, d2] => { results := [.lit (.bool true)], args := [d1, d2] }
  | _ => none }
def ringScansRow : OpenClaim := { program := "ytmmnobdpccdeoaadoor", sum := "8225496f645416d7439b3aa058fbbfeda5e543035d3b09e00e1206e9973f2497", func := "penelope/penelopelaw13.RingScans", spec := "ringScans", inPlace := ["internal/abi.NoEscape", "internal/bytealg.MakeNoZero", "internal/bytealg.IndexByteString", "internal/bytealg.IndexString"], unfollowed := true, recurses := true, named := ["unicode/utf8.first", "unicode/utf8.acceptRanges", "internal/bytealg.MaxLen"], apart := false, laid := [("unicode/utf8.acceptRanges", laid_unicode_utf8_acceptRanges), ("unicode/utf8.first", laid_unicode_utf8_first)] }
def RingScansSaid : Prop := ringScansRow.holds Tryd.pinned (OpenSpec.ofChange ringScansSpec)

/-- ITS FALSE NEIGHBOUR: 'it returns false'. Refute it at one input. -/
def ringScansWrong : ChangeSpec := { name := "ringScans", fn := fun _ => fun
  | [d1, d2] => { results := [.lit (.bool false)], args := [d1, d2] }
  | _ => none }
def RingScansWrongFalsely : Prop := ringScansRow.holds Tryd.pinned (OpenSpec.ofChange ringScansWrong)

/-- 'penelopelaw13.RingRows': WHATEVER THE INPUT: true; the input reads as it did. -/
def ringRowsSpec : ChangeSpec := { name := "ringRows", fn := fun _ => fun
  | [d1, d2, d3] => { results := [.lit (.bool true)], args := [d1, d2, d3] }
  | _ => none }
def ringRowsRow : OpenClaim := { program := "ytmmnobdpccdeoaadoor", sum := "8225496f645416d7439b3aa058fbbfeda5e543035d3b09e00e1206e9973f2497", func := "penelope/penelopelaw13.RingRows", spec := "ringRows", inPlace := ["internal/abi.NoEscape", "internal/bytealg.MakeNoZero", "internal/bytealg.IndexByteString", "internal/bytealg.IndexString"], unfollowed := true, recurses := true, named := ["unicode/utf8.first", "unicode/utf8.acceptRanges", "internal/bytealg.MaxLen"], apart := false, laid := [("unicode/utf8.acceptRanges", laid_unicode_utf8_acceptRanges), ("unicode/utf8.first", laid_unicode_utf8_first)] }
def RingRowsSaid : Prop := ringRowsRow.holds Tryd.pinned (OpenSpec.ofChange ringRowsSpec)

/-- ITS FALSE NEIGHBOUR: 'it returns false'. Refute it at one input. -/
def ringRowsWrong : ChangeSpec := { name := "ringRows", fn := fun _ => fun
  | [d1, d2, d3] => { results := [.lit (.bool false)], args := [d1, d2, d3] }
  | _ => none }
def RingRowsWrongFalsely : Prop := ringRowsRow.holds Tryd.pinned (OpenSpec.ofChange ringRowsWrong)

/-- 'penelopelaw13.RingBack': WHATEVER THE INPUT: true; the input reads as it did. -/
def ringBackSpec : ChangeSpec := { name := "ringBack", fn := fun _ => fun
  | [d1, d2, d3, d4] => { results := [.lit (.bool true)], args := [d1, d2, d3, d4] }
  | _ => none }
def ringBackRow : OpenClaim := { program := "ytmmnobdpccdeoaadoor", sum := "8225496f645416d7439b3aa058fbbfeda5e543035d3b09e00e1206e9973f2497", func := "penelope/penelopelaw13.RingBack", spec := "ringBack", inPlace := ["internal/abi.NoEscape", "internal/bytealg.MakeNoZero", "internal/bytealg.IndexByteString", "internal/bytealg.IndexString"], unfollowed := true, recurses := true, named := ["unicode/utf8.first", "unicode/utf8.acceptRanges", "internal/bytealg.MaxLen"], apart := false, laid := [("unicode/utf8.acceptRanges", laid_unicode_utf8_acceptRanges), ("unicode/utf8.first", laid_unicode_utf8_first)] }
def RingBackSaid : Prop := ringBackRow.holds Tryd.pinned (OpenSpec.ofChange ringBackSpec)

/-- ITS FALSE NEIGHBOUR: 'it returns false'. Refute it at one input. -/
def ringBackWrong : ChangeSpec := { name := "ringBack", fn := fun _ => fun
  | [d1, d2, d3, d4] => { results := [.lit (.bool false)], args := [d1, d2, d3, d4] }
  | _ => none }
def RingBackWrongFalsely : Prop := ringBackRow.holds Tryd.pinned (OpenSpec.ofChange ringBackWrong)

/-- 'penelopelaw08.LookGets': WHATEVER THE INPUT: true; the input reads as it did. -/
def lookGetsSpec : ChangeSpec := { name := "lookGets", fn := fun _ => fun
  | [d1, d2] => { results := [.lit (.bool true)], args := [d1, d2] }
  | _ => none }
def lookGetsRow : OpenClaim := { program := "ytmmnobdpccdeoaadoor", sum := "8225496f645416d7439b3aa058fbbfeda5e543035d3b09e00e1206e9973f2497", func := "penelope/penelopelaw08.LookGets", spec := "lookGets", inPlace := ["internal/abi.NoEscape", "internal/bytealg.MakeNoZero", "internal/bytealg.IndexByteString", "internal/bytealg.IndexString"], unfollowed := true, recurses := true, named := ["unicode/utf8.first", "unicode/utf8.acceptRanges", "internal/bytealg.MaxLen"], apart := false, laid := [("unicode/utf8.acceptRanges", laid_unicode_utf8_acceptRanges), ("unicode/utf8.first", laid_unicode_utf8_first)] }
def LookGetsSaid : Prop := lookGetsRow.holds Tryd.pinned (OpenSpec.ofChange lookGetsSpec)

/-- ITS FALSE NEIGHBOUR: 'it returns false'. Refute it at one input. -/
def lookGetsWrong : ChangeSpec := { name := "lookGets", fn := fun _ => fun
  | [d1, d2] => { results := [.lit (.bool false)], args := [d1, d2] }
  | _ => none }
def LookGetsWrongFalsely : Prop := lookGetsRow.holds Tryd.pinned (OpenSpec.ofChange lookGetsWrong)

/-- 'penelopelaw08.LookRights': WHATEVER THE INPUT: true; the input reads as it did. -/
def lookRightsSpec : ChangeSpec := { name := "lookRights", fn := fun _ => fun
  | [d1, d2, d3] => { results := [.lit (.bool true)], args := [d1, d2, d3] }
  | _ => none }
def lookRightsRow : OpenClaim := { program := "ytmmnobdpccdeoaadoor", sum := "8225496f645416d7439b3aa058fbbfeda5e543035d3b09e00e1206e9973f2497", func := "penelope/penelopelaw08.LookRights", spec := "lookRights", inPlace := ["internal/abi.NoEscape", "internal/bytealg.MakeNoZero", "internal/bytealg.IndexByteString", "internal/bytealg.IndexString"], unfollowed := true, recurses := true, named := ["unicode/utf8.first", "unicode/utf8.acceptRanges", "internal/bytealg.MaxLen"], apart := false, laid := [("unicode/utf8.acceptRanges", laid_unicode_utf8_acceptRanges), ("unicode/utf8.first", laid_unicode_utf8_first)] }
def LookRightsSaid : Prop := lookRightsRow.holds Tryd.pinned (OpenSpec.ofChange lookRightsSpec)

/-- ITS FALSE NEIGHBOUR: 'it returns false'. Refute it at one input. -/
def lookRightsWrong : ChangeSpec := { name := "lookRights", fn := fun _ => fun
  | [d1, d2, d3] => { results := [.lit (.bool false)], args := [d1, d2, d3] }
  | _ => none }
def LookRightsWrongFalsely : Prop := lookRightsRow.holds Tryd.pinned (OpenSpec.ofChange lookRightsWrong)

/-- 'penelopelaw11.CheckLost': WHATEVER THE INPUT: true; the input reads as it did. -/
def checkLostSpec : ChangeSpec := { name := "checkLost", fn := fun _ => fun
  | [d1, d2] => { results := [.lit (.bool true)], args := [d1, d2] }
  | _ => none }
def checkLostRow : OpenClaim := { program := "ytmmnobdpccdeoaadoor", sum := "8225496f645416d7439b3aa058fbbfeda5e543035d3b09e00e1206e9973f2497", func := "penelope/penelopelaw11.CheckLost", spec := "checkLost", inPlace := ["internal/abi.NoEscape", "internal/bytealg.MakeNoZero", "internal/bytealg.IndexByteString", "internal/bytealg.IndexString"], unfollowed := true, recurses := true, named := ["unicode/utf8.first", "unicode/utf8.acceptRanges", "internal/bytealg.MaxLen"], apart := false, laid := [("unicode/utf8.acceptRanges", laid_unicode_utf8_acceptRanges), ("unicode/utf8.first", laid_unicode_utf8_first)] }
def CheckLostSaid : Prop := checkLostRow.holds Tryd.pinned (OpenSpec.ofChange checkLostSpec)

/-- ITS FALSE NEIGHBOUR: 'it returns false'. Refute it at one input. -/
def checkLostWrong : ChangeSpec := { name := "checkLost", fn := fun _ => fun
  | [d1, d2] => { results := [.lit (.bool false)], args := [d1, d2] }
  | _ => none }
def CheckLostWrongFalsely : Prop := checkLostRow.holds Tryd.pinned (OpenSpec.ofChange checkLostWrong)

/- THE SECOND FORM. 'bulk': how many values and letters a reading holds, each counted each time it is reached (what is shared counts as often as it is met; a slice's spare places count too). A statement '..UptoSaid' is the law's where the arguments, and the package variables that the reading takes, are together of bulk at most 1048576: NARROWER than '..Said'. Prove '..Said' where nothing that the law and all that it calls make is longer than what came in: it says more and counts as full. Else prove '..UptoSaid'. A law counts once. -/
mutual
def uptoBulk {H : Type} : DataW H → Nat
  | .lit (.string bytes) => bytes.length + 1
  | .lit _ => 1
  | .nil => 1
  | .ptr d => uptoBulk d + 1
  | .slice elems spare => uptoBulkAll elems + uptoBulkAll spare + 1
  | .agg parts => uptoBulkAll parts + 1
  | .iface _ d => uptoBulk d + 1
  | .map entries => uptoBulkEntries entries + 1
  | .held _ => 1
def uptoBulkAll {H : Type} : List (DataW H) → Nat
  | [] => 0
  | d :: r => uptoBulk d + uptoBulkAll r
def uptoBulkEntries {H : Type} : List (Lit × DataW H) → Nat
  | [] => 0
  | x :: r => uptoBulkEntry x + uptoBulkEntries r
def uptoBulkEntry {H : Type} : Lit × DataW H → Nat
  | (.string bytes, d) => bytes.length + uptoBulk d + 1
  | (_, d) => uptoBulk d + 1
 end
def uptoSmall : (H : Type) → List (DataW H) → Bool := fun _ ds => decide (uptoBulkAll ds ≤ 1048576)
def OpenSpec.upto (s : _root_.Go.ChangeSpec) : _root_.Go.OpenSpec := { _root_.Go.OpenSpec.ofChange s with cond := some uptoSmall }

/-- 'penelopelaw12.SuperGets', WHERE WHAT IT READS IS OF BULK AT MOST 1048576: true; the input reads as it did. -/
def superGetsUptoRow : OpenClaim := { program := "ytmmnobdpccdeoaadoor", sum := "8225496f645416d7439b3aa058fbbfeda5e543035d3b09e00e1206e9973f2497", func := "penelope/penelopelaw12.SuperGets", spec := "superGets", inPlace := ["internal/abi.NoEscape", "internal/bytealg.MakeNoZero", "internal/bytealg.IndexByteString", "internal/bytealg.IndexString"], unfollowed := true, recurses := true, named := ["unicode/utf8.first", "unicode/utf8.acceptRanges", "internal/bytealg.MaxLen"], apart := false, laid := [("unicode/utf8.acceptRanges", laid_unicode_utf8_acceptRanges), ("unicode/utf8.first", laid_unicode_utf8_first)], narrowed := true }
def SuperGetsUptoSaid : Prop := superGetsUptoRow.holds Tryd.pinned (OpenSpec.upto superGetsSpec)

/-- 'penelopelaw13.RingWhole', WHERE WHAT IT READS IS OF BULK AT MOST 1048576: true; the input reads as it did. -/
def ringWholeUptoRow : OpenClaim := { program := "ytmmnobdpccdeoaadoor", sum := "8225496f645416d7439b3aa058fbbfeda5e543035d3b09e00e1206e9973f2497", func := "penelope/penelopelaw13.RingWhole", spec := "ringWhole", inPlace := ["internal/abi.NoEscape", "internal/bytealg.MakeNoZero", "internal/bytealg.IndexByteString", "internal/bytealg.IndexString"], unfollowed := true, recurses := true, named := ["unicode/utf8.first", "unicode/utf8.acceptRanges", "internal/bytealg.MaxLen"], apart := false, laid := [("unicode/utf8.acceptRanges", laid_unicode_utf8_acceptRanges), ("unicode/utf8.first", laid_unicode_utf8_first)], narrowed := true }
def RingWholeUptoSaid : Prop := ringWholeUptoRow.holds Tryd.pinned (OpenSpec.upto ringWholeSpec)

/-- 'penelopelaw12.SuperPuts', WHERE WHAT IT READS IS OF BULK AT MOST 1048576: true; the input reads as it did. -/
def superPutsUptoRow : OpenClaim := { program := "ytmmnobdpccdeoaadoor", sum := "8225496f645416d7439b3aa058fbbfeda5e543035d3b09e00e1206e9973f2497", func := "penelope/penelopelaw12.SuperPuts", spec := "superPuts", inPlace := ["internal/abi.NoEscape", "internal/bytealg.MakeNoZero", "internal/bytealg.IndexByteString", "internal/bytealg.IndexString"], unfollowed := true, recurses := true, named := ["unicode/utf8.first", "unicode/utf8.acceptRanges", "internal/bytealg.MaxLen"], apart := false, laid := [("unicode/utf8.acceptRanges", laid_unicode_utf8_acceptRanges), ("unicode/utf8.first", laid_unicode_utf8_first)], narrowed := true }
def SuperPutsUptoSaid : Prop := superPutsUptoRow.holds Tryd.pinned (OpenSpec.upto superPutsSpec)

/-- 'penelopelaw12.SuperBack', WHERE WHAT IT READS IS OF BULK AT MOST 1048576: true; the input reads as it did. -/
def superBackUptoRow : OpenClaim := { program := "ytmmnobdpccdeoaadoor", sum := "8225496f645416d7439b3aa058fbbfeda5e543035d3b09e00e1206e9973f2497", func := "penelope/penelopelaw12.SuperBack", spec := "superBack", inPlace := ["internal/abi.NoEscape", "internal/bytealg.MakeNoZero", "internal/bytealg.IndexByteString", "internal/bytealg.IndexString"], unfollowed := true, recurses := true, named := ["unicode/utf8.first", "unicode/utf8.acceptRanges", "internal/bytealg.MaxLen"], apart := false, laid := [("unicode/utf8.acceptRanges", laid_unicode_utf8_acceptRanges), ("unicode/utf8.first", laid_unicode_utf8_first)], narrowed := true }
def SuperBackUptoSaid : Prop := superBackUptoRow.holds Tryd.pinned (OpenSpec.upto superBackSpec)

/-- 'penelopelaw12.SuperChooses', WHERE WHAT IT READS IS OF BULK AT MOST 1048576: true; the input reads as it did. -/
def superChoosesUptoRow : OpenClaim := { program := "ytmmnobdpccdeoaadoor", sum := "8225496f645416d7439b3aa058fbbfeda5e543035d3b09e00e1206e9973f2497", func := "penelope/penelopelaw12.SuperChooses", spec := "superChooses", inPlace := ["internal/abi.NoEscape", "internal/bytealg.MakeNoZero", "internal/bytealg.IndexByteString", "internal/bytealg.IndexString"], unfollowed := true, recurses := true, named := ["unicode/utf8.first", "unicode/utf8.acceptRanges", "internal/bytealg.MaxLen"], apart := false, laid := [("unicode/utf8.acceptRanges", laid_unicode_utf8_acceptRanges), ("unicode/utf8.first", laid_unicode_utf8_first)], narrowed := true }
def SuperChoosesUptoSaid : Prop := superChoosesUptoRow.holds Tryd.pinned (OpenSpec.upto superChoosesSpec)

/-- 'penelopelaw13.RingScans', WHERE WHAT IT READS IS OF BULK AT MOST 1048576: true; the input reads as it did. -/
def ringScansUptoRow : OpenClaim := { program := "ytmmnobdpccdeoaadoor", sum := "8225496f645416d7439b3aa058fbbfeda5e543035d3b09e00e1206e9973f2497", func := "penelope/penelopelaw13.RingScans", spec := "ringScans", inPlace := ["internal/abi.NoEscape", "internal/bytealg.MakeNoZero", "internal/bytealg.IndexByteString", "internal/bytealg.IndexString"], unfollowed := true, recurses := true, named := ["unicode/utf8.first", "unicode/utf8.acceptRanges", "internal/bytealg.MaxLen"], apart := false, laid := [("unicode/utf8.acceptRanges", laid_unicode_utf8_acceptRanges), ("unicode/utf8.first", laid_unicode_utf8_first)], narrowed := true }
def RingScansUptoSaid : Prop := ringScansUptoRow.holds Tryd.pinned (OpenSpec.upto ringScansSpec)

/-- 'penelopelaw13.RingRows', WHERE WHAT IT READS IS OF BULK AT MOST 1048576: true; the input reads as it did. -/
def ringRowsUptoRow : OpenClaim := { program := "ytmmnobdpccdeoaadoor", sum := "8225496f645416d7439b3aa058fbbfeda5e543035d3b09e00e1206e9973f2497", func := "penelope/penelopelaw13.RingRows", spec := "ringRows", inPlace := ["internal/abi.NoEscape", "internal/bytealg.MakeNoZero", "internal/bytealg.IndexByteString", "internal/bytealg.IndexString"], unfollowed := true, recurses := true, named := ["unicode/utf8.first", "unicode/utf8.acceptRanges", "internal/bytealg.MaxLen"], apart := false, laid := [("unicode/utf8.acceptRanges", laid_unicode_utf8_acceptRanges), ("unicode/utf8.first", laid_unicode_utf8_first)], narrowed := true }
def RingRowsUptoSaid : Prop := ringRowsUptoRow.holds Tryd.pinned (OpenSpec.upto ringRowsSpec)

/-- 'penelopelaw13.RingBack', WHERE WHAT IT READS IS OF BULK AT MOST 1048576: true; the input reads as it did. -/
def ringBackUptoRow : OpenClaim := { program := "ytmmnobdpccdeoaadoor", sum := "8225496f645416d7439b3aa058fbbfeda5e543035d3b09e00e1206e9973f2497", func := "penelope/penelopelaw13.RingBack", spec := "ringBack", inPlace := ["internal/abi.NoEscape", "internal/bytealg.MakeNoZero", "internal/bytealg.IndexByteString", "internal/bytealg.IndexString"], unfollowed := true, recurses := true, named := ["unicode/utf8.first", "unicode/utf8.acceptRanges", "internal/bytealg.MaxLen"], apart := false, laid := [("unicode/utf8.acceptRanges", laid_unicode_utf8_acceptRanges), ("unicode/utf8.first", laid_unicode_utf8_first)], narrowed := true }
def RingBackUptoSaid : Prop := ringBackUptoRow.holds Tryd.pinned (OpenSpec.upto ringBackSpec)

/-- 'penelopelaw08.LookGets', WHERE WHAT IT READS IS OF BULK AT MOST 1048576: true; the input reads as it did. -/
def lookGetsUptoRow : OpenClaim := { program := "ytmmnobdpccdeoaadoor", sum := "8225496f645416d7439b3aa058fbbfeda5e543035d3b09e00e1206e9973f2497", func := "penelope/penelopelaw08.LookGets", spec := "lookGets", inPlace := ["internal/abi.NoEscape", "internal/bytealg.MakeNoZero", "internal/bytealg.IndexByteString", "internal/bytealg.IndexString"], unfollowed := true, recurses := true, named := ["unicode/utf8.first", "unicode/utf8.acceptRanges", "internal/bytealg.MaxLen"], apart := false, laid := [("unicode/utf8.acceptRanges", laid_unicode_utf8_acceptRanges), ("unicode/utf8.first", laid_unicode_utf8_first)], narrowed := true }
def LookGetsUptoSaid : Prop := lookGetsUptoRow.holds Tryd.pinned (OpenSpec.upto lookGetsSpec)

/-- 'penelopelaw08.LookRights', WHERE WHAT IT READS IS OF BULK AT MOST 1048576: true; the input reads as it did. -/
def lookRightsUptoRow : OpenClaim := { program := "ytmmnobdpccdeoaadoor", sum := "8225496f645416d7439b3aa058fbbfeda5e543035d3b09e00e1206e9973f2497", func := "penelope/penelopelaw08.LookRights", spec := "lookRights", inPlace := ["internal/abi.NoEscape", "internal/bytealg.MakeNoZero", "internal/bytealg.IndexByteString", "internal/bytealg.IndexString"], unfollowed := true, recurses := true, named := ["unicode/utf8.first", "unicode/utf8.acceptRanges", "internal/bytealg.MaxLen"], apart := false, laid := [("unicode/utf8.acceptRanges", laid_unicode_utf8_acceptRanges), ("unicode/utf8.first", laid_unicode_utf8_first)], narrowed := true }
def LookRightsUptoSaid : Prop := lookRightsUptoRow.holds Tryd.pinned (OpenSpec.upto lookRightsSpec)

/-- 'penelopelaw11.CheckLost', WHERE WHAT IT READS IS OF BULK AT MOST 1048576: true; the input reads as it did. -/
def checkLostUptoRow : OpenClaim := { program := "ytmmnobdpccdeoaadoor", sum := "8225496f645416d7439b3aa058fbbfeda5e543035d3b09e00e1206e9973f2497", func := "penelope/penelopelaw11.CheckLost", spec := "checkLost", inPlace := ["internal/abi.NoEscape", "internal/bytealg.MakeNoZero", "internal/bytealg.IndexByteString", "internal/bytealg.IndexString"], unfollowed := true, recurses := true, named := ["unicode/utf8.first", "unicode/utf8.acceptRanges", "internal/bytealg.MaxLen"], apart := false, laid := [("unicode/utf8.acceptRanges", laid_unicode_utf8_acceptRanges), ("unicode/utf8.first", laid_unicode_utf8_first)], narrowed := true }
def CheckLostUptoSaid : Prop := checkLostUptoRow.holds Tryd.pinned (OpenSpec.upto checkLostSpec)

end Rows
end Go.Proofs.YtmmnobdpccdeoaaDoor
