/-
  NARROWER THAN 'FOR EVERY INPUT', by the rows' own cells (each row's printed sentence says how): DeviceRights: laid · DeviceMixes: laid · DeviceMixed: laid · DeviceCrashes: laid · DeviceWhole: laid · DeviceCalls: laid · DeviceSettles: laid · DeviceTells: laid · RingPuts: laid.
  DERIVED. THE GIVEN ROWS OF THIS SEAT. 9 by the template 'for every input the law returns true; each argument reads behind the call as it read before'; 0 by the template 'total and deterministic' (their statements: YtcakphhnilklnaaDoorTotals.lean).
  GIVEN WITH THE SEED: the statements are not yours to turn. If you find one false, say at which input.
  Laid BY PROGRAM, IN A SANDBOX (cutbox-rows.mjs): the forced cells as the released guide's own fill.sh prints them over the translation 72c12b9c2d0bd595… (all of the seat's roots in one cut). By AI agents, Wed Nov 11 2026. No macro, syntax, notation, axiom, sorry.
-/
import Derived.Test.YtcakphhnilklnaaDoorChecked
import GoSem.PinnedTables
import GoSem.Claim
import GoSem.ClaimJoined
import GoSem.ClaimMapViews
import Derived.JoinedTies
import Derived.KernelRfl
namespace Go.Proofs.YtcakphhnilklnaaDoor
/- THE CELL 'sum', in the pinned program and in every row, IS THE sha256 OF THE DUMP (.gsa) THAT YtcakphhnilklnaaDoorProg.lean LOADS. Nothing in Lean hashes anything: it is a label: what it is worth is what the hold of that sum in a sandbox is worth. -/
noncomputable def Tryd.pinned : Pinned := { name := "ytcakphhnilklnaadoor", sum := "72c12b9c2d0bd595723e4d4d580ad93ed53419d58942bff55b0480118c5b46fc", checked := Tryd.checked }
namespace Rows
def none {H : Type} : Left H := { results := [], args := [] }

/- WHAT THE LISTED PACKAGE-LEVEL VARIABLES READ AS WHEN THE CALL BEGINS. Each datum BY PROGRAM (the guide's laid-datum.mjs) off the statement by which the dump's own 'gosem.cut.vars' lays the variable. In a bare row this is a premise. The card (YtcakphhnilklnaaDoorCards.lean) ties it to the program's text. -/
def laid_unicode_utf8_acceptRanges {H : Type} : DataW H := .agg [.agg [.lit (.int .u8 128), .lit (.int .u8 191)], .agg [.lit (.int .u8 160), .lit (.int .u8 191)], .agg [.lit (.int .u8 128), .lit (.int .u8 159)], .agg [.lit (.int .u8 144), .lit (.int .u8 191)], .agg [.lit (.int .u8 128), .lit (.int .u8 143)], .agg [.lit (.int .u8 0), .lit (.int .u8 0)], .agg [.lit (.int .u8 0), .lit (.int .u8 0)], .agg [.lit (.int .u8 0), .lit (.int .u8 0)], .agg [.lit (.int .u8 0), .lit (.int .u8 0)], .agg [.lit (.int .u8 0), .lit (.int .u8 0)], .agg [.lit (.int .u8 0), .lit (.int .u8 0)], .agg [.lit (.int .u8 0), .lit (.int .u8 0)], .agg [.lit (.int .u8 0), .lit (.int .u8 0)], .agg [.lit (.int .u8 0), .lit (.int .u8 0)], .agg [.lit (.int .u8 0), .lit (.int .u8 0)], .agg [.lit (.int .u8 0), .lit (.int .u8 0)]]
/-- One of Go's own tables, pinned by name: the form's constant. -/
def laid_unicode_utf8_first : DataW Unit := Go.Pinned.utf8First

/-- 'penelopelaw03.DeviceRights': WHATEVER THE INPUT: true; the input reads as it did. -/
def deviceRightsSpec : ChangeSpec := { name := "deviceRights", fn := fun _ => fun
  | [d1, d2] => { results := [.lit (.bool true)], args := [d1, d2] }
  | _ => none }
def deviceRightsRow : OpenClaim := { program := "ytcakphhnilklnaadoor", sum := "72c12b9c2d0bd595723e4d4d580ad93ed53419d58942bff55b0480118c5b46fc", func := "penelope/penelopelaw03.DeviceRights", spec := "deviceRights", inPlace := ["internal/bytealg.IndexByteString", "internal/bytealg.IndexString"], unfollowed := true, recurses := true, named := ["unicode/utf8.first", "unicode/utf8.acceptRanges", "internal/bytealg.MaxLen"], apart := false, laid := [("unicode/utf8.acceptRanges", laid_unicode_utf8_acceptRanges), ("unicode/utf8.first", laid_unicode_utf8_first)] }
def DeviceRightsSaid : Prop := deviceRightsRow.holds Tryd.pinned (OpenSpec.ofChange deviceRightsSpec)

/-- ITS FALSE NEIGHBOUR: 'it returns false'. Refute it at one input. -/
def deviceRightsWrong : ChangeSpec := { name := "deviceRights", fn := fun _ => fun
  | [d1, d2] => { results := [.lit (.bool false)], args := [d1, d2] }
  | _ => none }
def DeviceRightsWrongFalsely : Prop := deviceRightsRow.holds Tryd.pinned (OpenSpec.ofChange deviceRightsWrong)

/-- 'penelopelaw03.DeviceMixes': WHATEVER THE INPUT: true; the input reads as it did. -/
def deviceMixesSpec : ChangeSpec := { name := "deviceMixes", fn := fun _ => fun
  | [d1, d2, d3, d4] => { results := [.lit (.bool true)], args := [d1, d2, d3, d4] }
  | _ => none }
def deviceMixesRow : OpenClaim := { program := "ytcakphhnilklnaadoor", sum := "72c12b9c2d0bd595723e4d4d580ad93ed53419d58942bff55b0480118c5b46fc", func := "penelope/penelopelaw03.DeviceMixes", spec := "deviceMixes", inPlace := ["internal/bytealg.IndexByteString", "internal/bytealg.IndexString", "internal/abi.NoEscape", "internal/bytealg.MakeNoZero"], unfollowed := true, recurses := true, named := ["unicode/utf8.first", "unicode/utf8.acceptRanges", "internal/bytealg.MaxLen"], apart := false, laid := [("unicode/utf8.acceptRanges", laid_unicode_utf8_acceptRanges), ("unicode/utf8.first", laid_unicode_utf8_first)] }
def DeviceMixesSaid : Prop := deviceMixesRow.holds Tryd.pinned (OpenSpec.ofChange deviceMixesSpec)

/-- ITS FALSE NEIGHBOUR: 'it returns false'. Refute it at one input. -/
def deviceMixesWrong : ChangeSpec := { name := "deviceMixes", fn := fun _ => fun
  | [d1, d2, d3, d4] => { results := [.lit (.bool false)], args := [d1, d2, d3, d4] }
  | _ => none }
def DeviceMixesWrongFalsely : Prop := deviceMixesRow.holds Tryd.pinned (OpenSpec.ofChange deviceMixesWrong)

/-- 'penelopelaw03.DeviceMixed': WHATEVER THE INPUT: true; the input reads as it did. -/
def deviceMixedSpec : ChangeSpec := { name := "deviceMixed", fn := fun _ => fun
  | [d1, d2, d3] => { results := [.lit (.bool true)], args := [d1, d2, d3] }
  | _ => none }
def deviceMixedRow : OpenClaim := { program := "ytcakphhnilklnaadoor", sum := "72c12b9c2d0bd595723e4d4d580ad93ed53419d58942bff55b0480118c5b46fc", func := "penelope/penelopelaw03.DeviceMixed", spec := "deviceMixed", inPlace := ["internal/bytealg.IndexByteString", "internal/bytealg.IndexString", "internal/abi.NoEscape", "internal/bytealg.MakeNoZero"], unfollowed := true, recurses := true, named := ["unicode/utf8.first", "unicode/utf8.acceptRanges", "internal/bytealg.MaxLen"], apart := false, laid := [("unicode/utf8.acceptRanges", laid_unicode_utf8_acceptRanges), ("unicode/utf8.first", laid_unicode_utf8_first)] }
def DeviceMixedSaid : Prop := deviceMixedRow.holds Tryd.pinned (OpenSpec.ofChange deviceMixedSpec)

/-- ITS FALSE NEIGHBOUR: 'it returns false'. Refute it at one input. -/
def deviceMixedWrong : ChangeSpec := { name := "deviceMixed", fn := fun _ => fun
  | [d1, d2, d3] => { results := [.lit (.bool false)], args := [d1, d2, d3] }
  | _ => none }
def DeviceMixedWrongFalsely : Prop := deviceMixedRow.holds Tryd.pinned (OpenSpec.ofChange deviceMixedWrong)

/-- 'penelopelaw03.DeviceCrashes': WHATEVER THE INPUT: true; the input reads as it did. -/
def deviceCrashesSpec : ChangeSpec := { name := "deviceCrashes", fn := fun _ => fun
  | [d1, d2] => { results := [.lit (.bool true)], args := [d1, d2] }
  | _ => none }
def deviceCrashesRow : OpenClaim := { program := "ytcakphhnilklnaadoor", sum := "72c12b9c2d0bd595723e4d4d580ad93ed53419d58942bff55b0480118c5b46fc", func := "penelope/penelopelaw03.DeviceCrashes", spec := "deviceCrashes", inPlace := ["internal/bytealg.IndexByteString", "internal/bytealg.IndexString", "internal/abi.NoEscape", "internal/bytealg.MakeNoZero"], unfollowed := true, recurses := true, named := ["unicode/utf8.first", "unicode/utf8.acceptRanges", "internal/bytealg.MaxLen"], apart := false, laid := [("unicode/utf8.acceptRanges", laid_unicode_utf8_acceptRanges), ("unicode/utf8.first", laid_unicode_utf8_first)] }
def DeviceCrashesSaid : Prop := deviceCrashesRow.holds Tryd.pinned (OpenSpec.ofChange deviceCrashesSpec)

/-- ITS FALSE NEIGHBOUR: 'it returns false'. Refute it at one input. -/
def deviceCrashesWrong : ChangeSpec := { name := "deviceCrashes", fn := fun _ => fun
  | [d1, d2] => { results := [.lit (.bool false)], args := [d1, d2] }
  | _ => none }
def DeviceCrashesWrongFalsely : Prop := deviceCrashesRow.holds Tryd.pinned (OpenSpec.ofChange deviceCrashesWrong)

/-- 'penelopelaw03.DeviceWhole': WHATEVER THE INPUT: true; the input reads as it did. -/
def deviceWholeSpec : ChangeSpec := { name := "deviceWhole", fn := fun _ => fun
  | [d1, d2] => { results := [.lit (.bool true)], args := [d1, d2] }
  | _ => none }
def deviceWholeRow : OpenClaim := { program := "ytcakphhnilklnaadoor", sum := "72c12b9c2d0bd595723e4d4d580ad93ed53419d58942bff55b0480118c5b46fc", func := "penelope/penelopelaw03.DeviceWhole", spec := "deviceWhole", inPlace := ["internal/bytealg.IndexByteString", "internal/bytealg.IndexString", "internal/abi.NoEscape", "internal/bytealg.MakeNoZero"], unfollowed := true, recurses := true, named := ["unicode/utf8.first", "unicode/utf8.acceptRanges", "internal/bytealg.MaxLen"], apart := false, laid := [("unicode/utf8.acceptRanges", laid_unicode_utf8_acceptRanges), ("unicode/utf8.first", laid_unicode_utf8_first)] }
def DeviceWholeSaid : Prop := deviceWholeRow.holds Tryd.pinned (OpenSpec.ofChange deviceWholeSpec)

/-- ITS FALSE NEIGHBOUR: 'it returns false'. Refute it at one input. -/
def deviceWholeWrong : ChangeSpec := { name := "deviceWhole", fn := fun _ => fun
  | [d1, d2] => { results := [.lit (.bool false)], args := [d1, d2] }
  | _ => none }
def DeviceWholeWrongFalsely : Prop := deviceWholeRow.holds Tryd.pinned (OpenSpec.ofChange deviceWholeWrong)

/-- 'penelopelaw03.DeviceCalls': WHATEVER THE INPUT: true; the input reads as it did. -/
def deviceCallsSpec : ChangeSpec := { name := "deviceCalls", fn := fun _ => fun
  | [d1, d2, d3] => { results := [.lit (.bool true)], args := [d1, d2, d3] }
  | _ => none }
def deviceCallsRow : OpenClaim := { program := "ytcakphhnilklnaadoor", sum := "72c12b9c2d0bd595723e4d4d580ad93ed53419d58942bff55b0480118c5b46fc", func := "penelope/penelopelaw03.DeviceCalls", spec := "deviceCalls", inPlace := ["internal/bytealg.IndexByteString", "internal/bytealg.IndexString", "internal/abi.NoEscape", "internal/bytealg.MakeNoZero"], unfollowed := true, recurses := true, named := ["unicode/utf8.first", "unicode/utf8.acceptRanges", "internal/bytealg.MaxLen"], apart := false, laid := [("unicode/utf8.acceptRanges", laid_unicode_utf8_acceptRanges), ("unicode/utf8.first", laid_unicode_utf8_first)] }
def DeviceCallsSaid : Prop := deviceCallsRow.holds Tryd.pinned (OpenSpec.ofChange deviceCallsSpec)

/-- ITS FALSE NEIGHBOUR: 'it returns false'. Refute it at one input. -/
def deviceCallsWrong : ChangeSpec := { name := "deviceCalls", fn := fun _ => fun
  | [d1, d2, d3] => { results := [.lit (.bool false)], args := [d1, d2, d3] }
  | _ => none }
def DeviceCallsWrongFalsely : Prop := deviceCallsRow.holds Tryd.pinned (OpenSpec.ofChange deviceCallsWrong)

/-- 'penelopelaw03.DeviceSettles': WHATEVER THE INPUT: true; the input reads as it did. -/
def deviceSettlesSpec : ChangeSpec := { name := "deviceSettles", fn := fun _ => fun
  | [d] => { results := [.lit (.bool true)], args := [d] }
  | _ => none }
def deviceSettlesRow : OpenClaim := { program := "ytcakphhnilklnaadoor", sum := "72c12b9c2d0bd595723e4d4d580ad93ed53419d58942bff55b0480118c5b46fc", func := "penelope/penelopelaw03.DeviceSettles", spec := "deviceSettles", inPlace := ["internal/bytealg.IndexByteString", "internal/bytealg.IndexString", "internal/abi.NoEscape", "internal/bytealg.MakeNoZero"], unfollowed := true, recurses := true, named := ["unicode/utf8.first", "unicode/utf8.acceptRanges", "internal/bytealg.MaxLen"], apart := false, laid := [("unicode/utf8.acceptRanges", laid_unicode_utf8_acceptRanges), ("unicode/utf8.first", laid_unicode_utf8_first)] }
def DeviceSettlesSaid : Prop := deviceSettlesRow.holds Tryd.pinned (OpenSpec.ofChange deviceSettlesSpec)

/-- ITS FALSE NEIGHBOUR: 'it returns false'. Refute it at one input. -/
def deviceSettlesWrong : ChangeSpec := { name := "deviceSettles", fn := fun _ => fun
  | [d] => { results := [.lit (.bool false)], args := [d] }
  | _ => none }
def DeviceSettlesWrongFalsely : Prop := deviceSettlesRow.holds Tryd.pinned (OpenSpec.ofChange deviceSettlesWrong)

/-- 'penelopelaw03.DeviceTells': WHATEVER THE INPUT: true; the input reads as it did. -/
def deviceTellsSpec : ChangeSpec := { name := "deviceTells", fn := fun _ => fun
  | [d1, d2, d3, d4, d5] => { results := [.lit (.bool true)], args := [d1, d2, d3, d4, d5] }
  | _ => none }
def deviceTellsRow : OpenClaim := { program := "ytcakphhnilklnaadoor", sum := "72c12b9c2d0bd595723e4d4d580ad93ed53419d58942bff55b0480118c5b46fc", func := "penelope/penelopelaw03.DeviceTells", spec := "deviceTells", inPlace := ["internal/bytealg.IndexByteString", "internal/bytealg.IndexString", "internal/abi.NoEscape", "internal/bytealg.MakeNoZero"], unfollowed := true, recurses := true, named := ["unicode/utf8.first", "unicode/utf8.acceptRanges", "internal/bytealg.MaxLen"], apart := false, laid := [("unicode/utf8.acceptRanges", laid_unicode_utf8_acceptRanges), ("unicode/utf8.first", laid_unicode_utf8_first)] }
def DeviceTellsSaid : Prop := deviceTellsRow.holds Tryd.pinned (OpenSpec.ofChange deviceTellsSpec)

/-- ITS FALSE NEIGHBOUR: 'it returns false'. Refute it at one input. -/
def deviceTellsWrong : ChangeSpec := { name := "deviceTells", fn := fun _ => fun
  | [d1, d2, d3, d4, d5] => { results := [.lit (.bool false)], args := [d1, d2, d3, d4, d5] }
  | _ => none }
def DeviceTellsWrongFalsely : Prop := deviceTellsRow.holds Tryd.pinned (OpenSpec.ofChange deviceTellsWrong)

/-- 'penelopelaw13.RingPuts': WHATEVER THE INPUT: true; the input reads as it did. -/
def ringPutsSpec : ChangeSpec := { name := "ringPuts", fn := fun _ => fun
  | [d1, d2, d3, d4] => { results := [.lit (.bool true)], args := [d1, d2, d3, d4] }
  | _ => none }
def ringPutsRow : OpenClaim := { program := "ytcakphhnilklnaadoor", sum := "72c12b9c2d0bd595723e4d4d580ad93ed53419d58942bff55b0480118c5b46fc", func := "penelope/penelopelaw13.RingPuts", spec := "ringPuts", inPlace := ["internal/abi.NoEscape", "internal/bytealg.MakeNoZero", "internal/bytealg.IndexByteString", "internal/bytealg.IndexString"], unfollowed := true, recurses := true, named := ["unicode/utf8.first", "unicode/utf8.acceptRanges", "internal/bytealg.MaxLen"], apart := false, laid := [("unicode/utf8.acceptRanges", laid_unicode_utf8_acceptRanges), ("unicode/utf8.first", laid_unicode_utf8_first)] }
def RingPutsSaid : Prop := ringPutsRow.holds Tryd.pinned (OpenSpec.ofChange ringPutsSpec)

/-- ITS FALSE NEIGHBOUR: 'it returns false'. Refute it at one input. -/
def ringPutsWrong : ChangeSpec := { name := "ringPuts", fn := fun _ => fun
  | [d1, d2, d3, d4] => { results := [.lit (.bool false)], args := [d1, d2, d3, d4] }
  | _ => none }
def RingPutsWrongFalsely : Prop := ringPutsRow.holds Tryd.pinned (OpenSpec.ofChange ringPutsWrong)

/- THE SECOND FORM. 'bulk': how many values and letters a reading holds, each counted each time it is reached (what is shared counts as often as it is met; a slice's spare places count too). A statement '..UptoSaid' is the law's where the arguments, and the package variables that the reading takes, are together of bulk at most 1048576: NARROWER than '..Said'. Prove '..Said' where nothing that the law and all that it calls make is longer than what came in: it says more and counts as full. Else prove '..UptoSaid'. A law counts once. -/
mutual
def uptoBulk {H : Type} : DataW H → Nat
  | .lit (.string bytes) => bytes.length + 1
  | .lit _ => 1
  | .nil => 1
  | .ptr d => uptoBulk d + 1
  | .slice elems spare => uptoBulkAll elems + uptoBulkAll spare + 1
  | .agg parts => uptoBulkAll parts + 1
  | .iface _ d => uptoBulk d + 1
  | .map entries => uptoBulkEntries entries + 1
  | .held _ => 1
def uptoBulkAll {H : Type} : List (DataW H) → Nat
  | [] => 0
  | d :: r => uptoBulk d + uptoBulkAll r
def uptoBulkEntries {H : Type} : List (Lit × DataW H) → Nat
  | [] => 0
  | x :: r => uptoBulkEntry x + uptoBulkEntries r
def uptoBulkEntry {H : Type} : Lit × DataW H → Nat
  | (.string bytes, d) => bytes.length + uptoBulk d + 1
  | (_, d) => uptoBulk d + 1
 end
def uptoSmall : (H : Type) → List (DataW H) → Bool := fun _ ds => decide (uptoBulkAll ds ≤ 1048576)
def OpenSpec.upto (s : _root_.Go.ChangeSpec) : _root_.Go.OpenSpec := { _root_.Go.OpenSpec.ofChange s with cond := some uptoSmall }

/-- 'penelopelaw03.DeviceRights', WHERE WHAT IT READS IS OF BULK AT MOST 1048576: true; the input reads as it did. -/
def deviceRightsUptoRow : OpenClaim := { program := "ytcakphhnilklnaadoor", sum := "72c12b9c2d0bd595723e4d4d580ad93ed53419d58942bff55b0480118c5b46fc", func := "penelope/penelopelaw03.DeviceRights", spec := "deviceRights", inPlace := ["internal/bytealg.IndexByteString", "internal/bytealg.IndexString"], unfollowed := true, recurses := true, named := ["unicode/utf8.first", "unicode/utf8.acceptRanges", "internal/bytealg.MaxLen"], apart := false, laid := [("unicode/utf8.acceptRanges", laid_unicode_utf8_acceptRanges), ("unicode/utf8.first", laid_unicode_utf8_first)], narrowed := true }
def DeviceRightsUptoSaid : Prop := deviceRightsUptoRow.holds Tryd.pinned (OpenSpec.upto deviceRightsSpec)

/-- 'penelopelaw03.DeviceMixes', WHERE WHAT IT READS IS OF BULK AT MOST 1048576: true; the input reads as it did. -/
def deviceMixesUptoRow : OpenClaim := { program := "ytcakphhnilklnaadoor", sum := "72c12b9c2d0bd595723e4d4d580ad93ed53419d58942bff55b0480118c5b46fc", func := "penelope/penelopelaw03.DeviceMixes", spec := "deviceMixes", inPlace := ["internal/bytealg.IndexByteString", "internal/bytealg.IndexString", "internal/abi.NoEscape", "internal/bytealg.MakeNoZero"], unfollowed := true, recurses := true, named := ["unicode/utf8.first", "unicode/utf8.acceptRanges", "internal/bytealg.MaxLen"], apart := false, laid := [("unicode/utf8.acceptRanges", laid_unicode_utf8_acceptRanges), ("unicode/utf8.first", laid_unicode_utf8_first)], narrowed := true }
def DeviceMixesUptoSaid : Prop := deviceMixesUptoRow.holds Tryd.pinned (OpenSpec.upto deviceMixesSpec)

/-- 'penelopelaw03.DeviceMixed', WHERE WHAT IT READS IS OF BULK AT MOST 1048576: true; the input reads as it did. -/
def deviceMixedUptoRow : OpenClaim := { program := "ytcakphhnilklnaadoor", sum := "72c12b9c2d0bd595723e4d4d580ad93ed53419d58942bff55b0480118c5b46fc", func := "penelope/penelopelaw03.DeviceMixed", spec := "deviceMixed", inPlace := ["internal/bytealg.IndexByteString", "internal/bytealg.IndexString", "internal/abi.NoEscape", "internal/bytealg.MakeNoZero"], unfollowed := true, recurses := true, named := ["unicode/utf8.first", "unicode/utf8.acceptRanges", "internal/bytealg.MaxLen"], apart := false, laid := [("unicode/utf8.acceptRanges", laid_unicode_utf8_acceptRanges), ("unicode/utf8.first", laid_unicode_utf8_first)], narrowed := true }
def DeviceMixedUptoSaid : Prop := deviceMixedUptoRow.holds Tryd.pinned (OpenSpec.upto deviceMixedSpec)

/-- 'penelopelaw03.DeviceCrashes', WHERE WHAT IT READS IS OF BULK AT MOST 1048576: true; the input reads as it did. -/
def deviceCrashesUptoRow : OpenClaim := { program := "ytcakphhnilklnaadoor", sum := "72c12b9c2d0bd595723e4d4d580ad93ed53419d58942bff55b0480118c5b46fc", func := "penelope/penelopelaw03.DeviceCrashes", spec := "deviceCrashes", inPlace := ["internal/bytealg.IndexByteString", "internal/bytealg.IndexString", "internal/abi.NoEscape", "internal/bytealg.MakeNoZero"], unfollowed := true, recurses := true, named := ["unicode/utf8.first", "unicode/utf8.acceptRanges", "internal/bytealg.MaxLen"], apart := false, laid := [("unicode/utf8.acceptRanges", laid_unicode_utf8_acceptRanges), ("unicode/utf8.first", laid_unicode_utf8_first)], narrowed := true }
def DeviceCrashesUptoSaid : Prop := deviceCrashesUptoRow.holds Tryd.pinned (OpenSpec.upto deviceCrashesSpec)

/-- 'penelopelaw03.DeviceWhole', WHERE WHAT IT READS IS OF BULK AT MOST 1048576: true; the input reads as it did. -/
def deviceWholeUptoRow : OpenClaim := { program := "ytcakphhnilklnaadoor", sum := "72c12b9c2d0bd595723e4d4d580ad93ed53419d58942bff55b0480118c5b46fc", func := "penelope/penelopelaw03.DeviceWhole", spec := "deviceWhole", inPlace := ["internal/bytealg.IndexByteString", "internal/bytealg.IndexString", "internal/abi.NoEscape", "internal/bytealg.MakeNoZero"], unfollowed := true, recurses := true, named := ["unicode/utf8.first", "unicode/utf8.acceptRanges", "internal/bytealg.MaxLen"], apart := false, laid := [("unicode/utf8.acceptRanges", laid_unicode_utf8_acceptRanges), ("unicode/utf8.first", laid_unicode_utf8_first)], narrowed := true }
def DeviceWholeUptoSaid : Prop := deviceWholeUptoRow.holds Tryd.pinned (OpenSpec.upto deviceWholeSpec)

/-- 'penelopelaw03.DeviceCalls', WHERE WHAT IT READS IS OF BULK AT MOST 1048576: true; the input reads as it did. -/
def deviceCallsUptoRow : OpenClaim := { program := "ytcakphhnilklnaadoor", sum := "72c12b9c2d0bd595723e4d4d580ad93ed53419d58942bff55b0480118c5b46fc", func := "penelope/penelopelaw03.DeviceCalls", spec := "deviceCalls", inPlace := ["internal/bytealg.IndexByteString", "internal/bytealg.IndexString", "internal/abi.NoEscape", "internal/bytealg.MakeNoZero"], unfollowed := true, recurses := true, named := ["unicode/utf8.first", "unicode/utf8.acceptRanges", "internal/bytealg.MaxLen"], apart := false, laid := [("unicode/utf8.acceptRanges", laid_unicode_utf8_acceptRanges), ("unicode/utf8.first", laid_unicode_utf8_first)], narrowed := true }
def DeviceCallsUptoSaid : Prop := deviceCallsUptoRow.holds Tryd.pinned (OpenSpec.upto deviceCallsSpec)

/-- 'penelopelaw03.DeviceSettles', WHERE WHAT IT READS IS OF BULK AT MOST 1048576: true; the input reads as it did. -/
def deviceSettlesUptoRow : OpenClaim := { program := "ytcakphhnilklnaadoor", sum := "72c12b9c2d0bd595723e4d4d580ad93ed53419d58942bff55b0480118c5b46fc", func := "penelope/penelopelaw03.DeviceSettles", spec := "deviceSettles", inPlace := ["internal/bytealg.IndexByteString", "internal/bytealg.IndexString", "internal/abi.NoEscape", "internal/bytealg.MakeNoZero"], unfollowed := true, recurses := true, named := ["unicode/utf8.first", "unicode/utf8.acceptRanges", "internal/bytealg.MaxLen"], apart := false, laid := [("unicode/utf8.acceptRanges", laid_unicode_utf8_acceptRanges), ("unicode/utf8.first", laid_unicode_utf8_first)], narrowed := true }
def DeviceSettlesUptoSaid : Prop := deviceSettlesUptoRow.holds Tryd.pinned (OpenSpec.upto deviceSettlesSpec)

/-- 'penelopelaw03.DeviceTells', WHERE WHAT IT READS IS OF BULK AT MOST 1048576: true; the input reads as it did. -/
def deviceTellsUptoRow : OpenClaim := { program := "ytcakphhnilklnaadoor", sum := "72c12b9c2d0bd595723e4d4d580ad93ed53419d58942bff55b0480118c5b46fc", func := "penelope/penelopelaw03.DeviceTells", spec := "deviceTells", inPlace := ["internal/bytealg.IndexByteString", "internal/bytealg.IndexString", "internal/abi.NoEscape", "internal/bytealg.MakeNoZero"], unfollowed := true, recurses := true, named := ["unicode/utf8.first", "unicode/utf8.acceptRanges", "internal/bytealg.MaxLen"], apart := false, laid := [("unicode/utf8.acceptRanges", laid_unicode_utf8_acceptRanges), ("unicode/utf8.first", laid_unicode_utf8_first)], narrowed := true }
def DeviceTellsUptoSaid : Prop := deviceTellsUptoRow.holds Tryd.pinned (OpenSpec.upto deviceTellsSpec)

/-- 'penelopelaw13.RingPuts', WHERE WHAT IT READS IS OF BULK AT MOST 1048576: true; the input reads as it did. -/
def ringPutsUptoRow : OpenClaim := { program := "ytcakphhnilklnaadoor", sum := "72c12b9c2d0bd595723e4d4d580ad93ed53419d58942bff55b0480118c5b46fc", func := "penelope/penelopelaw13.RingPuts", spec := "ringPuts", inPlace := ["internal/abi.NoEscape", "internal/bytealg.MakeNoZero", "internal/bytealg.IndexByteString", "internal/bytealg.IndexString"], unfollowed := true, recurses := true, named := ["unicode/utf8.first", "unicode/utf8.acceptRanges", "internal/bytealg.MaxLen"], apart := false, laid := [("unicode/utf8.acceptRanges", laid_unicode_utf8_acceptRanges), ("unicode/utf8.first", laid_unicode_utf8_first)], narrowed := true }
def RingPutsUptoSaid : Prop := ringPutsUptoRow.holds Tryd.pinned (OpenSpec.upto ringPutsSpec)

end Rows
end Go.Proofs.YtcakphhnilklnaaDoor
