/-
  NARROWER THAN 'FOR EVERY INPUT', by the rows' own cells (each row's printed sentence says how): PagerFormats: laid · PagerMounts: laid · PagerCalls: laid · PagerCommits: laid · PagerBack: laid · PagerTwice: laid · PagerLeft: laid · PagerCrashes: laid.
  DERIVED. THE GIVEN ROWS OF THIS SEAT. 8 by the template 'for every input the law returns true; each argument reads behind the call as it read before'; 0 by the template 'total and deterministic' (their statements: YtegndijbpiccgaaGreatDoorTotals.lean).
  GIVEN WITH THE SEED: the statements are not yours to turn. If you find one false, say at which input.
  Laid BY PROGRAM, IN A SANDBOX (cutbox-rows.mjs): the forced cells as the released guide's own fill.sh prints them over the translation ee774c8656e76be4… (all of the seat's roots in one cut). By AI agents, Wed Nov 11 2026. No macro, syntax, notation, axiom, sorry.
-/
import Derived.Test.YtegndijbpiccgaaGreatDoorChecked
import GoSem.PinnedTables
import GoSem.Claim
import GoSem.ClaimJoined
import GoSem.ClaimMapViews
import Derived.JoinedTies
import Derived.KernelRfl
namespace Go.Proofs.YtegndijbpiccgaaGreatDoor
/- THE CELL 'sum', in the pinned program and in every row, IS THE sha256 OF THE DUMP (.gsa) THAT YtegndijbpiccgaaGreatDoorProg.lean LOADS. Nothing in Lean hashes anything: it is a label: what it is worth is what the hold of that sum in a sandbox is worth. -/
noncomputable def Tryz.pinned : Pinned := { name := "ytegndijbpiccgaagreatdoor", sum := "ee774c8656e76be4af61470f8634d872f98ecc7867b0ed0db0a6283b1e159848", checked := Tryz.checked }
namespace Rows
def none {H : Type} : Left H := { results := [], args := [] }

/- WHAT THE LISTED PACKAGE-LEVEL VARIABLES READ AS WHEN THE CALL BEGINS. Each datum BY PROGRAM (the guide's laid-datum.mjs) off the statement by which the dump's own 'gosem.cut.vars' lays the variable. In a bare row this is a premise. The card (YtegndijbpiccgaaGreatDoorCards.lean) ties it to the program's text. -/
def laid_unicode_utf8_acceptRanges {H : Type} : DataW H := .agg [.agg [.lit (.int .u8 128), .lit (.int .u8 191)], .agg [.lit (.int .u8 160), .lit (.int .u8 191)], .agg [.lit (.int .u8 128), .lit (.int .u8 159)], .agg [.lit (.int .u8 144), .lit (.int .u8 191)], .agg [.lit (.int .u8 128), .lit (.int .u8 143)], .agg [.lit (.int .u8 0), .lit (.int .u8 0)], .agg [.lit (.int .u8 0), .lit (.int .u8 0)], .agg [.lit (.int .u8 0), .lit (.int .u8 0)], .agg [.lit (.int .u8 0), .lit (.int .u8 0)], .agg [.lit (.int .u8 0), .lit (.int .u8 0)], .agg [.lit (.int .u8 0), .lit (.int .u8 0)], .agg [.lit (.int .u8 0), .lit (.int .u8 0)], .agg [.lit (.int .u8 0), .lit (.int .u8 0)], .agg [.lit (.int .u8 0), .lit (.int .u8 0)], .agg [.lit (.int .u8 0), .lit (.int .u8 0)], .agg [.lit (.int .u8 0), .lit (.int .u8 0)]]
/-- One of Go's own tables, pinned by name: the form's constant. -/
def laid_unicode_utf8_first : DataW Unit := Go.Pinned.utf8First

/-- 'penelopelaw14.PagerFormats': WHATEVER THE INPUT: true; the input reads as it did. -/
def pagerFormatsSpec : ChangeSpec := { name := "pagerFormats", fn := fun _ => fun
  | [d] => { results := [.lit (.bool true)], args := [d] }
  | _ => none }
def pagerFormatsRow : OpenClaim := { program := "ytegndijbpiccgaagreatdoor", sum := "ee774c8656e76be4af61470f8634d872f98ecc7867b0ed0db0a6283b1e159848", func := "penelope/penelopelaw14.PagerFormats", spec := "pagerFormats", inPlace := ["internal/abi.NoEscape", "internal/bytealg.MakeNoZero", "internal/bytealg.IndexByteString", "internal/bytealg.IndexString"], unfollowed := true, recurses := true, named := ["unicode/utf8.first", "unicode/utf8.acceptRanges", "internal/bytealg.MaxLen"], apart := false, laid := [("unicode/utf8.acceptRanges", laid_unicode_utf8_acceptRanges), ("unicode/utf8.first", laid_unicode_utf8_first)] }
def PagerFormatsSaid : Prop := pagerFormatsRow.holds Tryz.pinned (OpenSpec.ofChange pagerFormatsSpec)

/-- ITS FALSE NEIGHBOUR: 'it returns false'. Refute it at one input. -/
def pagerFormatsWrong : ChangeSpec := { name := "pagerFormats", fn := fun _ => fun
  | [d] => { results := [.lit (.bool false)], args := [d] }
  | _ => none }
def PagerFormatsWrongFalsely : Prop := pagerFormatsRow.holds Tryz.pinned (OpenSpec.ofChange pagerFormatsWrong)

/-- 'penelopelaw14.PagerMounts': WHATEVER THE INPUT: true; the input reads as it did. -/
def pagerMountsSpec : ChangeSpec := { name := "pagerMounts", fn := fun _ => fun
  | [d] => { results := [.lit (.bool true)], args := [d] }
  | _ => none }
def pagerMountsRow : OpenClaim := { program := "ytegndijbpiccgaagreatdoor", sum := "ee774c8656e76be4af61470f8634d872f98ecc7867b0ed0db0a6283b1e159848", func := "penelope/penelopelaw14.PagerMounts", spec := "pagerMounts", inPlace := ["internal/abi.NoEscape", "internal/bytealg.MakeNoZero", "internal/bytealg.IndexByteString", "internal/bytealg.IndexString"], unfollowed := true, recurses := true, named := ["unicode/utf8.first", "unicode/utf8.acceptRanges", "internal/bytealg.MaxLen"], apart := false, laid := [("unicode/utf8.acceptRanges", laid_unicode_utf8_acceptRanges), ("unicode/utf8.first", laid_unicode_utf8_first)] }
def PagerMountsSaid : Prop := pagerMountsRow.holds Tryz.pinned (OpenSpec.ofChange pagerMountsSpec)

/-- ITS FALSE NEIGHBOUR: 'it returns false'. Refute it at one input. -/
def pagerMountsWrong : ChangeSpec := { name := "pagerMounts", fn := fun _ => fun
  | [d] => { results := [.lit (.bool false)], args := [d] }
  | _ => none }
def PagerMountsWrongFalsely : Prop := pagerMountsRow.holds Tryz.pinned (OpenSpec.ofChange pagerMountsWrong)

/-- 'penelopelaw14.PagerCalls': WHATEVER THE INPUT: true; the input reads as it did. -/
def pagerCallsSpec : ChangeSpec := { name := "pagerCalls", fn := fun _ => fun
  | [d1, d2, d3] => { results := [.lit (.bool true)], args := [d1, d2, d3] }
  | _ => none }
def pagerCallsRow : OpenClaim := { program := "ytegndijbpiccgaagreatdoor", sum := "ee774c8656e76be4af61470f8634d872f98ecc7867b0ed0db0a6283b1e159848", func := "penelope/penelopelaw14.PagerCalls", spec := "pagerCalls", inPlace := ["internal/abi.NoEscape", "internal/bytealg.MakeNoZero", "internal/bytealg.IndexByteString", "internal/bytealg.IndexString"], unfollowed := true, recurses := true, named := ["unicode/utf8.first", "unicode/utf8.acceptRanges", "internal/bytealg.MaxLen"], apart := false, laid := [("unicode/utf8.acceptRanges", laid_unicode_utf8_acceptRanges), ("unicode/utf8.first", laid_unicode_utf8_first)] }
def PagerCallsSaid : Prop := pagerCallsRow.holds Tryz.pinned (OpenSpec.ofChange pagerCallsSpec)

/-- ITS FALSE NEIGHBOUR: 'it returns false'. Refute it at one input. -/
def pagerCallsWrong : ChangeSpec := { name := "pagerCalls", fn := fun _ => fun
  | [d1, d2, d3] => { results := [.lit (.bool false)], args := [d1, d2, d3] }
  | _ => none }
def PagerCallsWrongFalsely : Prop := pagerCallsRow.holds Tryz.pinned (OpenSpec.ofChange pagerCallsWrong)

/-- 'penelopelaw14.PagerCommits': WHATEVER THE INPUT: true; the input reads as it did. -/
def pagerCommitsSpec : ChangeSpec := { name := "pagerCommits", fn := fun _ => fun
  | [d1, d2] => { results := [.lit (.bool true)], args := [d1, d2] }
  | _ => none }
def pagerCommitsRow : OpenClaim := { program := "ytegndijbpiccgaagreatdoor", sum := "ee774c8656e76be4af61470f8634d872f98ecc7867b0ed0db0a6283b1e159848", func := "penelope/penelopelaw14.PagerCommits", spec := "pagerCommits", inPlace := ["internal/abi.NoEscape", "internal/bytealg.MakeNoZero", "internal/bytealg.IndexByteString", "internal/bytealg.IndexString"], unfollowed := true, recurses := true, named := ["unicode/utf8.first", "unicode/utf8.acceptRanges", "internal/bytealg.MaxLen"], apart := false, laid := [("unicode/utf8.acceptRanges", laid_unicode_utf8_acceptRanges), ("unicode/utf8.first", laid_unicode_utf8_first)] }
def PagerCommitsSaid : Prop := pagerCommitsRow.holds Tryz.pinned (OpenSpec.ofChange pagerCommitsSpec)

/-- ITS FALSE NEIGHBOUR: 'it returns false'. Refute it at one input. -/
def pagerCommitsWrong : ChangeSpec := { name := "pagerCommits", fn := fun _ => fun
  | [d1, d2] => { results := [.lit (.bool false)], args := [d1, d2] }
  | _ => none }
def PagerCommitsWrongFalsely : Prop := pagerCommitsRow.holds Tryz.pinned (OpenSpec.ofChange pagerCommitsWrong)

/-- 'penelopelaw14.PagerBack': WHATEVER THE INPUT: true; the input reads as it did. -/
def pagerBackSpec : ChangeSpec := { name := "pagerBack", fn := fun _ => fun
  | [d] => { results := [.lit (.bool true)], args := [d] }
  | _ => none }
def pagerBackRow : OpenClaim := { program := "ytegndijbpiccgaagreatdoor", sum := "ee774c8656e76be4af61470f8634d872f98ecc7867b0ed0db0a6283b1e159848", func := "penelope/penelopelaw14.PagerBack", spec := "pagerBack", inPlace := ["internal/abi.NoEscape", "internal/bytealg.MakeNoZero", "internal/bytealg.IndexByteString", "internal/bytealg.IndexString", "slices.overlaps[string]", "slices.overlaps[int]"], unfollowed := true, recurses := true, named := ["unicode/utf8.first", "unicode/utf8.acceptRanges", "internal/bytealg.MaxLen"], apart := false, laid := [("unicode/utf8.acceptRanges", laid_unicode_utf8_acceptRanges), ("unicode/utf8.first", laid_unicode_utf8_first)] }
def PagerBackSaid : Prop := pagerBackRow.holds Tryz.pinned (OpenSpec.ofChange pagerBackSpec)

/-- ITS FALSE NEIGHBOUR: 'it returns false'. Refute it at one input. -/
def pagerBackWrong : ChangeSpec := { name := "pagerBack", fn := fun _ => fun
  | [d] => { results := [.lit (.bool false)], args := [d] }
  | _ => none }
def PagerBackWrongFalsely : Prop := pagerBackRow.holds Tryz.pinned (OpenSpec.ofChange pagerBackWrong)

/-- 'penelopelaw14.PagerTwice': WHATEVER THE INPUT: true; the input reads as it did. -/
def pagerTwiceSpec : ChangeSpec := { name := "pagerTwice", fn := fun _ => fun
  | [d] => { results := [.lit (.bool true)], args := [d] }
  | _ => none }
def pagerTwiceRow : OpenClaim := { program := "ytegndijbpiccgaagreatdoor", sum := "ee774c8656e76be4af61470f8634d872f98ecc7867b0ed0db0a6283b1e159848", func := "penelope/penelopelaw14.PagerTwice", spec := "pagerTwice", inPlace := ["internal/abi.NoEscape", "internal/bytealg.MakeNoZero", "internal/bytealg.IndexByteString", "internal/bytealg.IndexString", "slices.overlaps[string]", "slices.overlaps[int]"], unfollowed := true, recurses := true, named := ["unicode/utf8.first", "unicode/utf8.acceptRanges", "internal/bytealg.MaxLen"], apart := false, laid := [("unicode/utf8.acceptRanges", laid_unicode_utf8_acceptRanges), ("unicode/utf8.first", laid_unicode_utf8_first)] }
def PagerTwiceSaid : Prop := pagerTwiceRow.holds Tryz.pinned (OpenSpec.ofChange pagerTwiceSpec)

/-- ITS FALSE NEIGHBOUR: 'it returns false'. Refute it at one input. -/
def pagerTwiceWrong : ChangeSpec := { name := "pagerTwice", fn := fun _ => fun
  | [d] => { results := [.lit (.bool false)], args := [d] }
  | _ => none }
def PagerTwiceWrongFalsely : Prop := pagerTwiceRow.holds Tryz.pinned (OpenSpec.ofChange pagerTwiceWrong)

/-- 'penelopelaw14.PagerLeft': WHATEVER THE INPUT: true; the input reads as it did. -/
def pagerLeftSpec : ChangeSpec := { name := "pagerLeft", fn := fun _ => fun
  | [d1, d2] => { results := [.lit (.bool true)], args := [d1, d2] }
  | _ => none }
def pagerLeftRow : OpenClaim := { program := "ytegndijbpiccgaagreatdoor", sum := "ee774c8656e76be4af61470f8634d872f98ecc7867b0ed0db0a6283b1e159848", func := "penelope/penelopelaw14.PagerLeft", spec := "pagerLeft", inPlace := ["internal/abi.NoEscape", "internal/bytealg.MakeNoZero", "internal/bytealg.IndexByteString", "internal/bytealg.IndexString", "slices.overlaps[string]", "slices.overlaps[int]"], unfollowed := true, recurses := true, named := ["unicode/utf8.first", "unicode/utf8.acceptRanges", "internal/bytealg.MaxLen"], apart := false, laid := [("unicode/utf8.acceptRanges", laid_unicode_utf8_acceptRanges), ("unicode/utf8.first", laid_unicode_utf8_first)] }
def PagerLeftSaid : Prop := pagerLeftRow.holds Tryz.pinned (OpenSpec.ofChange pagerLeftSpec)

/-- ITS FALSE NEIGHBOUR: 'it returns false'. Refute it at one input. -/
def pagerLeftWrong : ChangeSpec := { name := "pagerLeft", fn := fun _ => fun
  | [d1, d2] => { results := [.lit (.bool false)], args := [d1, d2] }
  | _ => none }
def PagerLeftWrongFalsely : Prop := pagerLeftRow.holds Tryz.pinned (OpenSpec.ofChange pagerLeftWrong)

/-- 'penelopelaw14.PagerCrashes': WHATEVER THE INPUT: true; the input reads as it did. -/
def pagerCrashesSpec : ChangeSpec := { name := "pagerCrashes", fn := fun _ => fun
  | [d1, d2, d3] => { results := [.lit (.bool true)], args := [d1, d2, d3] }
  | _ => none }
def pagerCrashesRow : OpenClaim := { program := "ytegndijbpiccgaagreatdoor", sum := "ee774c8656e76be4af61470f8634d872f98ecc7867b0ed0db0a6283b1e159848", func := "penelope/penelopelaw14.PagerCrashes", spec := "pagerCrashes", inPlace := ["internal/abi.NoEscape", "internal/bytealg.MakeNoZero", "internal/bytealg.IndexByteString", "internal/bytealg.IndexString", "slices.overlaps[string]", "slices.overlaps[int]"], unfollowed := true, recurses := true, named := ["unicode/utf8.first", "unicode/utf8.acceptRanges", "internal/bytealg.MaxLen"], apart := false, laid := [("unicode/utf8.acceptRanges", laid_unicode_utf8_acceptRanges), ("unicode/utf8.first", laid_unicode_utf8_first)] }
def PagerCrashesSaid : Prop := pagerCrashesRow.holds Tryz.pinned (OpenSpec.ofChange pagerCrashesSpec)

/-- ITS FALSE NEIGHBOUR: 'it returns false'. Refute it at one input. -/
def pagerCrashesWrong : ChangeSpec := { name := "pagerCrashes", fn := fun _ => fun
  | [d1, d2, d3] => { results := [.lit (.bool false)], args := [d1, d2, d3] }
  | _ => none }
def PagerCrashesWrongFalsely : Prop := pagerCrashesRow.holds Tryz.pinned (OpenSpec.ofChange pagerCrashesWrong)

/- THE SECOND FORM. 'bulk': how many values and letters a reading holds, each counted each time it is reached (what is shared counts as often as it is met; a slice's spare places count too). A statement '..UptoSaid' is the law's where the arguments, and the package variables that the reading takes, are together of bulk at most 1048576: NARROWER than '..Said'. Prove '..Said' where nothing that the law and all that it calls make is longer than what came in: it says more and counts as full. Else prove '..UptoSaid'. A law counts once. -/
mutual
def uptoBulk {H : Type} : DataW H → Nat
  | .lit (.string bytes) => bytes.length + 1
  | .lit _ => 1
  | .nil => 1
  | .ptr d => uptoBulk d + 1
  | .slice elems spare => uptoBulkAll elems + uptoBulkAll spare + 1
  | .agg parts => uptoBulkAll parts + 1
  | .iface _ d => uptoBulk d + 1
  | .map entries => uptoBulkEntries entries + 1
  | .held _ => 1
def uptoBulkAll {H : Type} : List (DataW H) → Nat
  | [] => 0
  | d :: r => uptoBulk d + uptoBulkAll r
def uptoBulkEntries {H : Type} : List (Lit × DataW H) → Nat
  | [] => 0
  | x :: r => uptoBulkEntry x + uptoBulkEntries r
def uptoBulkEntry {H : Type} : Lit × DataW H → Nat
  | (.string bytes, d) => bytes.length + uptoBulk d + 1
  | (_, d) => uptoBulk d + 1
 end
def uptoSmall : (H : Type) → List (DataW H) → Bool := fun _ ds => decide (uptoBulkAll ds ≤ 1048576)
def OpenSpec.upto (s : _root_.Go.ChangeSpec) : _root_.Go.OpenSpec := { _root_.Go.OpenSpec.ofChange s with cond := some uptoSmall }

/-- 'penelopelaw14.PagerFormats', WHERE WHAT IT READS IS OF BULK AT MOST 1048576: true; the input reads as it did. -/
def pagerFormatsUptoRow : OpenClaim := { program := "ytegndijbpiccgaagreatdoor", sum := "ee774c8656e76be4af61470f8634d872f98ecc7867b0ed0db0a6283b1e159848", func := "penelope/penelopelaw14.PagerFormats", spec := "pagerFormats", inPlace := ["internal/abi.NoEscape", "internal/bytealg.MakeNoZero", "internal/bytealg.IndexByteString", "internal/bytealg.IndexString"], unfollowed := true, recurses := true, named := ["unicode/utf8.first", "unicode/utf8.acceptRanges", "internal/bytealg.MaxLen"], apart := false, laid := [("unicode/utf8.acceptRanges", laid_unicode_utf8_acceptRanges), ("unicode/utf8.first", laid_unicode_utf8_first)], narrowed := true }
def PagerFormatsUptoSaid : Prop := pagerFormatsUptoRow.holds Tryz.pinned (OpenSpec.upto pagerFormatsSpec)

/-- 'penelopelaw14.PagerMounts', WHERE WHAT IT READS IS OF BULK AT MOST 1048576: true; the input reads as it did. -/
def pagerMountsUptoRow : OpenClaim := { program := "ytegndijbpiccgaagreatdoor", sum := "ee774c8656e76be4af61470f8634d872f98ecc7867b0ed0db0a6283b1e159848", func := "penelope/penelopelaw14.PagerMounts", spec := "pagerMounts", inPlace := ["internal/abi.NoEscape", "internal/bytealg.MakeNoZero", "internal/bytealg.IndexByteString", "internal/bytealg.IndexString"], unfollowed := true, recurses := true, named := ["unicode/utf8.first", "unicode/utf8.acceptRanges", "internal/bytealg.MaxLen"], apart := false, laid := [("unicode/utf8.acceptRanges", laid_unicode_utf8_acceptRanges), ("unicode/utf8.first", laid_unicode_utf8_first)], narrowed := true }
def PagerMountsUptoSaid : Prop := pagerMountsUptoRow.holds Tryz.pinned (OpenSpec.upto pagerMountsSpec)

/-- 'penelopelaw14.PagerCalls', WHERE WHAT IT READS IS OF BULK AT MOST 1048576: true; the input reads as it did. -/
def pagerCallsUptoRow : OpenClaim := { program := "ytegndijbpiccgaagreatdoor", sum := "ee774c8656e76be4af61470f8634d872f98ecc7867b0ed0db0a6283b1e159848", func := "penelope/penelopelaw14.PagerCalls", spec := "pagerCalls", inPlace := ["internal/abi.NoEscape", "internal/bytealg.MakeNoZero", "internal/bytealg.IndexByteString", "internal/bytealg.IndexString"], unfollowed := true, recurses := true, named := ["unicode/utf8.first", "unicode/utf8.acceptRanges", "internal/bytealg.MaxLen"], apart := false, laid := [("unicode/utf8.acceptRanges", laid_unicode_utf8_acceptRanges), ("unicode/utf8.first", laid_unicode_utf8_first)], narrowed := true }
def PagerCallsUptoSaid : Prop := pagerCallsUptoRow.holds Tryz.pinned (OpenSpec.upto pagerCallsSpec)

/-- 'penelopelaw14.PagerCommits', WHERE WHAT IT READS IS OF BULK AT MOST 1048576: true; the input reads as it did. -/
def pagerCommitsUptoRow : OpenClaim := { program := "ytegndijbpiccgaagreatdoor", sum := "ee774c8656e76be4af61470f8634d872f98ecc7867b0ed0db0a6283b1e159848", func := "penelope/penelopelaw14.PagerCommits", spec := "pagerCommits", inPlace := ["internal/abi.NoEscape", "internal/bytealg.MakeNoZero", "internal/bytealg.IndexByteString", "internal/bytealg.IndexString"], unfollowed := true, recurses := true, named := ["unicode/utf8.first", "unicode/utf8.acceptRanges", "internal/bytealg.MaxLen"], apart := false, laid := [("unicode/utf8.acceptRanges", laid_unicode_utf8_acceptRanges), ("unicode/utf8.first", laid_unicode_utf8_first)], narrowed := true }
def PagerCommitsUptoSaid : Prop := pagerCommitsUptoRow.holds Tryz.pinned (OpenSpec.upto pagerCommitsSpec)

/-- 'penelopelaw14.PagerBack', WHERE WHAT IT READS IS OF BULK AT MOST 1048576: true; the input reads as it did. -/
def pagerBackUptoRow : OpenClaim := { program := "ytegndijbpiccgaagreatdoor", sum := "ee774c8656e76be4af61470f8634d872f98ecc7867b0ed0db0a6283b1e159848", func := "penelope/penelopelaw14.PagerBack", spec := "pagerBack", inPlace := ["internal/abi.NoEscape", "internal/bytealg.MakeNoZero", "internal/bytealg.IndexByteString", "internal/bytealg.IndexString", "slices.overlaps[string]", "slices.overlaps[int]"], unfollowed := true, recurses := true, named := ["unicode/utf8.first", "unicode/utf8.acceptRanges", "internal/bytealg.MaxLen"], apart := false, laid := [("unicode/utf8.acceptRanges", laid_unicode_utf8_acceptRanges), ("unicode/utf8.first", laid_unicode_utf8_first)], narrowed := true }
def PagerBackUptoSaid : Prop := pagerBackUptoRow.holds Tryz.pinned (OpenSpec.upto pagerBackSpec)

/-- 'penelopelaw14.PagerTwice', WHERE WHAT IT READS IS OF BULK AT MOST 1048576: true; the input reads as it did. -/
def pagerTwiceUptoRow : OpenClaim := { program := "ytegndijbpiccgaagreatdoor", sum := "ee774c8656e76be4af61470f8634d872f98ecc7867b0ed0db0a6283b1e159848", func := "penelope/penelopelaw14.PagerTwice", spec := "pagerTwice", inPlace := ["internal/abi.NoEscape", "internal/bytealg.MakeNoZero", "internal/bytealg.IndexByteString", "internal/bytealg.IndexString", "slices.overlaps[string]", "slices.overlaps[int]"], unfollowed := true, recurses := true, named := ["unicode/utf8.first", "unicode/utf8.acceptRanges", "internal/bytealg.MaxLen"], apart := false, laid := [("unicode/utf8.acceptRanges", laid_unicode_utf8_acceptRanges), ("unicode/utf8.first", laid_unicode_utf8_first)], narrowed := true }
def PagerTwiceUptoSaid : Prop := pagerTwiceUptoRow.holds Tryz.pinned (OpenSpec.upto pagerTwiceSpec)

/-- 'penelopelaw14.PagerLeft', WHERE WHAT IT READS IS OF BULK AT MOST 1048576: true; the input reads as it did. -/
def pagerLeftUptoRow : OpenClaim := { program := "ytegndijbpiccgaagreatdoor", sum := "ee774c8656e76be4af61470f8634d872f98ecc7867b0ed0db0a6283b1e159848", func := "penelope/penelopelaw14.PagerLeft", spec := "pagerLeft", inPlace := ["internal/abi.NoEscape", "internal/bytealg.MakeNoZero", "internal/bytealg.IndexByteString", "internal/bytealg.IndexString", "slices.overlaps[string]", "slices.overlaps[int]"], unfollowed := true, recurses := true, named := ["unicode/utf8.first", "unicode/utf8.acceptRanges", "internal/bytealg.MaxLen"], apart := false, laid := [("unicode/utf8.acceptRanges", laid_unicode_utf8_acceptRanges), ("unicode/utf8.first", laid_unicode_utf8_first)], narrowed := true }
def PagerLeftUptoSaid : Prop := pagerLeftUptoRow.holds Tryz.pinned (OpenSpec.upto pagerLeftSpec)

/-- 'penelopelaw14.PagerCrashes', WHERE WHAT IT READS IS OF BULK AT MOST 1048576: true; the input reads as it did. -/
def pagerCrashesUptoRow : OpenClaim := { program := "ytegndijbpiccgaagreatdoor", sum := "ee774c8656e76be4af61470f8634d872f98ecc7867b0ed0db0a6283b1e159848", func := "penelope/penelopelaw14.PagerCrashes", spec := "pagerCrashes", inPlace := ["internal/abi.NoEscape", "internal/bytealg.MakeNoZero", "internal/bytealg.IndexByteString", "internal/bytealg.IndexString", "slices.overlaps[string]", "slices.overlaps[int]"], unfollowed := true, recurses := true, named := ["unicode/utf8.first", "unicode/utf8.acceptRanges", "internal/bytealg.MaxLen"], apart := false, laid := [("unicode/utf8.acceptRanges", laid_unicode_utf8_acceptRanges), ("unicode/utf8.first", laid_unicode_utf8_first)], narrowed := true }
def PagerCrashesUptoSaid : Prop := pagerCrashesUptoRow.holds Tryz.pinned (OpenSpec.upto pagerCrashesSpec)

end Rows
end Go.Proofs.YtegndijbpiccgaaGreatDoor
