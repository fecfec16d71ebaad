/-
  NARROWER THAN 'FOR EVERY INPUT', by the rows' own cells (each row's printed sentence says how): PagePuts: laid · CodeEven: laid · CodeTexts: laid · PageOnce: laid · PageGets: laid · PageBack: laid.
  DERIVED. THE GIVEN ROWS OF THIS SEAT. 6 by the template 'for every input the law returns true; each argument reads behind the call as it read before'; 0 by the template 'total and deterministic' (their statements: YtjmfgemjabaohaaDoorTotals.lean).
  GIVEN WITH THE SEED: the statements are not yours to turn. If you find one false, say at which input.
  Laid BY PROGRAM, IN A SANDBOX (cutbox-rows.mjs): the forced cells as the released guide's own fill.sh prints them over the translation 3d53ebd36b60b8ff… (all of the seat's roots in one cut). By AI agents, Wed Nov 11 2026. No macro, syntax, notation, axiom, sorry.
-/
import Derived.Test.YtjmfgemjabaohaaDoorChecked
import GoSem.PinnedTables
import GoSem.Claim
import GoSem.ClaimJoined
import GoSem.ClaimMapViews
import Derived.JoinedTies
import Derived.KernelRfl
namespace Go.Proofs.YtjmfgemjabaohaaDoor
/- THE CELL 'sum', in the pinned program and in every row, IS THE sha256 OF THE DUMP (.gsa) THAT YtjmfgemjabaohaaDoorProg.lean LOADS. Nothing in Lean hashes anything: it is a label: what it is worth is what the hold of that sum in a sandbox is worth. -/
noncomputable def Tryd.pinned : Pinned := { name := "ytjmfgemjabaohaadoor", sum := "3d53ebd36b60b8ff38e4d78c869660e856e1bed3b51a4e4493e1a10f69c00679", checked := Tryd.checked }
namespace Rows
def none {H : Type} : Left H := { results := [], args := [] }

/- WHAT THE LISTED PACKAGE-LEVEL VARIABLES READ AS WHEN THE CALL BEGINS. Each datum BY PROGRAM (the guide's laid-datum.mjs) off the statement by which the dump's own 'gosem.cut.vars' lays the variable. In a bare row this is a premise. The card (YtjmfgemjabaohaaDoorCards.lean) ties it to the program's text. -/
def laid_unicode_utf8_acceptRanges {H : Type} : DataW H := .agg [.agg [.lit (.int .u8 128), .lit (.int .u8 191)], .agg [.lit (.int .u8 160), .lit (.int .u8 191)], .agg [.lit (.int .u8 128), .lit (.int .u8 159)], .agg [.lit (.int .u8 144), .lit (.int .u8 191)], .agg [.lit (.int .u8 128), .lit (.int .u8 143)], .agg [.lit (.int .u8 0), .lit (.int .u8 0)], .agg [.lit (.int .u8 0), .lit (.int .u8 0)], .agg [.lit (.int .u8 0), .lit (.int .u8 0)], .agg [.lit (.int .u8 0), .lit (.int .u8 0)], .agg [.lit (.int .u8 0), .lit (.int .u8 0)], .agg [.lit (.int .u8 0), .lit (.int .u8 0)], .agg [.lit (.int .u8 0), .lit (.int .u8 0)], .agg [.lit (.int .u8 0), .lit (.int .u8 0)], .agg [.lit (.int .u8 0), .lit (.int .u8 0)], .agg [.lit (.int .u8 0), .lit (.int .u8 0)], .agg [.lit (.int .u8 0), .lit (.int .u8 0)]]
/-- One of Go's own tables, pinned by name: the form's constant. -/
def laid_unicode_utf8_first : DataW Unit := Go.Pinned.utf8First

/-- 'penelopelaw04.PagePuts': WHATEVER THE INPUT: true; the input reads as it did. -/
def pagePutsSpec : ChangeSpec := { name := "pagePuts", fn := fun _ => fun
  | [d] => { results := [.lit (.bool true)], args := [d] }
  | _ => none }
def pagePutsRow : OpenClaim := { program := "ytjmfgemjabaohaadoor", sum := "3d53ebd36b60b8ff38e4d78c869660e856e1bed3b51a4e4493e1a10f69c00679", func := "penelope/penelopelaw04.PagePuts", spec := "pagePuts", inPlace := ["internal/abi.NoEscape", "internal/bytealg.MakeNoZero", "internal/bytealg.IndexByteString", "internal/bytealg.IndexString"], named := ["unicode/utf8.first", "unicode/utf8.acceptRanges", "internal/bytealg.MaxLen"], apart := false, laid := [("unicode/utf8.acceptRanges", laid_unicode_utf8_acceptRanges), ("unicode/utf8.first", laid_unicode_utf8_first)] }
def PagePutsSaid : Prop := pagePutsRow.holds Tryd.pinned (OpenSpec.ofChange pagePutsSpec)

/-- ITS FALSE NEIGHBOUR: 'it returns false'. Refute it at one input. -/
def pagePutsWrong : ChangeSpec := { name := "pagePuts", fn := fun _ => fun
  | [d] => { results := [.lit (.bool false)], args := [d] }
  | _ => none }
def PagePutsWrongFalsely : Prop := pagePutsRow.holds Tryd.pinned (OpenSpec.ofChange pagePutsWrong)

/-- 'penelopelaw01.CodeEven': WHATEVER THE INPUT: true; the input reads as it did. -/
def codeEvenSpec : ChangeSpec := { name := "codeEven", fn := fun _ => fun
  | [d1, d2] => { results := [.lit (.bool true)], args := [d1, d2] }
  | _ => none }
def codeEvenRow : OpenClaim := { program := "ytjmfgemjabaohaadoor", sum := "3d53ebd36b60b8ff38e4d78c869660e856e1bed3b51a4e4493e1a10f69c00679", func := "penelope/penelopelaw01.CodeEven", spec := "codeEven", inPlace := ["internal/bytealg.IndexByteString", "internal/bytealg.IndexString", "internal/abi.NoEscape", "internal/bytealg.MakeNoZero"], named := ["unicode/utf8.first", "unicode/utf8.acceptRanges", "internal/bytealg.MaxLen"], apart := false, laid := [("unicode/utf8.acceptRanges", laid_unicode_utf8_acceptRanges), ("unicode/utf8.first", laid_unicode_utf8_first)] }
def CodeEvenSaid : Prop := codeEvenRow.holds Tryd.pinned (OpenSpec.ofChange codeEvenSpec)

/-- ITS FALSE NEIGHBOUR: 'it returns false'. Refute it at one input. -/
def codeEvenWrong : ChangeSpec := { name := "codeEven", fn := fun _ => fun
  | [d1, d2] => { results := [.lit (.bool false)], args := [d1, d2] }
  | _ => none }
def CodeEvenWrongFalsely : Prop := codeEvenRow.holds Tryd.pinned (OpenSpec.ofChange codeEvenWrong)

/-- 'penelopelaw01.CodeTexts': WHATEVER THE INPUT: true; the input reads as it did. -/
def codeTextsSpec : ChangeSpec := { name := "codeTexts", fn := fun _ => fun
  | [d1, d2] => { results := [.lit (.bool true)], args := [d1, d2] }
  | _ => none }
def codeTextsRow : OpenClaim := { program := "ytjmfgemjabaohaadoor", sum := "3d53ebd36b60b8ff38e4d78c869660e856e1bed3b51a4e4493e1a10f69c00679", func := "penelope/penelopelaw01.CodeTexts", spec := "codeTexts", inPlace := ["internal/abi.NoEscape", "internal/bytealg.MakeNoZero", "internal/bytealg.IndexByteString", "internal/bytealg.IndexString"], named := ["unicode/utf8.first", "unicode/utf8.acceptRanges", "internal/bytealg.MaxLen"], apart := false, laid := [("unicode/utf8.acceptRanges", laid_unicode_utf8_acceptRanges), ("unicode/utf8.first", laid_unicode_utf8_first)] }
def CodeTextsSaid : Prop := codeTextsRow.holds Tryd.pinned (OpenSpec.ofChange codeTextsSpec)

/-- ITS FALSE NEIGHBOUR: 'it returns false'. Refute it at one input. -/
def codeTextsWrong : ChangeSpec := { name := "codeTexts", fn := fun _ => fun
  | [d1, d2] => { results := [.lit (.bool false)], args := [d1, d2] }
  | _ => none }
def CodeTextsWrongFalsely : Prop := codeTextsRow.holds Tryd.pinned (OpenSpec.ofChange codeTextsWrong)

/-- 'penelopelaw04.PageOnce': WHATEVER THE INPUT: true; the input reads as it did. -/
def pageOnceSpec : ChangeSpec := { name := "pageOnce", fn := fun _ => fun
  | [d] => { results := [.lit (.bool true)], args := [d] }
  | _ => none }
def pageOnceRow : OpenClaim := { program := "ytjmfgemjabaohaadoor", sum := "3d53ebd36b60b8ff38e4d78c869660e856e1bed3b51a4e4493e1a10f69c00679", func := "penelope/penelopelaw04.PageOnce", spec := "pageOnce", inPlace := ["internal/abi.NoEscape", "internal/bytealg.MakeNoZero", "internal/bytealg.IndexByteString", "internal/bytealg.IndexString"], named := ["unicode/utf8.first", "unicode/utf8.acceptRanges", "internal/bytealg.MaxLen"], apart := false, laid := [("unicode/utf8.acceptRanges", laid_unicode_utf8_acceptRanges), ("unicode/utf8.first", laid_unicode_utf8_first)] }
def PageOnceSaid : Prop := pageOnceRow.holds Tryd.pinned (OpenSpec.ofChange pageOnceSpec)

/-- ITS FALSE NEIGHBOUR: 'it returns false'. Refute it at one input. -/
def pageOnceWrong : ChangeSpec := { name := "pageOnce", fn := fun _ => fun
  | [d] => { results := [.lit (.bool false)], args := [d] }
  | _ => none }
def PageOnceWrongFalsely : Prop := pageOnceRow.holds Tryd.pinned (OpenSpec.ofChange pageOnceWrong)

/-- 'penelopelaw04.PageGets': WHATEVER THE INPUT: true; the input reads as it did. -/
def pageGetsSpec : ChangeSpec := { name := "pageGets", fn := fun _ => fun
  | [d1, d2] => { results := [.lit (.bool true)], args := [d1, d2] }
  | _ => none }
def pageGetsRow : OpenClaim := { program := "ytjmfgemjabaohaadoor", sum := "3d53ebd36b60b8ff38e4d78c869660e856e1bed3b51a4e4493e1a10f69c00679", func := "penelope/penelopelaw04.PageGets", spec := "pageGets", inPlace := ["internal/abi.NoEscape", "internal/bytealg.MakeNoZero", "internal/bytealg.IndexByteString", "internal/bytealg.IndexString"], named := ["unicode/utf8.first", "unicode/utf8.acceptRanges", "internal/bytealg.MaxLen"], apart := false, laid := [("unicode/utf8.acceptRanges", laid_unicode_utf8_acceptRanges), ("unicode/utf8.first", laid_unicode_utf8_first)] }
def PageGetsSaid : Prop := pageGetsRow.holds Tryd.pinned (OpenSpec.ofChange pageGetsSpec)

/-- ITS FALSE NEIGHBOUR: 'it returns false'. Refute it at one input. -/
def pageGetsWrong : ChangeSpec := { name := "pageGets", fn := fun _ => fun
  | [d1, d2] => { results := [.lit (.bool false)], args := [d1, d2] }
  | _ => none }
def PageGetsWrongFalsely : Prop := pageGetsRow.holds Tryd.pinned (OpenSpec.ofChange pageGetsWrong)

/-- 'penelopelaw04.PageBack': WHATEVER THE INPUT: true; the input reads as it did. -/
def pageBackSpec : ChangeSpec := { name := "pageBack", fn := fun _ => fun
  | [d1, d2] => { results := [.lit (.bool true)], args := [d1, d2] }
  | _ => none }
def pageBackRow : OpenClaim := { program := "ytjmfgemjabaohaadoor", sum := "3d53ebd36b60b8ff38e4d78c869660e856e1bed3b51a4e4493e1a10f69c00679", func := "penelope/penelopelaw04.PageBack", spec := "pageBack", inPlace := ["internal/abi.NoEscape", "internal/bytealg.MakeNoZero", "internal/bytealg.IndexByteString", "internal/bytealg.IndexString"], named := ["unicode/utf8.first", "unicode/utf8.acceptRanges", "internal/bytealg.MaxLen"], apart := false, laid := [("unicode/utf8.acceptRanges", laid_unicode_utf8_acceptRanges), ("unicode/utf8.first", laid_unicode_utf8_first)] }
def PageBackSaid : Prop := pageBackRow.holds Tryd.pinned (OpenSpec.ofChange pageBackSpec)

/-- ITS FALSE NEIGHBOUR: 'it returns false'. Refute it at one input. -/
def pageBackWrong : ChangeSpec := { name := "pageBack", fn := fun _ => fun
  | [d1, d2] => { results := [.lit (.bool false)], args := [d1, d2] }
  | _ => none }
def PageBackWrongFalsely : Prop := pageBackRow.holds Tryd.pinned (OpenSpec.ofChange pageBackWrong)

/- THE SECOND FORM. 'bulk': how many values and letters a reading holds, each counted each time it is reached (what is shared counts as often as it is met; a slice's spare places count too). A statement '..UptoSaid' is the law's where the arguments, and the package variables that the reading takes, are together of bulk at most 1048576: NARROWER than '..Said'. Prove '..Said' where nothing that the law and all that it calls make is longer than what came in: it says more and counts as full. Else prove '..UptoSaid'. A law counts once. -/
mutual
def uptoBulk {H : Type} : DataW H → Nat
  | .lit (.string bytes) => bytes.length + 1
  | .lit _ => 1
  | .nil => 1
  | .ptr d => uptoBulk d + 1
  | .slice elems spare => uptoBulkAll elems + uptoBulkAll spare + 1
  | .agg parts => uptoBulkAll parts + 1
  | .iface _ d => uptoBulk d + 1
  | .map entries => uptoBulkEntries entries + 1
  | .held _ => 1
def uptoBulkAll {H : Type} : List (DataW H) → Nat
  | [] => 0
  | d :: r => uptoBulk d + uptoBulkAll r
def uptoBulkEntries {H : Type} : List (Lit × DataW H) → Nat
  | [] => 0
  | x :: r => uptoBulkEntry x + uptoBulkEntries r
def uptoBulkEntry {H : Type} : Lit × DataW H → Nat
  | (.string bytes, d) => bytes.length + uptoBulk d + 1
  | (_, d) => uptoBulk d + 1
 end
def uptoSmall : (H : Type) → List (DataW H) → Bool := fun _ ds => decide (uptoBulkAll ds ≤ 1048576)
def OpenSpec.upto (s : _root_.Go.ChangeSpec) : _root_.Go.OpenSpec := { _root_.Go.OpenSpec.ofChange s with cond := some uptoSmall }

/-- 'penelopelaw04.PagePuts', WHERE WHAT IT READS IS OF BULK AT MOST 1048576: true; the input reads as it did. -/
def pagePutsUptoRow : OpenClaim := { program := "ytjmfgemjabaohaadoor", sum := "3d53ebd36b60b8ff38e4d78c869660e856e1bed3b51a4e4493e1a10f69c00679", func := "penelope/penelopelaw04.PagePuts", spec := "pagePuts", inPlace := ["internal/abi.NoEscape", "internal/bytealg.MakeNoZero", "internal/bytealg.IndexByteString", "internal/bytealg.IndexString"], named := ["unicode/utf8.first", "unicode/utf8.acceptRanges", "internal/bytealg.MaxLen"], apart := false, laid := [("unicode/utf8.acceptRanges", laid_unicode_utf8_acceptRanges), ("unicode/utf8.first", laid_unicode_utf8_first)], narrowed := true }
def PagePutsUptoSaid : Prop := pagePutsUptoRow.holds Tryd.pinned (OpenSpec.upto pagePutsSpec)

/-- 'penelopelaw01.CodeEven', WHERE WHAT IT READS IS OF BULK AT MOST 1048576: true; the input reads as it did. -/
def codeEvenUptoRow : OpenClaim := { program := "ytjmfgemjabaohaadoor", sum := "3d53ebd36b60b8ff38e4d78c869660e856e1bed3b51a4e4493e1a10f69c00679", func := "penelope/penelopelaw01.CodeEven", spec := "codeEven", inPlace := ["internal/bytealg.IndexByteString", "internal/bytealg.IndexString", "internal/abi.NoEscape", "internal/bytealg.MakeNoZero"], named := ["unicode/utf8.first", "unicode/utf8.acceptRanges", "internal/bytealg.MaxLen"], apart := false, laid := [("unicode/utf8.acceptRanges", laid_unicode_utf8_acceptRanges), ("unicode/utf8.first", laid_unicode_utf8_first)], narrowed := true }
def CodeEvenUptoSaid : Prop := codeEvenUptoRow.holds Tryd.pinned (OpenSpec.upto codeEvenSpec)

/-- 'penelopelaw01.CodeTexts', WHERE WHAT IT READS IS OF BULK AT MOST 1048576: true; the input reads as it did. -/
def codeTextsUptoRow : OpenClaim := { program := "ytjmfgemjabaohaadoor", sum := "3d53ebd36b60b8ff38e4d78c869660e856e1bed3b51a4e4493e1a10f69c00679", func := "penelope/penelopelaw01.CodeTexts", spec := "codeTexts", inPlace := ["internal/abi.NoEscape", "internal/bytealg.MakeNoZero", "internal/bytealg.IndexByteString", "internal/bytealg.IndexString"], named := ["unicode/utf8.first", "unicode/utf8.acceptRanges", "internal/bytealg.MaxLen"], apart := false, laid := [("unicode/utf8.acceptRanges", laid_unicode_utf8_acceptRanges), ("unicode/utf8.first", laid_unicode_utf8_first)], narrowed := true }
def CodeTextsUptoSaid : Prop := codeTextsUptoRow.holds Tryd.pinned (OpenSpec.upto codeTextsSpec)

/-- 'penelopelaw04.PageOnce', WHERE WHAT IT READS IS OF BULK AT MOST 1048576: true; the input reads as it did. -/
def pageOnceUptoRow : OpenClaim := { program := "ytjmfgemjabaohaadoor", sum := "3d53ebd36b60b8ff38e4d78c869660e856e1bed3b51a4e4493e1a10f69c00679", func := "penelope/penelopelaw04.PageOnce", spec := "pageOnce", inPlace := ["internal/abi.NoEscape", "internal/bytealg.MakeNoZero", "internal/bytealg.IndexByteString", "internal/bytealg.IndexString"], named := ["unicode/utf8.first", "unicode/utf8.acceptRanges", "internal/bytealg.MaxLen"], apart := false, laid := [("unicode/utf8.acceptRanges", laid_unicode_utf8_acceptRanges), ("unicode/utf8.first", laid_unicode_utf8_first)], narrowed := true }
def PageOnceUptoSaid : Prop := pageOnceUptoRow.holds Tryd.pinned (OpenSpec.upto pageOnceSpec)

/-- 'penelopelaw04.PageGets', WHERE WHAT IT READS IS OF BULK AT MOST 1048576: true; the input reads as it did. -/
def pageGetsUptoRow : OpenClaim := { program := "ytjmfgemjabaohaadoor", sum := "3d53ebd36b60b8ff38e4d78c869660e856e1bed3b51a4e4493e1a10f69c00679", func := "penelope/penelopelaw04.PageGets", spec := "pageGets", inPlace := ["internal/abi.NoEscape", "internal/bytealg.MakeNoZero", "internal/bytealg.IndexByteString", "internal/bytealg.IndexString"], named := ["unicode/utf8.first", "unicode/utf8.acceptRanges", "internal/bytealg.MaxLen"], apart := false, laid := [("unicode/utf8.acceptRanges", laid_unicode_utf8_acceptRanges), ("unicode/utf8.first", laid_unicode_utf8_first)], narrowed := true }
def PageGetsUptoSaid : Prop := pageGetsUptoRow.holds Tryd.pinned (OpenSpec.upto pageGetsSpec)

/-- 'penelopelaw04.PageBack', WHERE WHAT IT READS IS OF BULK AT MOST 1048576: true; the input reads as it did. -/
def pageBackUptoRow : OpenClaim := { program := "ytjmfgemjabaohaadoor", sum := "3d53ebd36b60b8ff38e4d78c869660e856e1bed3b51a4e4493e1a10f69c00679", func := "penelope/penelopelaw04.PageBack", spec := "pageBack", inPlace := ["internal/abi.NoEscape", "internal/bytealg.MakeNoZero", "internal/bytealg.IndexByteString", "internal/bytealg.IndexString"], named := ["unicode/utf8.first", "unicode/utf8.acceptRanges", "internal/bytealg.MaxLen"], apart := false, laid := [("unicode/utf8.acceptRanges", laid_unicode_utf8_acceptRanges), ("unicode/utf8.first", laid_unicode_utf8_first)], narrowed := true }
def PageBackUptoSaid : Prop := pageBackUptoRow.holds Tryd.pinned (OpenSpec.upto pageBackSpec)

end Rows
end Go.Proofs.YtjmfgemjabaohaaDoor
