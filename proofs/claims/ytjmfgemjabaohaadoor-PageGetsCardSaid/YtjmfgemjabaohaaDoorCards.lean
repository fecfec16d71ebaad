/-
  DERIVED. GIVEN WITH THE SEED: THE CARDS: each row of YtjmfgemjabaohaaDoorRows.lean that lists a variable, with what it lists TIED to the program's text (the seventh form; the later family's looks); each row that meets fmt, with fmt's text TOLD by the authors' own Lean function (tested against real Go, not proved from fmt's source: count such statements apart). THE CARD IS WHAT COUNTS. Prove the row's statement (the work); the ties are given (YtjmfgemjabaohaaDoorTie.lean); close each card by the builder's one call (the guide's Derived/Test/ToyasCard.lean, 'card_holds'). Laid BY PROGRAM, IN A SANDBOX (cutbox-door.mjs). By AI agents, Wed Nov 11 2026. No macro, syntax, notation, axiom, sorry.
-/
import Derived.Test.YtjmfgemjabaohaaDoorRows
import GoSem.ClaimSeven
namespace Go.Proofs.YtjmfgemjabaohaaDoor
namespace Rows

/-- THE TIED CARD OF 'penelopelaw04.PagePuts'. -/
def pagePutsCard : Claim7 := { stood := { row := pagePutsRow, standIns := [], harness := (true, "67eaa884d9650fe5b6f54d4858247770178104324346e264c921ea00b847a02e"), looks := false }, kinds := [], alts := [], laidByText := true, laidKinds := [.data, .pinned], laidTests := true, laidLooks := .later }
def PagePutsCardSaid : Prop := Claim7.holds Tryd.pinned (.plain (OpenSpec.ofChange pagePutsSpec)) pagePutsCard

/-- THE TIED CARD OF 'penelopelaw01.CodeEven'. -/
def codeEvenCard : Claim7 := { stood := { row := codeEvenRow, standIns := [], harness := (true, "67eaa884d9650fe5b6f54d4858247770178104324346e264c921ea00b847a02e"), looks := false }, kinds := [], alts := [], laidByText := true, laidKinds := [.data, .pinned], laidTests := true, laidLooks := .later }
def CodeEvenCardSaid : Prop := Claim7.holds Tryd.pinned (.plain (OpenSpec.ofChange codeEvenSpec)) codeEvenCard

/-- THE TIED CARD OF 'penelopelaw01.CodeTexts'. -/
def codeTextsCard : Claim7 := { stood := { row := codeTextsRow, standIns := [], harness := (true, "67eaa884d9650fe5b6f54d4858247770178104324346e264c921ea00b847a02e"), looks := false }, kinds := [], alts := [], laidByText := true, laidKinds := [.data, .pinned], laidTests := true, laidLooks := .later }
def CodeTextsCardSaid : Prop := Claim7.holds Tryd.pinned (.plain (OpenSpec.ofChange codeTextsSpec)) codeTextsCard

/-- THE TIED CARD OF 'penelopelaw04.PageOnce'. -/
def pageOnceCard : Claim7 := { stood := { row := pageOnceRow, standIns := [], harness := (true, "67eaa884d9650fe5b6f54d4858247770178104324346e264c921ea00b847a02e"), looks := false }, kinds := [], alts := [], laidByText := true, laidKinds := [.data, .pinned], laidTests := true, laidLooks := .later }
def PageOnceCardSaid : Prop := Claim7.holds Tryd.pinned (.plain (OpenSpec.ofChange pageOnceSpec)) pageOnceCard

/-- THE TIED CARD OF 'penelopelaw04.PageGets'. -/
def pageGetsCard : Claim7 := { stood := { row := pageGetsRow, standIns := [], harness := (true, "67eaa884d9650fe5b6f54d4858247770178104324346e264c921ea00b847a02e"), looks := false }, kinds := [], alts := [], laidByText := true, laidKinds := [.data, .pinned], laidTests := true, laidLooks := .later }
def PageGetsCardSaid : Prop := Claim7.holds Tryd.pinned (.plain (OpenSpec.ofChange pageGetsSpec)) pageGetsCard

/-- THE TIED CARD OF 'penelopelaw04.PageBack'. -/
def pageBackCard : Claim7 := { stood := { row := pageBackRow, standIns := [], harness := (true, "67eaa884d9650fe5b6f54d4858247770178104324346e264c921ea00b847a02e"), looks := false }, kinds := [], alts := [], laidByText := true, laidKinds := [.data, .pinned], laidTests := true, laidLooks := .later }
def PageBackCardSaid : Prop := Claim7.holds Tryd.pinned (.plain (OpenSpec.ofChange pageBackSpec)) pageBackCard

/-- THE SECOND FORM's CARD OF 'penelopelaw04.PagePuts'. -/
def pagePutsUptoCard : Claim7 := { stood := { row := pagePutsUptoRow, standIns := [], harness := (true, "67eaa884d9650fe5b6f54d4858247770178104324346e264c921ea00b847a02e"), looks := false }, kinds := [], alts := [], laidByText := true, laidKinds := [.data, .pinned], laidTests := true, laidLooks := .later }
def PagePutsUptoCardSaid : Prop := Claim7.holds Tryd.pinned (.plain (OpenSpec.upto pagePutsSpec)) pagePutsUptoCard

/-- THE SECOND FORM's CARD OF 'penelopelaw01.CodeEven'. -/
def codeEvenUptoCard : Claim7 := { stood := { row := codeEvenUptoRow, standIns := [], harness := (true, "67eaa884d9650fe5b6f54d4858247770178104324346e264c921ea00b847a02e"), looks := false }, kinds := [], alts := [], laidByText := true, laidKinds := [.data, .pinned], laidTests := true, laidLooks := .later }
def CodeEvenUptoCardSaid : Prop := Claim7.holds Tryd.pinned (.plain (OpenSpec.upto codeEvenSpec)) codeEvenUptoCard

/-- THE SECOND FORM's CARD OF 'penelopelaw01.CodeTexts'. -/
def codeTextsUptoCard : Claim7 := { stood := { row := codeTextsUptoRow, standIns := [], harness := (true, "67eaa884d9650fe5b6f54d4858247770178104324346e264c921ea00b847a02e"), looks := false }, kinds := [], alts := [], laidByText := true, laidKinds := [.data, .pinned], laidTests := true, laidLooks := .later }
def CodeTextsUptoCardSaid : Prop := Claim7.holds Tryd.pinned (.plain (OpenSpec.upto codeTextsSpec)) codeTextsUptoCard

/-- THE SECOND FORM's CARD OF 'penelopelaw04.PageOnce'. -/
def pageOnceUptoCard : Claim7 := { stood := { row := pageOnceUptoRow, standIns := [], harness := (true, "67eaa884d9650fe5b6f54d4858247770178104324346e264c921ea00b847a02e"), looks := false }, kinds := [], alts := [], laidByText := true, laidKinds := [.data, .pinned], laidTests := true, laidLooks := .later }
def PageOnceUptoCardSaid : Prop := Claim7.holds Tryd.pinned (.plain (OpenSpec.upto pageOnceSpec)) pageOnceUptoCard

/-- THE SECOND FORM's CARD OF 'penelopelaw04.PageGets'. -/
def pageGetsUptoCard : Claim7 := { stood := { row := pageGetsUptoRow, standIns := [], harness := (true, "67eaa884d9650fe5b6f54d4858247770178104324346e264c921ea00b847a02e"), looks := false }, kinds := [], alts := [], laidByText := true, laidKinds := [.data, .pinned], laidTests := true, laidLooks := .later }
def PageGetsUptoCardSaid : Prop := Claim7.holds Tryd.pinned (.plain (OpenSpec.upto pageGetsSpec)) pageGetsUptoCard

/-- THE SECOND FORM's CARD OF 'penelopelaw04.PageBack'. -/
def pageBackUptoCard : Claim7 := { stood := { row := pageBackUptoRow, standIns := [], harness := (true, "67eaa884d9650fe5b6f54d4858247770178104324346e264c921ea00b847a02e"), looks := false }, kinds := [], alts := [], laidByText := true, laidKinds := [.data, .pinned], laidTests := true, laidLooks := .later }
def PageBackUptoCardSaid : Prop := Claim7.holds Tryd.pinned (.plain (OpenSpec.upto pageBackSpec)) pageBackUptoCard
end Rows
end Go.Proofs.YtjmfgemjabaohaaDoor
