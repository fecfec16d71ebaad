/-
  DERIVED. GIVEN WITH THE SEED: THE CARDS: each row of YtmmnobdpccdeoaaDoorRows.lean that lists a variable, with what it lists TIED to the program's text (the seventh form; the later family's looks); each row that meets fmt, with fmt's text TOLD by the authors' own Lean function (tested against real Go, not proved from fmt's source: count such statements apart). THE CARD IS WHAT COUNTS. Prove the row's statement (the work); the ties are given (YtmmnobdpccdeoaaDoorTie.lean); close each card by the builder's one call (the guide's Derived/Test/ToyasCard.lean, 'card_holds'). Laid BY PROGRAM, IN A SANDBOX (cutbox-door.mjs). By AI agents, Wed Nov 11 2026. No macro, syntax, notation, axiom, sorry.
-/
import Derived.Test.YtmmnobdpccdeoaaDoorRows
import GoSem.ClaimSeven
namespace Go.Proofs.YtmmnobdpccdeoaaDoor
namespace Rows

/-- THE TIED CARD OF 'penelopelaw12.SuperGets'. -/
def superGetsCard : Claim7 := { stood := { row := superGetsRow, standIns := [], harness := (true, "d1df115197f5d3b7d49fe1bffa69c1c5e4a3159952cda8b89662dfc7fb4ed7f4"), looks := false }, kinds := [], alts := [], laidByText := true, laidKinds := [.data, .pinned], laidTests := true, laidLooks := .later }
def SuperGetsCardSaid : Prop := Claim7.holds Tryd.pinned (.plain (OpenSpec.ofChange superGetsSpec)) superGetsCard

/-- THE TIED CARD OF 'penelopelaw13.RingWhole'. -/
def ringWholeCard : Claim7 := { stood := { row := ringWholeRow, standIns := [], harness := (true, "d1df115197f5d3b7d49fe1bffa69c1c5e4a3159952cda8b89662dfc7fb4ed7f4"), looks := false }, kinds := [], alts := [], laidByText := true, laidKinds := [.data, .pinned], laidTests := true, laidLooks := .later }
def RingWholeCardSaid : Prop := Claim7.holds Tryd.pinned (.plain (OpenSpec.ofChange ringWholeSpec)) ringWholeCard

/-- THE TIED CARD OF 'penelopelaw12.SuperPuts'. -/
def superPutsCard : Claim7 := { stood := { row := superPutsRow, standIns := [], harness := (true, "d1df115197f5d3b7d49fe1bffa69c1c5e4a3159952cda8b89662dfc7fb4ed7f4"), looks := false }, kinds := [], alts := [], laidByText := true, laidKinds := [.data, .pinned], laidTests := true, laidLooks := .later }
def SuperPutsCardSaid : Prop := Claim7.holds Tryd.pinned (.plain (OpenSpec.ofChange superPutsSpec)) superPutsCard

/-- THE TIED CARD OF 'penelopelaw12.SuperBack'. -/
def superBackCard : Claim7 := { stood := { row := superBackRow, standIns := [], harness := (true, "d1df115197f5d3b7d49fe1bffa69c1c5e4a3159952cda8b89662dfc7fb4ed7f4"), looks := false }, kinds := [], alts := [], laidByText := true, laidKinds := [.data, .pinned], laidTests := true, laidLooks := .later }
def SuperBackCardSaid : Prop := Claim7.holds Tryd.pinned (.plain (OpenSpec.ofChange superBackSpec)) superBackCard

/-- THE TIED CARD OF 'penelopelaw12.SuperChooses'. -/
def superChoosesCard : Claim7 := { stood := { row := superChoosesRow, standIns := [], harness := (true, "d1df115197f5d3b7d49fe1bffa69c1c5e4a3159952cda8b89662dfc7fb4ed7f4"), looks := false }, kinds := [], alts := [], laidByText := true, laidKinds := [.data, .pinned], laidTests := true, laidLooks := .later }
def SuperChoosesCardSaid : Prop := Claim7.holds Tryd.pinned (.plain (OpenSpec.ofChange superChoosesSpec)) superChoosesCard

/-- THE TIED CARD OF 'penelopelaw13.RingScans'. -/
def ringScansCard : Claim7 := { stood := { row := ringScansRow, standIns := [], harness := (true, "d1df115197f5d3b7d49fe1bffa69c1c5e4a3159952cda8b89662dfc7fb4ed7f4"), looks := false }, kinds := [], alts := [], laidByText := true, laidKinds := [.data, .pinned], laidTests := true, laidLooks := .later }
def RingScansCardSaid : Prop := Claim7.holds Tryd.pinned (.plain (OpenSpec.ofChange ringScansSpec)) ringScansCard

/-- THE TIED CARD OF 'penelopelaw13.RingRows'. -/
def ringRowsCard : Claim7 := { stood := { row := ringRowsRow, standIns := [], harness := (true, "d1df115197f5d3b7d49fe1bffa69c1c5e4a3159952cda8b89662dfc7fb4ed7f4"), looks := false }, kinds := [], alts := [], laidByText := true, laidKinds := [.data, .pinned], laidTests := true, laidLooks := .later }
def RingRowsCardSaid : Prop := Claim7.holds Tryd.pinned (.plain (OpenSpec.ofChange ringRowsSpec)) ringRowsCard

/-- THE TIED CARD OF 'penelopelaw13.RingBack'. -/
def ringBackCard : Claim7 := { stood := { row := ringBackRow, standIns := [], harness := (true, "d1df115197f5d3b7d49fe1bffa69c1c5e4a3159952cda8b89662dfc7fb4ed7f4"), looks := false }, kinds := [], alts := [], laidByText := true, laidKinds := [.data, .pinned], laidTests := true, laidLooks := .later }
def RingBackCardSaid : Prop := Claim7.holds Tryd.pinned (.plain (OpenSpec.ofChange ringBackSpec)) ringBackCard

/-- THE TIED CARD OF 'penelopelaw08.LookGets'. -/
def lookGetsCard : Claim7 := { stood := { row := lookGetsRow, standIns := [], harness := (true, "d1df115197f5d3b7d49fe1bffa69c1c5e4a3159952cda8b89662dfc7fb4ed7f4"), looks := false }, kinds := [], alts := [], laidByText := true, laidKinds := [.data, .pinned], laidTests := true, laidLooks := .later }
def LookGetsCardSaid : Prop := Claim7.holds Tryd.pinned (.plain (OpenSpec.ofChange lookGetsSpec)) lookGetsCard

/-- THE TIED CARD OF 'penelopelaw08.LookRights'. -/
def lookRightsCard : Claim7 := { stood := { row := lookRightsRow, standIns := [], harness := (true, "d1df115197f5d3b7d49fe1bffa69c1c5e4a3159952cda8b89662dfc7fb4ed7f4"), looks := false }, kinds := [], alts := [], laidByText := true, laidKinds := [.data, .pinned], laidTests := true, laidLooks := .later }
def LookRightsCardSaid : Prop := Claim7.holds Tryd.pinned (.plain (OpenSpec.ofChange lookRightsSpec)) lookRightsCard

/-- THE TIED CARD OF 'penelopelaw11.CheckLost'. -/
def checkLostCard : Claim7 := { stood := { row := checkLostRow, standIns := [], harness := (true, "d1df115197f5d3b7d49fe1bffa69c1c5e4a3159952cda8b89662dfc7fb4ed7f4"), looks := false }, kinds := [], alts := [], laidByText := true, laidKinds := [.data, .pinned], laidTests := true, laidLooks := .later }
def CheckLostCardSaid : Prop := Claim7.holds Tryd.pinned (.plain (OpenSpec.ofChange checkLostSpec)) checkLostCard

/-- THE SECOND FORM's CARD OF 'penelopelaw12.SuperGets'. -/
def superGetsUptoCard : Claim7 := { stood := { row := superGetsUptoRow, standIns := [], harness := (true, "d1df115197f5d3b7d49fe1bffa69c1c5e4a3159952cda8b89662dfc7fb4ed7f4"), looks := false }, kinds := [], alts := [], laidByText := true, laidKinds := [.data, .pinned], laidTests := true, laidLooks := .later }
def SuperGetsUptoCardSaid : Prop := Claim7.holds Tryd.pinned (.plain (OpenSpec.upto superGetsSpec)) superGetsUptoCard

/-- THE SECOND FORM's CARD OF 'penelopelaw13.RingWhole'. -/
def ringWholeUptoCard : Claim7 := { stood := { row := ringWholeUptoRow, standIns := [], harness := (true, "d1df115197f5d3b7d49fe1bffa69c1c5e4a3159952cda8b89662dfc7fb4ed7f4"), looks := false }, kinds := [], alts := [], laidByText := true, laidKinds := [.data, .pinned], laidTests := true, laidLooks := .later }
def RingWholeUptoCardSaid : Prop := Claim7.holds Tryd.pinned (.plain (OpenSpec.upto ringWholeSpec)) ringWholeUptoCard

/-- THE SECOND FORM's CARD OF 'penelopelaw12.SuperPuts'. -/
def superPutsUptoCard : Claim7 := { stood := { row := superPutsUptoRow, standIns := [], harness := (true, "d1df115197f5d3b7d49fe1bffa69c1c5e4a3159952cda8b89662dfc7fb4ed7f4"), looks := false }, kinds := [], alts := [], laidByText := true, laidKinds := [.data, .pinned], laidTests := true, laidLooks := .later }
def SuperPutsUptoCardSaid : Prop := Claim7.holds Tryd.pinned (.plain (OpenSpec.upto superPutsSpec)) superPutsUptoCard

/-- THE SECOND FORM's CARD OF 'penelopelaw12.SuperBack'. -/
def superBackUptoCard : Claim7 := { stood := { row := superBackUptoRow, standIns := [], harness := (true, "d1df115197f5d3b7d49fe1bffa69c1c5e4a3159952cda8b89662dfc7fb4ed7f4"), looks := false }, kinds := [], alts := [], laidByText := true, laidKinds := [.data, .pinned], laidTests := true, laidLooks := .later }
def SuperBackUptoCardSaid : Prop := Claim7.holds Tryd.pinned (.plain (OpenSpec.upto superBackSpec)) superBackUptoCard

/-- THE SECOND FORM's CARD OF 'penelopelaw12.SuperChooses'. -/
def superChoosesUptoCard : Claim7 := { stood := { row := superChoosesUptoRow, standIns := [], harness := (true, "d1df115197f5d3b7d49fe1bffa69c1c5e4a3159952cda8b89662dfc7fb4ed7f4"), looks := false }, kinds := [], alts := [], laidByText := true, laidKinds := [.data, .pinned], laidTests := true, laidLooks := .later }
def SuperChoosesUptoCardSaid : Prop := Claim7.holds Tryd.pinned (.plain (OpenSpec.upto superChoosesSpec)) superChoosesUptoCard

/-- THE SECOND FORM's CARD OF 'penelopelaw13.RingScans'. -/
def ringScansUptoCard : Claim7 := { stood := { row := ringScansUptoRow, standIns := [], harness := (true, "d1df115197f5d3b7d49fe1bffa69c1c5e4a3159952cda8b89662dfc7fb4ed7f4"), looks := false }, kinds := [], alts := [], laidByText := true, laidKinds := [.data, .pinned], laidTests := true, laidLooks := .later }
def RingScansUptoCardSaid : Prop := Claim7.holds Tryd.pinned (.plain (OpenSpec.upto ringScansSpec)) ringScansUptoCard

/-- THE SECOND FORM's CARD OF 'penelopelaw13.RingRows'. -/
def ringRowsUptoCard : Claim7 := { stood := { row := ringRowsUptoRow, standIns := [], harness := (true, "d1df115197f5d3b7d49fe1bffa69c1c5e4a3159952cda8b89662dfc7fb4ed7f4"), looks := false }, kinds := [], alts := [], laidByText := true, laidKinds := [.data, .pinned], laidTests := true, laidLooks := .later }
def RingRowsUptoCardSaid : Prop := Claim7.holds Tryd.pinned (.plain (OpenSpec.upto ringRowsSpec)) ringRowsUptoCard

/-- THE SECOND FORM's CARD OF 'penelopelaw13.RingBack'. -/
def ringBackUptoCard : Claim7 := { stood := { row := ringBackUptoRow, standIns := [], harness := (true, "d1df115197f5d3b7d49fe1bffa69c1c5e4a3159952cda8b89662dfc7fb4ed7f4"), looks := false }, kinds := [], alts := [], laidByText := true, laidKinds := [.data, .pinned], laidTests := true, laidLooks := .later }
def RingBackUptoCardSaid : Prop := Claim7.holds Tryd.pinned (.plain (OpenSpec.upto ringBackSpec)) ringBackUptoCard

/-- THE SECOND FORM's CARD OF 'penelopelaw08.LookGets'. -/
def lookGetsUptoCard : Claim7 := { stood := { row := lookGetsUptoRow, standIns := [], harness := (true, "d1df115197f5d3b7d49fe1bffa69c1c5e4a3159952cda8b89662dfc7fb4ed7f4"), looks := false }, kinds := [], alts := [], laidByText := true, laidKinds := [.data, .pinned], laidTests := true, laidLooks := .later }
def LookGetsUptoCardSaid : Prop := Claim7.holds Tryd.pinned (.plain (OpenSpec.upto lookGetsSpec)) lookGetsUptoCard

/-- THE SECOND FORM's CARD OF 'penelopelaw08.LookRights'. -/
def lookRightsUptoCard : Claim7 := { stood := { row := lookRightsUptoRow, standIns := [], harness := (true, "d1df115197f5d3b7d49fe1bffa69c1c5e4a3159952cda8b89662dfc7fb4ed7f4"), looks := false }, kinds := [], alts := [], laidByText := true, laidKinds := [.data, .pinned], laidTests := true, laidLooks := .later }
def LookRightsUptoCardSaid : Prop := Claim7.holds Tryd.pinned (.plain (OpenSpec.upto lookRightsSpec)) lookRightsUptoCard

/-- THE SECOND FORM's CARD OF 'penelopelaw11.CheckLost'. -/
def checkLostUptoCard : Claim7 := { stood := { row := checkLostUptoRow, standIns := [], harness := (true, "d1df115197f5d3b7d49fe1bffa69c1c5e4a3159952cda8b89662dfc7fb4ed7f4"), looks := false }, kinds := [], alts := [], laidByText := true, laidKinds := [.data, .pinned], laidTests := true, laidLooks := .later }
def CheckLostUptoCardSaid : Prop := Claim7.holds Tryd.pinned (.plain (OpenSpec.upto checkLostSpec)) checkLostUptoCard
end Rows
end Go.Proofs.YtmmnobdpccdeoaaDoor
