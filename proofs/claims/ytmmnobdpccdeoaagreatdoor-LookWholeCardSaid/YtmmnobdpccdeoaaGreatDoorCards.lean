/-
  DERIVED. GIVEN WITH THE SEED: THE CARDS: each row of YtmmnobdpccdeoaaGreatDoorRows.lean that lists a variable, with what it lists TIED to the program's text (the seventh form; the later family's looks); each row that meets fmt, with fmt's text TOLD by the authors' own Lean function (tested against real Go, not proved from fmt's source: count such statements apart). THE CARD IS WHAT COUNTS. Prove the row's statement (the work); the ties are given (YtmmnobdpccdeoaaGreatDoorTie.lean); close each card by the builder's one call (the guide's Derived/Test/ToyasCard.lean, 'card_holds'). Laid BY PROGRAM, IN A SANDBOX (cutbox-door.mjs). By AI agents, Wed Nov 11 2026. No macro, syntax, notation, axiom, sorry.
-/
import Derived.Test.YtmmnobdpccdeoaaGreatDoorRows
import GoSem.ClaimSeven
namespace Go.Proofs.YtmmnobdpccdeoaaGreatDoor
namespace Rows

/-- THE TIED CARD OF 'penelopelaw11.CheckBlocks'. -/
def checkBlocksCard : Claim7 := { stood := { row := checkBlocksRow, standIns := [], harness := (true, "f1760e1a020f01a74541489510dbfc5fbc0b7b8e3e55dc583df980cebb7c2704"), looks := false }, kinds := [], alts := [], laidByText := true, laidKinds := [.data, .pinned], laidTests := true, laidLooks := .later }
def CheckBlocksCardSaid : Prop := Claim7.holds Tryz.pinned (.plain (OpenSpec.ofChange checkBlocksSpec)) checkBlocksCard

/-- THE TIED CARD OF 'penelopelaw08.LookScans'. -/
def lookScansCard : Claim7 := { stood := { row := lookScansRow, standIns := [], harness := (true, "f1760e1a020f01a74541489510dbfc5fbc0b7b8e3e55dc583df980cebb7c2704"), looks := false }, kinds := [], alts := [], laidByText := true, laidKinds := [.data, .pinned], laidTests := true, laidLooks := .later }
def LookScansCardSaid : Prop := Claim7.holds Tryz.pinned (.plain (OpenSpec.ofChange lookScansSpec)) lookScansCard

/-- THE TIED CARD OF 'penelopelaw08.LookWhole'. -/
def lookWholeCard : Claim7 := { stood := { row := lookWholeRow, standIns := [], harness := (true, "f1760e1a020f01a74541489510dbfc5fbc0b7b8e3e55dc583df980cebb7c2704"), looks := false }, kinds := [], alts := [], laidByText := true, laidKinds := [.data, .pinned], laidTests := true, laidLooks := .later }
def LookWholeCardSaid : Prop := Claim7.holds Tryz.pinned (.plain (OpenSpec.ofChange lookWholeSpec)) lookWholeCard

/-- THE TIED CARD OF 'penelopelaw08.LookParts'. -/
def lookPartsCard : Claim7 := { stood := { row := lookPartsRow, standIns := [], harness := (true, "f1760e1a020f01a74541489510dbfc5fbc0b7b8e3e55dc583df980cebb7c2704"), looks := false }, kinds := [], alts := [], laidByText := true, laidKinds := [.data, .pinned], laidTests := true, laidLooks := .later }
def LookPartsCardSaid : Prop := Claim7.holds Tryz.pinned (.plain (OpenSpec.ofChange lookPartsSpec)) lookPartsCard

/-- THE SECOND FORM's CARD OF 'penelopelaw11.CheckBlocks'. -/
def checkBlocksUptoCard : Claim7 := { stood := { row := checkBlocksUptoRow, standIns := [], harness := (true, "f1760e1a020f01a74541489510dbfc5fbc0b7b8e3e55dc583df980cebb7c2704"), looks := false }, kinds := [], alts := [], laidByText := true, laidKinds := [.data, .pinned], laidTests := true, laidLooks := .later }
def CheckBlocksUptoCardSaid : Prop := Claim7.holds Tryz.pinned (.plain (OpenSpec.upto checkBlocksSpec)) checkBlocksUptoCard

/-- THE SECOND FORM's CARD OF 'penelopelaw08.LookScans'. -/
def lookScansUptoCard : Claim7 := { stood := { row := lookScansUptoRow, standIns := [], harness := (true, "f1760e1a020f01a74541489510dbfc5fbc0b7b8e3e55dc583df980cebb7c2704"), looks := false }, kinds := [], alts := [], laidByText := true, laidKinds := [.data, .pinned], laidTests := true, laidLooks := .later }
def LookScansUptoCardSaid : Prop := Claim7.holds Tryz.pinned (.plain (OpenSpec.upto lookScansSpec)) lookScansUptoCard

/-- THE SECOND FORM's CARD OF 'penelopelaw08.LookWhole'. -/
def lookWholeUptoCard : Claim7 := { stood := { row := lookWholeUptoRow, standIns := [], harness := (true, "f1760e1a020f01a74541489510dbfc5fbc0b7b8e3e55dc583df980cebb7c2704"), looks := false }, kinds := [], alts := [], laidByText := true, laidKinds := [.data, .pinned], laidTests := true, laidLooks := .later }
def LookWholeUptoCardSaid : Prop := Claim7.holds Tryz.pinned (.plain (OpenSpec.upto lookWholeSpec)) lookWholeUptoCard

/-- THE SECOND FORM's CARD OF 'penelopelaw08.LookParts'. -/
def lookPartsUptoCard : Claim7 := { stood := { row := lookPartsUptoRow, standIns := [], harness := (true, "f1760e1a020f01a74541489510dbfc5fbc0b7b8e3e55dc583df980cebb7c2704"), looks := false }, kinds := [], alts := [], laidByText := true, laidKinds := [.data, .pinned], laidTests := true, laidLooks := .later }
def LookPartsUptoCardSaid : Prop := Claim7.holds Tryz.pinned (.plain (OpenSpec.upto lookPartsSpec)) lookPartsUptoCard
end Rows
end Go.Proofs.YtmmnobdpccdeoaaGreatDoor
