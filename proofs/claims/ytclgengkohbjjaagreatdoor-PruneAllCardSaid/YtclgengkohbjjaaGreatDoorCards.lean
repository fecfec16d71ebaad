/-
  DERIVED. GIVEN WITH THE SEED: THE CARDS: each row of YtclgengkohbjjaaGreatDoorRows.lean that lists a variable, with what it lists TIED to the program's text (the seventh form; the later family's looks); each row that meets fmt, with fmt's text TOLD by the authors' own Lean function (tested against real Go, not proved from fmt's source: count such statements apart). THE CARD IS WHAT COUNTS. Prove the row's statement (the work); the ties are given (YtclgengkohbjjaaGreatDoorTie.lean); close each card by the builder's one call (the guide's Derived/Test/ToyasCard.lean, 'card_holds'). Laid BY PROGRAM, IN A SANDBOX (cutbox-door.mjs). By AI agents, Wed Nov 11 2026. No macro, syntax, notation, axiom, sorry.
-/
import Derived.Test.YtclgengkohbjjaaGreatDoorRows
import GoSem.ClaimSeven
namespace Go.Proofs.YtclgengkohbjjaaGreatDoor
namespace Rows

/-- THE TIED CARD OF 'penelopelaw10.PruneDeletes'. -/
def pruneDeletesCard : Claim7 := { stood := { row := pruneDeletesRow, standIns := [], harness := (true, "7c5b648184f7ab0a9662bbd4c8c565d4620acf96b008837db486971eeefef710"), looks := false }, kinds := [], alts := [], laidByText := true, laidKinds := [.data, .pinned], laidTests := true, laidLooks := .later }
def PruneDeletesCardSaid : Prop := Claim7.holds Tryz.pinned (.plain (OpenSpec.ofChange pruneDeletesSpec)) pruneDeletesCard

/-- THE TIED CARD OF 'penelopelaw10.PruneEmpties'. -/
def pruneEmptiesCard : Claim7 := { stood := { row := pruneEmptiesRow, standIns := [], harness := (true, "7c5b648184f7ab0a9662bbd4c8c565d4620acf96b008837db486971eeefef710"), looks := false }, kinds := [], alts := [], laidByText := true, laidKinds := [.data, .pinned], laidTests := true, laidLooks := .later }
def PruneEmptiesCardSaid : Prop := Claim7.holds Tryz.pinned (.plain (OpenSpec.ofChange pruneEmptiesSpec)) pruneEmptiesCard

/-- THE TIED CARD OF 'penelopelaw09.GrowPuts'. -/
def growPutsCard : Claim7 := { stood := { row := growPutsRow, standIns := [], harness := (true, "7c5b648184f7ab0a9662bbd4c8c565d4620acf96b008837db486971eeefef710"), looks := false }, kinds := [], alts := [], laidByText := true, laidKinds := [.data, .pinned], laidTests := true, laidLooks := .later }
def GrowPutsCardSaid : Prop := Claim7.holds Tryz.pinned (.plain (OpenSpec.ofChange growPutsSpec)) growPutsCard

/-- THE TIED CARD OF 'penelopelaw09.GrowWhole'. -/
def growWholeCard : Claim7 := { stood := { row := growWholeRow, standIns := [], harness := (true, "7c5b648184f7ab0a9662bbd4c8c565d4620acf96b008837db486971eeefef710"), looks := false }, kinds := [], alts := [], laidByText := true, laidKinds := [.data, .pinned], laidTests := true, laidLooks := .later }
def GrowWholeCardSaid : Prop := Claim7.holds Tryz.pinned (.plain (OpenSpec.ofChange growWholeSpec)) growWholeCard

/-- THE TIED CARD OF 'penelopelaw09.GrowKeeps'. -/
def growKeepsCard : Claim7 := { stood := { row := growKeepsRow, standIns := [], harness := (true, "7c5b648184f7ab0a9662bbd4c8c565d4620acf96b008837db486971eeefef710"), looks := false }, kinds := [], alts := [], laidByText := true, laidKinds := [.data, .pinned], laidTests := true, laidLooks := .later }
def GrowKeepsCardSaid : Prop := Claim7.holds Tryz.pinned (.plain (OpenSpec.ofChange growKeepsSpec)) growKeepsCard

/-- THE TIED CARD OF 'penelopelaw09.GrowAll'. -/
def growAllCard : Claim7 := { stood := { row := growAllRow, standIns := [], harness := (true, "7c5b648184f7ab0a9662bbd4c8c565d4620acf96b008837db486971eeefef710"), looks := false }, kinds := [], alts := [], laidByText := true, laidKinds := [.data, .pinned], laidTests := true, laidLooks := .later }
def GrowAllCardSaid : Prop := Claim7.holds Tryz.pinned (.plain (OpenSpec.ofChange growAllSpec)) growAllCard

/-- THE TIED CARD OF 'penelopelaw09.GrowOrder'. -/
def growOrderCard : Claim7 := { stood := { row := growOrderRow, standIns := [], harness := (true, "7c5b648184f7ab0a9662bbd4c8c565d4620acf96b008837db486971eeefef710"), looks := false }, kinds := [], alts := [], laidByText := true, laidKinds := [.data, .pinned], laidTests := true, laidLooks := .later }
def GrowOrderCardSaid : Prop := Claim7.holds Tryz.pinned (.plain (OpenSpec.ofChange growOrderSpec)) growOrderCard

/-- THE TIED CARD OF 'penelopelaw09.GrowGets'. -/
def growGetsCard : Claim7 := { stood := { row := growGetsRow, standIns := [], harness := (true, "7c5b648184f7ab0a9662bbd4c8c565d4620acf96b008837db486971eeefef710"), looks := false }, kinds := [], alts := [], laidByText := true, laidKinds := [.data, .pinned], laidTests := true, laidLooks := .later }
def GrowGetsCardSaid : Prop := Claim7.holds Tryz.pinned (.plain (OpenSpec.ofChange growGetsSpec)) growGetsCard

/-- THE TIED CARD OF 'penelopelaw10.PruneChanges'. -/
def pruneChangesCard : Claim7 := { stood := { row := pruneChangesRow, standIns := [], harness := (true, "7c5b648184f7ab0a9662bbd4c8c565d4620acf96b008837db486971eeefef710"), looks := false }, kinds := [], alts := [], laidByText := true, laidKinds := [.data, .pinned], laidTests := true, laidLooks := .later }
def PruneChangesCardSaid : Prop := Claim7.holds Tryz.pinned (.plain (OpenSpec.ofChange pruneChangesSpec)) pruneChangesCard

/-- THE TIED CARD OF 'penelopelaw10.PruneKeeps'. -/
def pruneKeepsCard : Claim7 := { stood := { row := pruneKeepsRow, standIns := [], harness := (true, "7c5b648184f7ab0a9662bbd4c8c565d4620acf96b008837db486971eeefef710"), looks := false }, kinds := [], alts := [], laidByText := true, laidKinds := [.data, .pinned], laidTests := true, laidLooks := .later }
def PruneKeepsCardSaid : Prop := Claim7.holds Tryz.pinned (.plain (OpenSpec.ofChange pruneKeepsSpec)) pruneKeepsCard

/-- THE TIED CARD OF 'penelopelaw10.PruneAll'. -/
def pruneAllCard : Claim7 := { stood := { row := pruneAllRow, standIns := [], harness := (true, "7c5b648184f7ab0a9662bbd4c8c565d4620acf96b008837db486971eeefef710"), looks := false }, kinds := [], alts := [], laidByText := true, laidKinds := [.data, .pinned], laidTests := true, laidLooks := .later }
def PruneAllCardSaid : Prop := Claim7.holds Tryz.pinned (.plain (OpenSpec.ofChange pruneAllSpec)) pruneAllCard

/-- THE TIED CARD OF 'penelopelaw11.CheckChanges'. -/
def checkChangesCard : Claim7 := { stood := { row := checkChangesRow, standIns := [], harness := (true, "7c5b648184f7ab0a9662bbd4c8c565d4620acf96b008837db486971eeefef710"), looks := false }, kinds := [], alts := [], laidByText := true, laidKinds := [.data, .pinned], laidTests := true, laidLooks := .later }
def CheckChangesCardSaid : Prop := Claim7.holds Tryz.pinned (.plain (OpenSpec.ofChange checkChangesSpec)) checkChangesCard

/-- THE SECOND FORM's CARD OF 'penelopelaw10.PruneDeletes'. -/
def pruneDeletesUptoCard : Claim7 := { stood := { row := pruneDeletesUptoRow, standIns := [], harness := (true, "7c5b648184f7ab0a9662bbd4c8c565d4620acf96b008837db486971eeefef710"), looks := false }, kinds := [], alts := [], laidByText := true, laidKinds := [.data, .pinned], laidTests := true, laidLooks := .later }
def PruneDeletesUptoCardSaid : Prop := Claim7.holds Tryz.pinned (.plain (OpenSpec.upto pruneDeletesSpec)) pruneDeletesUptoCard

/-- THE SECOND FORM's CARD OF 'penelopelaw10.PruneEmpties'. -/
def pruneEmptiesUptoCard : Claim7 := { stood := { row := pruneEmptiesUptoRow, standIns := [], harness := (true, "7c5b648184f7ab0a9662bbd4c8c565d4620acf96b008837db486971eeefef710"), looks := false }, kinds := [], alts := [], laidByText := true, laidKinds := [.data, .pinned], laidTests := true, laidLooks := .later }
def PruneEmptiesUptoCardSaid : Prop := Claim7.holds Tryz.pinned (.plain (OpenSpec.upto pruneEmptiesSpec)) pruneEmptiesUptoCard

/-- THE SECOND FORM's CARD OF 'penelopelaw09.GrowPuts'. -/
def growPutsUptoCard : Claim7 := { stood := { row := growPutsUptoRow, standIns := [], harness := (true, "7c5b648184f7ab0a9662bbd4c8c565d4620acf96b008837db486971eeefef710"), looks := false }, kinds := [], alts := [], laidByText := true, laidKinds := [.data, .pinned], laidTests := true, laidLooks := .later }
def GrowPutsUptoCardSaid : Prop := Claim7.holds Tryz.pinned (.plain (OpenSpec.upto growPutsSpec)) growPutsUptoCard

/-- THE SECOND FORM's CARD OF 'penelopelaw09.GrowWhole'. -/
def growWholeUptoCard : Claim7 := { stood := { row := growWholeUptoRow, standIns := [], harness := (true, "7c5b648184f7ab0a9662bbd4c8c565d4620acf96b008837db486971eeefef710"), looks := false }, kinds := [], alts := [], laidByText := true, laidKinds := [.data, .pinned], laidTests := true, laidLooks := .later }
def GrowWholeUptoCardSaid : Prop := Claim7.holds Tryz.pinned (.plain (OpenSpec.upto growWholeSpec)) growWholeUptoCard

/-- THE SECOND FORM's CARD OF 'penelopelaw09.GrowKeeps'. -/
def growKeepsUptoCard : Claim7 := { stood := { row := growKeepsUptoRow, standIns := [], harness := (true, "7c5b648184f7ab0a9662bbd4c8c565d4620acf96b008837db486971eeefef710"), looks := false }, kinds := [], alts := [], laidByText := true, laidKinds := [.data, .pinned], laidTests := true, laidLooks := .later }
def GrowKeepsUptoCardSaid : Prop := Claim7.holds Tryz.pinned (.plain (OpenSpec.upto growKeepsSpec)) growKeepsUptoCard

/-- THE SECOND FORM's CARD OF 'penelopelaw09.GrowAll'. -/
def growAllUptoCard : Claim7 := { stood := { row := growAllUptoRow, standIns := [], harness := (true, "7c5b648184f7ab0a9662bbd4c8c565d4620acf96b008837db486971eeefef710"), looks := false }, kinds := [], alts := [], laidByText := true, laidKinds := [.data, .pinned], laidTests := true, laidLooks := .later }
def GrowAllUptoCardSaid : Prop := Claim7.holds Tryz.pinned (.plain (OpenSpec.upto growAllSpec)) growAllUptoCard

/-- THE SECOND FORM's CARD OF 'penelopelaw09.GrowOrder'. -/
def growOrderUptoCard : Claim7 := { stood := { row := growOrderUptoRow, standIns := [], harness := (true, "7c5b648184f7ab0a9662bbd4c8c565d4620acf96b008837db486971eeefef710"), looks := false }, kinds := [], alts := [], laidByText := true, laidKinds := [.data, .pinned], laidTests := true, laidLooks := .later }
def GrowOrderUptoCardSaid : Prop := Claim7.holds Tryz.pinned (.plain (OpenSpec.upto growOrderSpec)) growOrderUptoCard

/-- THE SECOND FORM's CARD OF 'penelopelaw09.GrowGets'. -/
def growGetsUptoCard : Claim7 := { stood := { row := growGetsUptoRow, standIns := [], harness := (true, "7c5b648184f7ab0a9662bbd4c8c565d4620acf96b008837db486971eeefef710"), looks := false }, kinds := [], alts := [], laidByText := true, laidKinds := [.data, .pinned], laidTests := true, laidLooks := .later }
def GrowGetsUptoCardSaid : Prop := Claim7.holds Tryz.pinned (.plain (OpenSpec.upto growGetsSpec)) growGetsUptoCard

/-- THE SECOND FORM's CARD OF 'penelopelaw10.PruneChanges'. -/
def pruneChangesUptoCard : Claim7 := { stood := { row := pruneChangesUptoRow, standIns := [], harness := (true, "7c5b648184f7ab0a9662bbd4c8c565d4620acf96b008837db486971eeefef710"), looks := false }, kinds := [], alts := [], laidByText := true, laidKinds := [.data, .pinned], laidTests := true, laidLooks := .later }
def PruneChangesUptoCardSaid : Prop := Claim7.holds Tryz.pinned (.plain (OpenSpec.upto pruneChangesSpec)) pruneChangesUptoCard

/-- THE SECOND FORM's CARD OF 'penelopelaw10.PruneKeeps'. -/
def pruneKeepsUptoCard : Claim7 := { stood := { row := pruneKeepsUptoRow, standIns := [], harness := (true, "7c5b648184f7ab0a9662bbd4c8c565d4620acf96b008837db486971eeefef710"), looks := false }, kinds := [], alts := [], laidByText := true, laidKinds := [.data, .pinned], laidTests := true, laidLooks := .later }
def PruneKeepsUptoCardSaid : Prop := Claim7.holds Tryz.pinned (.plain (OpenSpec.upto pruneKeepsSpec)) pruneKeepsUptoCard

/-- THE SECOND FORM's CARD OF 'penelopelaw10.PruneAll'. -/
def pruneAllUptoCard : Claim7 := { stood := { row := pruneAllUptoRow, standIns := [], harness := (true, "7c5b648184f7ab0a9662bbd4c8c565d4620acf96b008837db486971eeefef710"), looks := false }, kinds := [], alts := [], laidByText := true, laidKinds := [.data, .pinned], laidTests := true, laidLooks := .later }
def PruneAllUptoCardSaid : Prop := Claim7.holds Tryz.pinned (.plain (OpenSpec.upto pruneAllSpec)) pruneAllUptoCard

/-- THE SECOND FORM's CARD OF 'penelopelaw11.CheckChanges'. -/
def checkChangesUptoCard : Claim7 := { stood := { row := checkChangesUptoRow, standIns := [], harness := (true, "7c5b648184f7ab0a9662bbd4c8c565d4620acf96b008837db486971eeefef710"), looks := false }, kinds := [], alts := [], laidByText := true, laidKinds := [.data, .pinned], laidTests := true, laidLooks := .later }
def CheckChangesUptoCardSaid : Prop := Claim7.holds Tryz.pinned (.plain (OpenSpec.upto checkChangesSpec)) checkChangesUptoCard
end Rows
end Go.Proofs.YtclgengkohbjjaaGreatDoor
