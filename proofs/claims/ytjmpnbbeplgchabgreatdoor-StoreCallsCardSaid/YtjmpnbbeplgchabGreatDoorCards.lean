/-
  DERIVED. GIVEN WITH THE SEED: THE CARDS: each row of YtjmpnbbeplgchabGreatDoorRows.lean that lists a variable, with what it lists TIED to the program's text (the seventh form; the later family's looks); each row that meets fmt, with fmt's text TOLD by the authors' own Lean function (tested against real Go, not proved from fmt's source: count such statements apart). THE CARD IS WHAT COUNTS. Prove the row's statement (the work); the ties are given (YtjmpnbbeplgchabGreatDoorTie.lean); close each card by the builder's one call (the guide's Derived/Test/ToyasCard.lean, 'card_holds'). Laid BY PROGRAM, IN A SANDBOX (cutbox-door.mjs). By AI agents, Wed Nov 11 2026. No macro, syntax, notation, axiom, sorry.
-/
import Derived.Test.YtjmpnbbeplgchabGreatDoorRows
import GoSem.ClaimSeven
namespace Go.Proofs.YtjmpnbbeplgchabGreatDoor
namespace Rows

/-- THE TIED CARD OF 'penelopelaw15.StoreOpens'. -/
def storeOpensCard : Claim7 := { stood := { row := storeOpensRow, standIns := [], harness := (true, "c3009585a9edf7e9f0f31bf1adb7cc74d1cbf0cb17a21a427c55af32c907dec7"), looks := false }, kinds := [], alts := [], laidByText := true, laidKinds := [.data, .pinned], laidTests := true, laidLooks := .later }
def StoreOpensCardSaid : Prop := Claim7.holds Tryz.pinned (.plain (OpenSpec.ofChange storeOpensSpec)) storeOpensCard

/-- THE TIED CARD OF 'penelopelaw15.StoreRoom'. -/
def storeRoomCard : Claim7 := { stood := { row := storeRoomRow, standIns := [], harness := (true, "c3009585a9edf7e9f0f31bf1adb7cc74d1cbf0cb17a21a427c55af32c907dec7"), looks := false }, kinds := [], alts := [], laidByText := true, laidKinds := [.data, .pinned], laidTests := true, laidLooks := .later }
def StoreRoomCardSaid : Prop := Claim7.holds Tryz.pinned (.plain (OpenSpec.ofChange storeRoomSpec)) storeRoomCard

/-- THE TIED CARD OF 'penelopelaw15.StoreCalls'. -/
def storeCallsCard : Claim7 := { stood := { row := storeCallsRow, standIns := [], harness := (true, "c3009585a9edf7e9f0f31bf1adb7cc74d1cbf0cb17a21a427c55af32c907dec7"), looks := false }, kinds := [], alts := [], laidByText := true, laidKinds := [.data, .pinned], laidTests := true, laidLooks := .later }
def StoreCallsCardSaid : Prop := Claim7.holds Tryz.pinned (.plain (OpenSpec.ofChange storeCallsSpec)) storeCallsCard

/-- THE TIED CARD OF 'penelopelaw15.StoreKeeps'. -/
def storeKeepsCard : Claim7 := { stood := { row := storeKeepsRow, standIns := [], harness := (true, "c3009585a9edf7e9f0f31bf1adb7cc74d1cbf0cb17a21a427c55af32c907dec7"), looks := false }, kinds := [], alts := [], laidByText := true, laidKinds := [.data, .pinned], laidTests := true, laidLooks := .later }
def StoreKeepsCardSaid : Prop := Claim7.holds Tryz.pinned (.plain (OpenSpec.ofChange storeKeepsSpec)) storeKeepsCard

/-- THE SECOND FORM's CARD OF 'penelopelaw15.StoreOpens'. -/
def storeOpensUptoCard : Claim7 := { stood := { row := storeOpensUptoRow, standIns := [], harness := (true, "c3009585a9edf7e9f0f31bf1adb7cc74d1cbf0cb17a21a427c55af32c907dec7"), looks := false }, kinds := [], alts := [], laidByText := true, laidKinds := [.data, .pinned], laidTests := true, laidLooks := .later }
def StoreOpensUptoCardSaid : Prop := Claim7.holds Tryz.pinned (.plain (OpenSpec.upto storeOpensSpec)) storeOpensUptoCard

/-- THE SECOND FORM's CARD OF 'penelopelaw15.StoreRoom'. -/
def storeRoomUptoCard : Claim7 := { stood := { row := storeRoomUptoRow, standIns := [], harness := (true, "c3009585a9edf7e9f0f31bf1adb7cc74d1cbf0cb17a21a427c55af32c907dec7"), looks := false }, kinds := [], alts := [], laidByText := true, laidKinds := [.data, .pinned], laidTests := true, laidLooks := .later }
def StoreRoomUptoCardSaid : Prop := Claim7.holds Tryz.pinned (.plain (OpenSpec.upto storeRoomSpec)) storeRoomUptoCard

/-- THE SECOND FORM's CARD OF 'penelopelaw15.StoreCalls'. -/
def storeCallsUptoCard : Claim7 := { stood := { row := storeCallsUptoRow, standIns := [], harness := (true, "c3009585a9edf7e9f0f31bf1adb7cc74d1cbf0cb17a21a427c55af32c907dec7"), looks := false }, kinds := [], alts := [], laidByText := true, laidKinds := [.data, .pinned], laidTests := true, laidLooks := .later }
def StoreCallsUptoCardSaid : Prop := Claim7.holds Tryz.pinned (.plain (OpenSpec.upto storeCallsSpec)) storeCallsUptoCard

/-- THE SECOND FORM's CARD OF 'penelopelaw15.StoreKeeps'. -/
def storeKeepsUptoCard : Claim7 := { stood := { row := storeKeepsUptoRow, standIns := [], harness := (true, "c3009585a9edf7e9f0f31bf1adb7cc74d1cbf0cb17a21a427c55af32c907dec7"), looks := false }, kinds := [], alts := [], laidByText := true, laidKinds := [.data, .pinned], laidTests := true, laidLooks := .later }
def StoreKeepsUptoCardSaid : Prop := Claim7.holds Tryz.pinned (.plain (OpenSpec.upto storeKeepsSpec)) storeKeepsUptoCard
end Rows
end Go.Proofs.YtjmpnbbeplgchabGreatDoor
