/-
  DERIVED. GIVEN WITH THE SEED: THE CARDS: each row of YtcakphhnilklnaaDoorRows.lean that lists a variable, with what it lists TIED to the program's text (the seventh form; the later family's looks); each row that meets fmt, with fmt's text TOLD by the authors' own Lean function (tested against real Go, not proved from fmt's source: count such statements apart). THE CARD IS WHAT COUNTS. Prove the row's statement (the work); the ties are given (YtcakphhnilklnaaDoorTie.lean); close each card by the builder's one call (the guide's Derived/Test/ToyasCard.lean, 'card_holds'). Laid BY PROGRAM, IN A SANDBOX (cutbox-door.mjs). By AI agents, Wed Nov 11 2026. No macro, syntax, notation, axiom, sorry.
-/
import Derived.Test.YtcakphhnilklnaaDoorRows
import GoSem.ClaimSeven
namespace Go.Proofs.YtcakphhnilklnaaDoor
namespace Rows

/-- THE TIED CARD OF 'penelopelaw03.DeviceRights'. -/
def deviceRightsCard : Claim7 := { stood := { row := deviceRightsRow, standIns := [], harness := (true, "3822734b0875d1ab06137c18ff48c247b0b45cc9f9259291a2fec4bf622a2dd0"), looks := false }, kinds := [], alts := [], laidByText := true, laidKinds := [.data, .pinned], laidTests := true, laidLooks := .later }
def DeviceRightsCardSaid : Prop := Claim7.holds Tryd.pinned (.plain (OpenSpec.ofChange deviceRightsSpec)) deviceRightsCard

/-- THE TIED CARD OF 'penelopelaw03.DeviceMixes'. -/
def deviceMixesCard : Claim7 := { stood := { row := deviceMixesRow, standIns := [], harness := (true, "3822734b0875d1ab06137c18ff48c247b0b45cc9f9259291a2fec4bf622a2dd0"), looks := false }, kinds := [], alts := [], laidByText := true, laidKinds := [.data, .pinned], laidTests := true, laidLooks := .later }
def DeviceMixesCardSaid : Prop := Claim7.holds Tryd.pinned (.plain (OpenSpec.ofChange deviceMixesSpec)) deviceMixesCard

/-- THE TIED CARD OF 'penelopelaw03.DeviceMixed'. -/
def deviceMixedCard : Claim7 := { stood := { row := deviceMixedRow, standIns := [], harness := (true, "3822734b0875d1ab06137c18ff48c247b0b45cc9f9259291a2fec4bf622a2dd0"), looks := false }, kinds := [], alts := [], laidByText := true, laidKinds := [.data, .pinned], laidTests := true, laidLooks := .later }
def DeviceMixedCardSaid : Prop := Claim7.holds Tryd.pinned (.plain (OpenSpec.ofChange deviceMixedSpec)) deviceMixedCard

/-- THE TIED CARD OF 'penelopelaw03.DeviceCrashes'. -/
def deviceCrashesCard : Claim7 := { stood := { row := deviceCrashesRow, standIns := [], harness := (true, "3822734b0875d1ab06137c18ff48c247b0b45cc9f9259291a2fec4bf622a2dd0"), looks := false }, kinds := [], alts := [], laidByText := true, laidKinds := [.data, .pinned], laidTests := true, laidLooks := .later }
def DeviceCrashesCardSaid : Prop := Claim7.holds Tryd.pinned (.plain (OpenSpec.ofChange deviceCrashesSpec)) deviceCrashesCard

/-- THE TIED CARD OF 'penelopelaw03.DeviceWhole'. -/
def deviceWholeCard : Claim7 := { stood := { row := deviceWholeRow, standIns := [], harness := (true, "3822734b0875d1ab06137c18ff48c247b0b45cc9f9259291a2fec4bf622a2dd0"), looks := false }, kinds := [], alts := [], laidByText := true, laidKinds := [.data, .pinned], laidTests := true, laidLooks := .later }
def DeviceWholeCardSaid : Prop := Claim7.holds Tryd.pinned (.plain (OpenSpec.ofChange deviceWholeSpec)) deviceWholeCard

/-- THE TIED CARD OF 'penelopelaw03.DeviceCalls'. -/
def deviceCallsCard : Claim7 := { stood := { row := deviceCallsRow, standIns := [], harness := (true, "3822734b0875d1ab06137c18ff48c247b0b45cc9f9259291a2fec4bf622a2dd0"), looks := false }, kinds := [], alts := [], laidByText := true, laidKinds := [.data, .pinned], laidTests := true, laidLooks := .later }
def DeviceCallsCardSaid : Prop := Claim7.holds Tryd.pinned (.plain (OpenSpec.ofChange deviceCallsSpec)) deviceCallsCard

/-- THE TIED CARD OF 'penelopelaw03.DeviceSettles'. -/
def deviceSettlesCard : Claim7 := { stood := { row := deviceSettlesRow, standIns := [], harness := (true, "3822734b0875d1ab06137c18ff48c247b0b45cc9f9259291a2fec4bf622a2dd0"), looks := false }, kinds := [], alts := [], laidByText := true, laidKinds := [.data, .pinned], laidTests := true, laidLooks := .later }
def DeviceSettlesCardSaid : Prop := Claim7.holds Tryd.pinned (.plain (OpenSpec.ofChange deviceSettlesSpec)) deviceSettlesCard

/-- THE TIED CARD OF 'penelopelaw03.DeviceTells'. -/
def deviceTellsCard : Claim7 := { stood := { row := deviceTellsRow, standIns := [], harness := (true, "3822734b0875d1ab06137c18ff48c247b0b45cc9f9259291a2fec4bf622a2dd0"), looks := false }, kinds := [], alts := [], laidByText := true, laidKinds := [.data, .pinned], laidTests := true, laidLooks := .later }
def DeviceTellsCardSaid : Prop := Claim7.holds Tryd.pinned (.plain (OpenSpec.ofChange deviceTellsSpec)) deviceTellsCard

/-- THE TIED CARD OF 'penelopelaw13.RingPuts'. -/
def ringPutsCard : Claim7 := { stood := { row := ringPutsRow, standIns := [], harness := (true, "3822734b0875d1ab06137c18ff48c247b0b45cc9f9259291a2fec4bf622a2dd0"), looks := false }, kinds := [], alts := [], laidByText := true, laidKinds := [.data, .pinned], laidTests := true, laidLooks := .later }
def RingPutsCardSaid : Prop := Claim7.holds Tryd.pinned (.plain (OpenSpec.ofChange ringPutsSpec)) ringPutsCard

/-- THE SECOND FORM's CARD OF 'penelopelaw03.DeviceRights'. -/
def deviceRightsUptoCard : Claim7 := { stood := { row := deviceRightsUptoRow, standIns := [], harness := (true, "3822734b0875d1ab06137c18ff48c247b0b45cc9f9259291a2fec4bf622a2dd0"), looks := false }, kinds := [], alts := [], laidByText := true, laidKinds := [.data, .pinned], laidTests := true, laidLooks := .later }
def DeviceRightsUptoCardSaid : Prop := Claim7.holds Tryd.pinned (.plain (OpenSpec.upto deviceRightsSpec)) deviceRightsUptoCard

/-- THE SECOND FORM's CARD OF 'penelopelaw03.DeviceMixes'. -/
def deviceMixesUptoCard : Claim7 := { stood := { row := deviceMixesUptoRow, standIns := [], harness := (true, "3822734b0875d1ab06137c18ff48c247b0b45cc9f9259291a2fec4bf622a2dd0"), looks := false }, kinds := [], alts := [], laidByText := true, laidKinds := [.data, .pinned], laidTests := true, laidLooks := .later }
def DeviceMixesUptoCardSaid : Prop := Claim7.holds Tryd.pinned (.plain (OpenSpec.upto deviceMixesSpec)) deviceMixesUptoCard

/-- THE SECOND FORM's CARD OF 'penelopelaw03.DeviceMixed'. -/
def deviceMixedUptoCard : Claim7 := { stood := { row := deviceMixedUptoRow, standIns := [], harness := (true, "3822734b0875d1ab06137c18ff48c247b0b45cc9f9259291a2fec4bf622a2dd0"), looks := false }, kinds := [], alts := [], laidByText := true, laidKinds := [.data, .pinned], laidTests := true, laidLooks := .later }
def DeviceMixedUptoCardSaid : Prop := Claim7.holds Tryd.pinned (.plain (OpenSpec.upto deviceMixedSpec)) deviceMixedUptoCard

/-- THE SECOND FORM's CARD OF 'penelopelaw03.DeviceCrashes'. -/
def deviceCrashesUptoCard : Claim7 := { stood := { row := deviceCrashesUptoRow, standIns := [], harness := (true, "3822734b0875d1ab06137c18ff48c247b0b45cc9f9259291a2fec4bf622a2dd0"), looks := false }, kinds := [], alts := [], laidByText := true, laidKinds := [.data, .pinned], laidTests := true, laidLooks := .later }
def DeviceCrashesUptoCardSaid : Prop := Claim7.holds Tryd.pinned (.plain (OpenSpec.upto deviceCrashesSpec)) deviceCrashesUptoCard

/-- THE SECOND FORM's CARD OF 'penelopelaw03.DeviceWhole'. -/
def deviceWholeUptoCard : Claim7 := { stood := { row := deviceWholeUptoRow, standIns := [], harness := (true, "3822734b0875d1ab06137c18ff48c247b0b45cc9f9259291a2fec4bf622a2dd0"), looks := false }, kinds := [], alts := [], laidByText := true, laidKinds := [.data, .pinned], laidTests := true, laidLooks := .later }
def DeviceWholeUptoCardSaid : Prop := Claim7.holds Tryd.pinned (.plain (OpenSpec.upto deviceWholeSpec)) deviceWholeUptoCard

/-- THE SECOND FORM's CARD OF 'penelopelaw03.DeviceCalls'. -/
def deviceCallsUptoCard : Claim7 := { stood := { row := deviceCallsUptoRow, standIns := [], harness := (true, "3822734b0875d1ab06137c18ff48c247b0b45cc9f9259291a2fec4bf622a2dd0"), looks := false }, kinds := [], alts := [], laidByText := true, laidKinds := [.data, .pinned], laidTests := true, laidLooks := .later }
def DeviceCallsUptoCardSaid : Prop := Claim7.holds Tryd.pinned (.plain (OpenSpec.upto deviceCallsSpec)) deviceCallsUptoCard

/-- THE SECOND FORM's CARD OF 'penelopelaw03.DeviceSettles'. -/
def deviceSettlesUptoCard : Claim7 := { stood := { row := deviceSettlesUptoRow, standIns := [], harness := (true, "3822734b0875d1ab06137c18ff48c247b0b45cc9f9259291a2fec4bf622a2dd0"), looks := false }, kinds := [], alts := [], laidByText := true, laidKinds := [.data, .pinned], laidTests := true, laidLooks := .later }
def DeviceSettlesUptoCardSaid : Prop := Claim7.holds Tryd.pinned (.plain (OpenSpec.upto deviceSettlesSpec)) deviceSettlesUptoCard

/-- THE SECOND FORM's CARD OF 'penelopelaw03.DeviceTells'. -/
def deviceTellsUptoCard : Claim7 := { stood := { row := deviceTellsUptoRow, standIns := [], harness := (true, "3822734b0875d1ab06137c18ff48c247b0b45cc9f9259291a2fec4bf622a2dd0"), looks := false }, kinds := [], alts := [], laidByText := true, laidKinds := [.data, .pinned], laidTests := true, laidLooks := .later }
def DeviceTellsUptoCardSaid : Prop := Claim7.holds Tryd.pinned (.plain (OpenSpec.upto deviceTellsSpec)) deviceTellsUptoCard

/-- THE SECOND FORM's CARD OF 'penelopelaw13.RingPuts'. -/
def ringPutsUptoCard : Claim7 := { stood := { row := ringPutsUptoRow, standIns := [], harness := (true, "3822734b0875d1ab06137c18ff48c247b0b45cc9f9259291a2fec4bf622a2dd0"), looks := false }, kinds := [], alts := [], laidByText := true, laidKinds := [.data, .pinned], laidTests := true, laidLooks := .later }
def RingPutsUptoCardSaid : Prop := Claim7.holds Tryd.pinned (.plain (OpenSpec.upto ringPutsSpec)) ringPutsUptoCard
end Rows
end Go.Proofs.YtcakphhnilklnaaDoor
