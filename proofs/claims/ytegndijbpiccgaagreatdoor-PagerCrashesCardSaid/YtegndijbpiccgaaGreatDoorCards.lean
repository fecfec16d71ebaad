/-
  DERIVED. GIVEN WITH THE SEED: THE CARDS: each row of YtegndijbpiccgaaGreatDoorRows.lean that lists a variable, with what it lists TIED to the program's text (the seventh form; the later family's looks); each row that meets fmt, with fmt's text TOLD by the authors' own Lean function (tested against real Go, not proved from fmt's source: count such statements apart). THE CARD IS WHAT COUNTS. Prove the row's statement (the work); the ties are given (YtegndijbpiccgaaGreatDoorTie.lean); close each card by the builder's one call (the guide's Derived/Test/ToyasCard.lean, 'card_holds'). Laid BY PROGRAM, IN A SANDBOX (cutbox-door.mjs). By AI agents, Wed Nov 11 2026. No macro, syntax, notation, axiom, sorry.
-/
import Derived.Test.YtegndijbpiccgaaGreatDoorRows
import GoSem.ClaimSeven
namespace Go.Proofs.YtegndijbpiccgaaGreatDoor
namespace Rows

/-- THE TIED CARD OF 'penelopelaw14.PagerFormats'. -/
def pagerFormatsCard : Claim7 := { stood := { row := pagerFormatsRow, standIns := [], harness := (true, "3c84ec28b8f756a4db90403ef56bbad1afbe15a88b755360988824fde33f5de1"), looks := false }, kinds := [], alts := [], laidByText := true, laidKinds := [.data, .pinned], laidTests := true, laidLooks := .later }
def PagerFormatsCardSaid : Prop := Claim7.holds Tryz.pinned (.plain (OpenSpec.ofChange pagerFormatsSpec)) pagerFormatsCard

/-- THE TIED CARD OF 'penelopelaw14.PagerMounts'. -/
def pagerMountsCard : Claim7 := { stood := { row := pagerMountsRow, standIns := [], harness := (true, "3c84ec28b8f756a4db90403ef56bbad1afbe15a88b755360988824fde33f5de1"), looks := false }, kinds := [], alts := [], laidByText := true, laidKinds := [.data, .pinned], laidTests := true, laidLooks := .later }
def PagerMountsCardSaid : Prop := Claim7.holds Tryz.pinned (.plain (OpenSpec.ofChange pagerMountsSpec)) pagerMountsCard

/-- THE TIED CARD OF 'penelopelaw14.PagerCalls'. -/
def pagerCallsCard : Claim7 := { stood := { row := pagerCallsRow, standIns := [], harness := (true, "3c84ec28b8f756a4db90403ef56bbad1afbe15a88b755360988824fde33f5de1"), looks := false }, kinds := [], alts := [], laidByText := true, laidKinds := [.data, .pinned], laidTests := true, laidLooks := .later }
def PagerCallsCardSaid : Prop := Claim7.holds Tryz.pinned (.plain (OpenSpec.ofChange pagerCallsSpec)) pagerCallsCard

/-- THE TIED CARD OF 'penelopelaw14.PagerCommits'. -/
def pagerCommitsCard : Claim7 := { stood := { row := pagerCommitsRow, standIns := [], harness := (true, "3c84ec28b8f756a4db90403ef56bbad1afbe15a88b755360988824fde33f5de1"), looks := false }, kinds := [], alts := [], laidByText := true, laidKinds := [.data, .pinned], laidTests := true, laidLooks := .later }
def PagerCommitsCardSaid : Prop := Claim7.holds Tryz.pinned (.plain (OpenSpec.ofChange pagerCommitsSpec)) pagerCommitsCard

/-- THE TIED CARD OF 'penelopelaw14.PagerBack'. -/
def pagerBackCard : Claim7 := { stood := { row := pagerBackRow, standIns := [], harness := (true, "3c84ec28b8f756a4db90403ef56bbad1afbe15a88b755360988824fde33f5de1"), looks := false }, kinds := [], alts := [], laidByText := true, laidKinds := [.data, .pinned], laidTests := true, laidLooks := .later }
def PagerBackCardSaid : Prop := Claim7.holds Tryz.pinned (.plain (OpenSpec.ofChange pagerBackSpec)) pagerBackCard

/-- THE TIED CARD OF 'penelopelaw14.PagerTwice'. -/
def pagerTwiceCard : Claim7 := { stood := { row := pagerTwiceRow, standIns := [], harness := (true, "3c84ec28b8f756a4db90403ef56bbad1afbe15a88b755360988824fde33f5de1"), looks := false }, kinds := [], alts := [], laidByText := true, laidKinds := [.data, .pinned], laidTests := true, laidLooks := .later }
def PagerTwiceCardSaid : Prop := Claim7.holds Tryz.pinned (.plain (OpenSpec.ofChange pagerTwiceSpec)) pagerTwiceCard

/-- THE TIED CARD OF 'penelopelaw14.PagerLeft'. -/
def pagerLeftCard : Claim7 := { stood := { row := pagerLeftRow, standIns := [], harness := (true, "3c84ec28b8f756a4db90403ef56bbad1afbe15a88b755360988824fde33f5de1"), looks := false }, kinds := [], alts := [], laidByText := true, laidKinds := [.data, .pinned], laidTests := true, laidLooks := .later }
def PagerLeftCardSaid : Prop := Claim7.holds Tryz.pinned (.plain (OpenSpec.ofChange pagerLeftSpec)) pagerLeftCard

/-- THE TIED CARD OF 'penelopelaw14.PagerCrashes'. -/
def pagerCrashesCard : Claim7 := { stood := { row := pagerCrashesRow, standIns := [], harness := (true, "3c84ec28b8f756a4db90403ef56bbad1afbe15a88b755360988824fde33f5de1"), looks := false }, kinds := [], alts := [], laidByText := true, laidKinds := [.data, .pinned], laidTests := true, laidLooks := .later }
def PagerCrashesCardSaid : Prop := Claim7.holds Tryz.pinned (.plain (OpenSpec.ofChange pagerCrashesSpec)) pagerCrashesCard

/-- THE SECOND FORM's CARD OF 'penelopelaw14.PagerFormats'. -/
def pagerFormatsUptoCard : Claim7 := { stood := { row := pagerFormatsUptoRow, standIns := [], harness := (true, "3c84ec28b8f756a4db90403ef56bbad1afbe15a88b755360988824fde33f5de1"), looks := false }, kinds := [], alts := [], laidByText := true, laidKinds := [.data, .pinned], laidTests := true, laidLooks := .later }
def PagerFormatsUptoCardSaid : Prop := Claim7.holds Tryz.pinned (.plain (OpenSpec.upto pagerFormatsSpec)) pagerFormatsUptoCard

/-- THE SECOND FORM's CARD OF 'penelopelaw14.PagerMounts'. -/
def pagerMountsUptoCard : Claim7 := { stood := { row := pagerMountsUptoRow, standIns := [], harness := (true, "3c84ec28b8f756a4db90403ef56bbad1afbe15a88b755360988824fde33f5de1"), looks := false }, kinds := [], alts := [], laidByText := true, laidKinds := [.data, .pinned], laidTests := true, laidLooks := .later }
def PagerMountsUptoCardSaid : Prop := Claim7.holds Tryz.pinned (.plain (OpenSpec.upto pagerMountsSpec)) pagerMountsUptoCard

/-- THE SECOND FORM's CARD OF 'penelopelaw14.PagerCalls'. -/
def pagerCallsUptoCard : Claim7 := { stood := { row := pagerCallsUptoRow, standIns := [], harness := (true, "3c84ec28b8f756a4db90403ef56bbad1afbe15a88b755360988824fde33f5de1"), looks := false }, kinds := [], alts := [], laidByText := true, laidKinds := [.data, .pinned], laidTests := true, laidLooks := .later }
def PagerCallsUptoCardSaid : Prop := Claim7.holds Tryz.pinned (.plain (OpenSpec.upto pagerCallsSpec)) pagerCallsUptoCard

/-- THE SECOND FORM's CARD OF 'penelopelaw14.PagerCommits'. -/
def pagerCommitsUptoCard : Claim7 := { stood := { row := pagerCommitsUptoRow, standIns := [], harness := (true, "3c84ec28b8f756a4db90403ef56bbad1afbe15a88b755360988824fde33f5de1"), looks := false }, kinds := [], alts := [], laidByText := true, laidKinds := [.data, .pinned], laidTests := true, laidLooks := .later }
def PagerCommitsUptoCardSaid : Prop := Claim7.holds Tryz.pinned (.plain (OpenSpec.upto pagerCommitsSpec)) pagerCommitsUptoCard

/-- THE SECOND FORM's CARD OF 'penelopelaw14.PagerBack'. -/
def pagerBackUptoCard : Claim7 := { stood := { row := pagerBackUptoRow, standIns := [], harness := (true, "3c84ec28b8f756a4db90403ef56bbad1afbe15a88b755360988824fde33f5de1"), looks := false }, kinds := [], alts := [], laidByText := true, laidKinds := [.data, .pinned], laidTests := true, laidLooks := .later }
def PagerBackUptoCardSaid : Prop := Claim7.holds Tryz.pinned (.plain (OpenSpec.upto pagerBackSpec)) pagerBackUptoCard

/-- THE SECOND FORM's CARD OF 'penelopelaw14.PagerTwice'. -/
def pagerTwiceUptoCard : Claim7 := { stood := { row := pagerTwiceUptoRow, standIns := [], harness := (true, "3c84ec28b8f756a4db90403ef56bbad1afbe15a88b755360988824fde33f5de1"), looks := false }, kinds := [], alts := [], laidByText := true, laidKinds := [.data, .pinned], laidTests := true, laidLooks := .later }
def PagerTwiceUptoCardSaid : Prop := Claim7.holds Tryz.pinned (.plain (OpenSpec.upto pagerTwiceSpec)) pagerTwiceUptoCard

/-- THE SECOND FORM's CARD OF 'penelopelaw14.PagerLeft'. -/
def pagerLeftUptoCard : Claim7 := { stood := { row := pagerLeftUptoRow, standIns := [], harness := (true, "3c84ec28b8f756a4db90403ef56bbad1afbe15a88b755360988824fde33f5de1"), looks := false }, kinds := [], alts := [], laidByText := true, laidKinds := [.data, .pinned], laidTests := true, laidLooks := .later }
def PagerLeftUptoCardSaid : Prop := Claim7.holds Tryz.pinned (.plain (OpenSpec.upto pagerLeftSpec)) pagerLeftUptoCard

/-- THE SECOND FORM's CARD OF 'penelopelaw14.PagerCrashes'. -/
def pagerCrashesUptoCard : Claim7 := { stood := { row := pagerCrashesUptoRow, standIns := [], harness := (true, "3c84ec28b8f756a4db90403ef56bbad1afbe15a88b755360988824fde33f5de1"), looks := false }, kinds := [], alts := [], laidByText := true, laidKinds := [.data, .pinned], laidTests := true, laidLooks := .later }
def PagerCrashesUptoCardSaid : Prop := Claim7.holds Tryz.pinned (.plain (OpenSpec.upto pagerCrashesSpec)) pagerCrashesUptoCard
end Rows
end Go.Proofs.YtegndijbpiccgaaGreatDoor
