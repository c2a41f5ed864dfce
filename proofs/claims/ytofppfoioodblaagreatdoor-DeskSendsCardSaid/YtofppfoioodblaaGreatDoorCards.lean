/-
  DERIVED. GIVEN WITH THE SEED: THE CARDS: each row of YtofppfoioodblaaGreatDoorRows.lean that lists a variable, with what it lists TIED to the program's text (the seventh form; the later family's looks); each row that meets fmt, with fmt's text TOLD by the authors' own Lean function (tested against real Go, not proved from fmt's source: count such statements apart). THE CARD IS WHAT COUNTS. Prove the row's statement (the work); the ties are given (YtofppfoioodblaaGreatDoorTie.lean); close each card by the builder's one call (the guide's Derived/Test/ToyasCard.lean, 'card_holds'). Laid BY PROGRAM, IN A SANDBOX (cutbox-door.mjs). By AI agents, Wed Nov 11 2026. No macro, syntax, notation, axiom, sorry.
-/
import Derived.Test.YtofppfoioodblaaGreatDoorRows
import GoSem.ClaimSeven
namespace Go.Proofs.YtofppfoioodblaaGreatDoor
namespace Rows

/-- THE TIED CARD OF 'rostrumtop.TopVersions'. -/
def topVersionsCard : Claim7 := { stood := { row := topVersionsRow, standIns := [], harness := (true, "72b727ed9966f09c0712a059317882c19f18ad5729b40807c002359dc5a15f51"), looks := true }, kinds := [], alts := [], laidByText := true, laidKinds := [.sentinel, .sentinel, .sentinel], laidTests := true, laidLooks := .later }
def TopVersionsCardSaid : Prop := Claim7.holds Tryz.pinned (.plain (OpenSpec.ofChange topVersionsSpec)) topVersionsCard

/-- THE TIED CARD OF 'rostrumtop.TopCrashes'. -/
def topCrashesCard : Claim7 := { stood := { row := topCrashesRow, standIns := [], harness := (true, "72b727ed9966f09c0712a059317882c19f18ad5729b40807c002359dc5a15f51"), looks := true }, kinds := [], alts := [], laidByText := true, laidKinds := [.sentinel, .sentinel, .sentinel], laidTests := true, laidLooks := .later }
def TopCrashesCardSaid : Prop := Claim7.holds Tryz.pinned (.plain (OpenSpec.ofChange topCrashesSpec)) topCrashesCard

/-- THE TIED CARD OF 'rostrumlaw20.DeskLong'. -/
def deskLongCard : Claim7 := { stood := { row := deskLongRow, standIns := [], harness := (true, "72b727ed9966f09c0712a059317882c19f18ad5729b40807c002359dc5a15f51"), looks := true }, kinds := [], alts := [], laidByText := true, laidKinds := [.data, .data, .data, .data, .sentinel, .sentinel, .sentinel, .sentinel, .sentinel, .pinned], laidTests := true, laidLooks := .later }
def DeskLongCardSaid : Prop := Claim7.holds Tryz.pinned (.plain (OpenSpec.ofChange deskLongSpec)) deskLongCard

/-- THE TIED CARD OF 'rostrumlaw20.DeskSends'. -/
def deskSendsCard : Claim7 := { stood := { row := deskSendsRow, standIns := [], harness := (true, "72b727ed9966f09c0712a059317882c19f18ad5729b40807c002359dc5a15f51"), looks := true }, kinds := [], alts := [], laidByText := true, laidKinds := [.data, .data, .data, .data, .sentinel, .sentinel, .sentinel, .sentinel, .sentinel, .pinned], laidTests := true, laidLooks := .later }
def DeskSendsCardSaid : Prop := Claim7.holds Tryz.pinned (.plain (OpenSpec.ofChange deskSendsSpec)) deskSendsCard

/-- THE TIED CARD OF 'rostrumlaw20.DeskWants'. -/
def deskWantsCard : Claim7 := { stood := { row := deskWantsRow, standIns := [], harness := (true, "72b727ed9966f09c0712a059317882c19f18ad5729b40807c002359dc5a15f51"), looks := true }, kinds := [], alts := [], laidByText := true, laidKinds := [.data, .data, .data, .data, .sentinel, .sentinel, .sentinel, .sentinel, .sentinel, .pinned], laidTests := true, laidLooks := .later }
def DeskWantsCardSaid : Prop := Claim7.holds Tryz.pinned (.plain (OpenSpec.ofChange deskWantsSpec)) deskWantsCard

/-- THE SECOND FORM's CARD OF 'rostrumtop.TopVersions'. -/
def topVersionsUptoCard : Claim7 := { stood := { row := topVersionsUptoRow, standIns := [], harness := (true, "72b727ed9966f09c0712a059317882c19f18ad5729b40807c002359dc5a15f51"), looks := true }, kinds := [], alts := [], laidByText := true, laidKinds := [.sentinel, .sentinel, .sentinel], laidTests := true, laidLooks := .later }
def TopVersionsUptoCardSaid : Prop := Claim7.holds Tryz.pinned (.plain (OpenSpec.upto topVersionsSpec)) topVersionsUptoCard

/-- THE SECOND FORM's CARD OF 'rostrumtop.TopCrashes'. -/
def topCrashesUptoCard : Claim7 := { stood := { row := topCrashesUptoRow, standIns := [], harness := (true, "72b727ed9966f09c0712a059317882c19f18ad5729b40807c002359dc5a15f51"), looks := true }, kinds := [], alts := [], laidByText := true, laidKinds := [.sentinel, .sentinel, .sentinel], laidTests := true, laidLooks := .later }
def TopCrashesUptoCardSaid : Prop := Claim7.holds Tryz.pinned (.plain (OpenSpec.upto topCrashesSpec)) topCrashesUptoCard

/-- THE SECOND FORM's CARD OF 'rostrumlaw20.DeskLong'. -/
def deskLongUptoCard : Claim7 := { stood := { row := deskLongUptoRow, standIns := [], harness := (true, "72b727ed9966f09c0712a059317882c19f18ad5729b40807c002359dc5a15f51"), looks := true }, kinds := [], alts := [], laidByText := true, laidKinds := [.data, .data, .data, .data, .sentinel, .sentinel, .sentinel, .sentinel, .sentinel, .pinned], laidTests := true, laidLooks := .later }
def DeskLongUptoCardSaid : Prop := Claim7.holds Tryz.pinned (.plain (OpenSpec.upto deskLongSpec)) deskLongUptoCard

/-- THE SECOND FORM's CARD OF 'rostrumlaw20.DeskSends'. -/
def deskSendsUptoCard : Claim7 := { stood := { row := deskSendsUptoRow, standIns := [], harness := (true, "72b727ed9966f09c0712a059317882c19f18ad5729b40807c002359dc5a15f51"), looks := true }, kinds := [], alts := [], laidByText := true, laidKinds := [.data, .data, .data, .data, .sentinel, .sentinel, .sentinel, .sentinel, .sentinel, .pinned], laidTests := true, laidLooks := .later }
def DeskSendsUptoCardSaid : Prop := Claim7.holds Tryz.pinned (.plain (OpenSpec.upto deskSendsSpec)) deskSendsUptoCard

/-- THE SECOND FORM's CARD OF 'rostrumlaw20.DeskWants'. -/
def deskWantsUptoCard : Claim7 := { stood := { row := deskWantsUptoRow, standIns := [], harness := (true, "72b727ed9966f09c0712a059317882c19f18ad5729b40807c002359dc5a15f51"), looks := true }, kinds := [], alts := [], laidByText := true, laidKinds := [.data, .data, .data, .data, .sentinel, .sentinel, .sentinel, .sentinel, .sentinel, .pinned], laidTests := true, laidLooks := .later }
def DeskWantsUptoCardSaid : Prop := Claim7.holds Tryz.pinned (.plain (OpenSpec.upto deskWantsSpec)) deskWantsUptoCard
end Rows
end Go.Proofs.YtofppfoioodblaaGreatDoor
