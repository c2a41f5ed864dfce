/-
  DERIVED. GIVEN WITH THE SEED: THE CARDS: each row of YtobnhnidffipjaaGreatDoorRows.lean that lists a variable, with what it lists TIED to the program's text (the seventh form; the later family's looks); each row that meets fmt, with fmt's text TOLD by the authors' own Lean function (tested against real Go, not proved from fmt's source: count such statements apart). THE CARD IS WHAT COUNTS. Prove the row's statement (the work); the ties are given (YtobnhnidffipjaaGreatDoorTie.lean); close each card by the builder's one call (the guide's Derived/Test/ToyasCard.lean, 'card_holds'). Laid BY PROGRAM, IN A SANDBOX (cutbox-door.mjs). By AI agents, Wed Nov 11 2026. No macro, syntax, notation, axiom, sorry.
-/
import Derived.Test.YtobnhnidffipjaaGreatDoorRows
import GoSem.ClaimSeven
namespace Go.Proofs.YtobnhnidffipjaaGreatDoor
namespace Rows

/-- THE TIED CARD OF 'rostrumlaw18.WorldSame'. -/
def worldSameCard : Claim7 := { stood := { row := worldSameRow, standIns := [], harness := (true, "ce8dbcb8414dea68ec9b14fb57c635f0a7514659f037e1c5712eb8525db86c6b"), looks := true }, kinds := [], alts := [], laidByText := true, laidKinds := [.sentinel, .sentinel, .sentinel], laidTests := true, laidLooks := .later }
def WorldSameCardSaid : Prop := Claim7.holds Tryz.pinned (.plain (OpenSpec.ofChange worldSameSpec)) worldSameCard

/-- THE TIED CARD OF 'rostrumlaw18.WorldRefuses'. -/
def worldRefusesCard : Claim7 := { stood := { row := worldRefusesRow, standIns := [], harness := (true, "ce8dbcb8414dea68ec9b14fb57c635f0a7514659f037e1c5712eb8525db86c6b"), looks := true }, kinds := [], alts := [], laidByText := true, laidKinds := [.sentinel, .sentinel, .sentinel], laidTests := true, laidLooks := .later }
def WorldRefusesCardSaid : Prop := Claim7.holds Tryz.pinned (.plain (OpenSpec.ofChange worldRefusesSpec)) worldRefusesCard

/-- THE TIED CARD OF 'rostrumlaw18.WorldSends'. -/
def worldSendsCard : Claim7 := { stood := { row := worldSendsRow, standIns := [], harness := (true, "ce8dbcb8414dea68ec9b14fb57c635f0a7514659f037e1c5712eb8525db86c6b"), looks := true }, kinds := [], alts := [], laidByText := true, laidKinds := [.sentinel, .sentinel, .sentinel], laidTests := true, laidLooks := .later }
def WorldSendsCardSaid : Prop := Claim7.holds Tryz.pinned (.plain (OpenSpec.ofChange worldSendsSpec)) worldSendsCard

/-- THE TIED CARD OF 'rostrumlaw19.PlayRuns'. -/
def playRunsCard : Claim7 := { stood := { row := playRunsRow, standIns := [], harness := (true, "ce8dbcb8414dea68ec9b14fb57c635f0a7514659f037e1c5712eb8525db86c6b"), looks := true }, kinds := [], alts := [], laidByText := true, laidKinds := [.sentinel, .sentinel, .sentinel], laidTests := true, laidLooks := .later }
def PlayRunsCardSaid : Prop := Claim7.holds Tryz.pinned (.plain (OpenSpec.ofChange playRunsSpec)) playRunsCard

/-- THE TIED CARD OF 'rostrumlaw19.PlayNothing'. -/
def playNothingCard : Claim7 := { stood := { row := playNothingRow, standIns := [], harness := (true, "ce8dbcb8414dea68ec9b14fb57c635f0a7514659f037e1c5712eb8525db86c6b"), looks := true }, kinds := [], alts := [], laidByText := true, laidKinds := [.sentinel, .sentinel, .sentinel], laidTests := true, laidLooks := .later }
def PlayNothingCardSaid : Prop := Claim7.holds Tryz.pinned (.plain (OpenSpec.ofChange playNothingSpec)) playNothingCard

/-- THE SECOND FORM's CARD OF 'rostrumlaw18.WorldSame'. -/
def worldSameUptoCard : Claim7 := { stood := { row := worldSameUptoRow, standIns := [], harness := (true, "ce8dbcb8414dea68ec9b14fb57c635f0a7514659f037e1c5712eb8525db86c6b"), looks := true }, kinds := [], alts := [], laidByText := true, laidKinds := [.sentinel, .sentinel, .sentinel], laidTests := true, laidLooks := .later }
def WorldSameUptoCardSaid : Prop := Claim7.holds Tryz.pinned (.plain (OpenSpec.upto worldSameSpec)) worldSameUptoCard

/-- THE SECOND FORM's CARD OF 'rostrumlaw18.WorldRefuses'. -/
def worldRefusesUptoCard : Claim7 := { stood := { row := worldRefusesUptoRow, standIns := [], harness := (true, "ce8dbcb8414dea68ec9b14fb57c635f0a7514659f037e1c5712eb8525db86c6b"), looks := true }, kinds := [], alts := [], laidByText := true, laidKinds := [.sentinel, .sentinel, .sentinel], laidTests := true, laidLooks := .later }
def WorldRefusesUptoCardSaid : Prop := Claim7.holds Tryz.pinned (.plain (OpenSpec.upto worldRefusesSpec)) worldRefusesUptoCard

/-- THE SECOND FORM's CARD OF 'rostrumlaw18.WorldSends'. -/
def worldSendsUptoCard : Claim7 := { stood := { row := worldSendsUptoRow, standIns := [], harness := (true, "ce8dbcb8414dea68ec9b14fb57c635f0a7514659f037e1c5712eb8525db86c6b"), looks := true }, kinds := [], alts := [], laidByText := true, laidKinds := [.sentinel, .sentinel, .sentinel], laidTests := true, laidLooks := .later }
def WorldSendsUptoCardSaid : Prop := Claim7.holds Tryz.pinned (.plain (OpenSpec.upto worldSendsSpec)) worldSendsUptoCard

/-- THE SECOND FORM's CARD OF 'rostrumlaw19.PlayRuns'. -/
def playRunsUptoCard : Claim7 := { stood := { row := playRunsUptoRow, standIns := [], harness := (true, "ce8dbcb8414dea68ec9b14fb57c635f0a7514659f037e1c5712eb8525db86c6b"), looks := true }, kinds := [], alts := [], laidByText := true, laidKinds := [.sentinel, .sentinel, .sentinel], laidTests := true, laidLooks := .later }
def PlayRunsUptoCardSaid : Prop := Claim7.holds Tryz.pinned (.plain (OpenSpec.upto playRunsSpec)) playRunsUptoCard

/-- THE SECOND FORM's CARD OF 'rostrumlaw19.PlayNothing'. -/
def playNothingUptoCard : Claim7 := { stood := { row := playNothingUptoRow, standIns := [], harness := (true, "ce8dbcb8414dea68ec9b14fb57c635f0a7514659f037e1c5712eb8525db86c6b"), looks := true }, kinds := [], alts := [], laidByText := true, laidKinds := [.sentinel, .sentinel, .sentinel], laidTests := true, laidLooks := .later }
def PlayNothingUptoCardSaid : Prop := Claim7.holds Tryz.pinned (.plain (OpenSpec.upto playNothingSpec)) playNothingUptoCard
end Rows
end Go.Proofs.YtobnhnidffipjaaGreatDoor
