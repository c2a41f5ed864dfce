/-
  DERIVED. GIVEN WITH THE SEED: THE CARDS: each row of YtlfledeldhhllaaGreatDoorRows.lean that lists a variable, with what it lists TIED to the program's text (the seventh form; the later family's looks); each row that meets fmt, with fmt's text TOLD by the authors' own Lean function (tested against real Go, not proved from fmt's source: count such statements apart). THE CARD IS WHAT COUNTS. Prove the row's statement (the work); the ties are given (YtlfledeldhhllaaGreatDoorTie.lean); close each card by the builder's one call (the guide's Derived/Test/ToyasCard.lean, 'card_holds'). Laid BY PROGRAM, IN A SANDBOX (cutbox-door.mjs). By AI agents, Wed Nov 11 2026. No macro, syntax, notation, axiom, sorry.
-/
import Derived.Test.YtlfledeldhhllaaGreatDoorRows
import GoSem.ClaimSeven
namespace Go.Proofs.YtlfledeldhhllaaGreatDoor
namespace Rows

/-- THE TIED CARD OF 'rostrumlaw15.MigrateQuiet'. -/
def migrateQuietCard : Claim7 := { stood := { row := migrateQuietRow, standIns := [], harness := (true, "beabfd044c09a477719ee5f49e21a95165e8c0539f98013a997d615621870eea"), looks := true }, kinds := [], alts := [], laidByText := true, laidKinds := [.sentinel], laidTests := true, laidLooks := .later }
def MigrateQuietCardSaid : Prop := Claim7.holds Tryz.pinned (.plain (OpenSpec.ofChange migrateQuietSpec)) migrateQuietCard

/-- THE TIED CARD OF 'rostrumlaw15.MigrateTwo'. -/
def migrateTwoCard : Claim7 := { stood := { row := migrateTwoRow, standIns := [], harness := (true, "beabfd044c09a477719ee5f49e21a95165e8c0539f98013a997d615621870eea"), looks := true }, kinds := [], alts := [], laidByText := true, laidKinds := [.sentinel], laidTests := true, laidLooks := .later }
def MigrateTwoCardSaid : Prop := Claim7.holds Tryz.pinned (.plain (OpenSpec.ofChange migrateTwoSpec)) migrateTwoCard

/-- THE TIED CARD OF 'rostrumlaw15.MigrateNone'. -/
def migrateNoneCard : Claim7 := { stood := { row := migrateNoneRow, standIns := [], harness := (true, "beabfd044c09a477719ee5f49e21a95165e8c0539f98013a997d615621870eea"), looks := true }, kinds := [], alts := [], laidByText := true, laidKinds := [.sentinel], laidTests := true, laidLooks := .later }
def MigrateNoneCardSaid : Prop := Claim7.holds Tryz.pinned (.plain (OpenSpec.ofChange migrateNoneSpec)) migrateNoneCard

/-- THE SECOND FORM's CARD OF 'rostrumlaw15.MigrateQuiet'. -/
def migrateQuietUptoCard : Claim7 := { stood := { row := migrateQuietUptoRow, standIns := [], harness := (true, "beabfd044c09a477719ee5f49e21a95165e8c0539f98013a997d615621870eea"), looks := true }, kinds := [], alts := [], laidByText := true, laidKinds := [.sentinel], laidTests := true, laidLooks := .later }
def MigrateQuietUptoCardSaid : Prop := Claim7.holds Tryz.pinned (.plain (OpenSpec.upto migrateQuietSpec)) migrateQuietUptoCard

/-- THE SECOND FORM's CARD OF 'rostrumlaw15.MigrateTwo'. -/
def migrateTwoUptoCard : Claim7 := { stood := { row := migrateTwoUptoRow, standIns := [], harness := (true, "beabfd044c09a477719ee5f49e21a95165e8c0539f98013a997d615621870eea"), looks := true }, kinds := [], alts := [], laidByText := true, laidKinds := [.sentinel], laidTests := true, laidLooks := .later }
def MigrateTwoUptoCardSaid : Prop := Claim7.holds Tryz.pinned (.plain (OpenSpec.upto migrateTwoSpec)) migrateTwoUptoCard

/-- THE SECOND FORM's CARD OF 'rostrumlaw15.MigrateNone'. -/
def migrateNoneUptoCard : Claim7 := { stood := { row := migrateNoneUptoRow, standIns := [], harness := (true, "beabfd044c09a477719ee5f49e21a95165e8c0539f98013a997d615621870eea"), looks := true }, kinds := [], alts := [], laidByText := true, laidKinds := [.sentinel], laidTests := true, laidLooks := .later }
def MigrateNoneUptoCardSaid : Prop := Claim7.holds Tryz.pinned (.plain (OpenSpec.upto migrateNoneSpec)) migrateNoneUptoCard
end Rows
end Go.Proofs.YtlfledeldhhllaaGreatDoor
