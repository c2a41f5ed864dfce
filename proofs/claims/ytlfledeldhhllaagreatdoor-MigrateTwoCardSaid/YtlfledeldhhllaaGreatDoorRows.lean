/-
  NARROWER THAN 'FOR EVERY INPUT', by the rows' own cells (each row's printed sentence says how): MigrateQuiet: laid · MigrateTwo: laid · MigrateNone: laid.
  DERIVED. THE GIVEN ROWS OF THIS SEAT. 3 by the template 'for every input the law returns true; each argument reads behind the call as it read before'; 0 by the template 'total and deterministic' (their statements: YtlfledeldhhllaaGreatDoorTotals.lean).
  GIVEN WITH THE SEED: the statements are not yours to turn. If you find one false, say at which input.
  Laid BY PROGRAM, IN A SANDBOX (cutbox-rows.mjs): the forced cells as the released guide's own fill.sh prints them over the translation a773402587f8dabe… (all of the seat's roots in one cut). By AI agents, Wed Nov 11 2026. No macro, syntax, notation, axiom, sorry.
-/
import Derived.Test.YtlfledeldhhllaaGreatDoorChecked
import GoSem.Claim
import GoSem.ClaimJoined
import GoSem.ClaimMapViews
import Derived.JoinedTies
import Derived.KernelRfl
namespace Go.Proofs.YtlfledeldhhllaaGreatDoor
/- THE CELL 'sum', in the pinned program and in every row, IS THE sha256 OF THE DUMP (.gsa) THAT YtlfledeldhhllaaGreatDoorProg.lean LOADS. Nothing in Lean hashes anything: it is a label: what it is worth is what the hold of that sum in a sandbox is worth. -/
noncomputable def Tryz.pinned : Pinned := { name := "ytlfledeldhhllaagreatdoor", sum := "a773402587f8dabed9218e46bf318ce13482a4bfeab2ed8095e44f0986b9e264", checked := Tryz.checked }
namespace Rows
def none {H : Type} : Left H := { results := [], args := [] }

/- WHAT THE LISTED PACKAGE-LEVEL VARIABLES READ AS WHEN THE CALL BEGINS. Each datum BY PROGRAM (the guide's laid-datum.mjs) off the statement by which the dump's own 'gosem.cut.vars' lays the variable. In a bare row this is a premise. The card (YtlfledeldhhllaaGreatDoorCards.lean) ties it to the program's text. -/
def laid_rostrum_registry_errTurn {H : Type} : DataW H := .iface "*errors.errorString" (.ptr (.agg [.lit (.string [97, 32, 115, 116, 97, 116, 101, 32, 99, 97, 110, 110, 111, 116, 32, 98, 101, 32, 116, 117, 114, 110, 101, 100])]))

/-- 'rostrumlaw15.MigrateQuiet': WHATEVER THE INPUT: true; the input reads as it did. -/
def migrateQuietSpec : ChangeSpec := { name := "migrateQuiet", fn := fun _ => fun
  | [d1, d2, d3] => { results := [.lit (.bool true)], args := [d1, d2, d3] }
  | _ => none }
def migrateQuietRow : OpenClaim := { program := "ytlfledeldhhllaagreatdoor", sum := "a773402587f8dabed9218e46bf318ce13482a4bfeab2ed8095e44f0986b9e264", func := "rostrum/rostrumlaw15.MigrateQuiet", spec := "migrateQuiet", inPlace := ["internal/abi.NoEscape", "internal/bytealg.MakeNoZero", "internal/reflectlite.TypeOf"], unfollowed := true, recurses := true, named := ["rostrum/registry.errTurn"], plainKeys := false, apart := false, laid := [("rostrum/registry.errTurn", laid_rostrum_registry_errTurn)] }
def MigrateQuietSaid : Prop := migrateQuietRow.holds Tryz.pinned (OpenSpec.ofChange migrateQuietSpec)

/-- ITS FALSE NEIGHBOUR: 'it returns false'. Refute it at one input. -/
def migrateQuietWrong : ChangeSpec := { name := "migrateQuiet", fn := fun _ => fun
  | [d1, d2, d3] => { results := [.lit (.bool false)], args := [d1, d2, d3] }
  | _ => none }
def MigrateQuietWrongFalsely : Prop := migrateQuietRow.holds Tryz.pinned (OpenSpec.ofChange migrateQuietWrong)

/-- 'rostrumlaw15.MigrateTwo': WHATEVER THE INPUT: true; the input reads as it did. -/
def migrateTwoSpec : ChangeSpec := { name := "migrateTwo", fn := fun _ => fun
  | [d1, d2, d3] => { results := [.lit (.bool true)], args := [d1, d2, d3] }
  | _ => none }
def migrateTwoRow : OpenClaim := { program := "ytlfledeldhhllaagreatdoor", sum := "a773402587f8dabed9218e46bf318ce13482a4bfeab2ed8095e44f0986b9e264", func := "rostrum/rostrumlaw15.MigrateTwo", spec := "migrateTwo", inPlace := ["internal/abi.NoEscape", "internal/bytealg.MakeNoZero", "internal/reflectlite.TypeOf"], unfollowed := true, recurses := true, named := ["rostrum/registry.errTurn"], plainKeys := false, apart := false, laid := [("rostrum/registry.errTurn", laid_rostrum_registry_errTurn)] }
def MigrateTwoSaid : Prop := migrateTwoRow.holds Tryz.pinned (OpenSpec.ofChange migrateTwoSpec)

/-- ITS FALSE NEIGHBOUR: 'it returns false'. Refute it at one input. -/
def migrateTwoWrong : ChangeSpec := { name := "migrateTwo", fn := fun _ => fun
  | [d1, d2, d3] => { results := [.lit (.bool false)], args := [d1, d2, d3] }
  | _ => none }
def MigrateTwoWrongFalsely : Prop := migrateTwoRow.holds Tryz.pinned (OpenSpec.ofChange migrateTwoWrong)

/-- 'rostrumlaw15.MigrateNone': WHATEVER THE INPUT: true; the input reads as it did. -/
def migrateNoneSpec : ChangeSpec := { name := "migrateNone", fn := fun _ => fun
  | [d] => { results := [.lit (.bool true)], args := [d] }
  | _ => none }
def migrateNoneRow : OpenClaim := { program := "ytlfledeldhhllaagreatdoor", sum := "a773402587f8dabed9218e46bf318ce13482a4bfeab2ed8095e44f0986b9e264", func := "rostrum/rostrumlaw15.MigrateNone", spec := "migrateNone", inPlace := ["internal/abi.NoEscape", "internal/bytealg.MakeNoZero", "internal/reflectlite.TypeOf"], unfollowed := true, recurses := true, named := ["rostrum/registry.errTurn"], plainKeys := false, apart := false, laid := [("rostrum/registry.errTurn", laid_rostrum_registry_errTurn)] }
def MigrateNoneSaid : Prop := migrateNoneRow.holds Tryz.pinned (OpenSpec.ofChange migrateNoneSpec)

/-- ITS FALSE NEIGHBOUR: 'it returns false'. Refute it at one input. -/
def migrateNoneWrong : ChangeSpec := { name := "migrateNone", fn := fun _ => fun
  | [d] => { results := [.lit (.bool false)], args := [d] }
  | _ => none }
def MigrateNoneWrongFalsely : Prop := migrateNoneRow.holds Tryz.pinned (OpenSpec.ofChange migrateNoneWrong)

/- THE SECOND FORM. 'bulk': how many values and letters a reading holds, each counted each time it is reached (what is shared counts as often as it is met; a slice's spare places count too). A statement '..UptoSaid' is the law's where the arguments, and the package variables that the reading takes, are together of bulk at most 1048576: NARROWER than '..Said'. Prove '..Said' where nothing that the law and all that it calls make is longer than what came in: it says more and counts as full. Else prove '..UptoSaid'. A law counts once. -/
mutual
def uptoBulk {H : Type} : DataW H → Nat
  | .lit (.string bytes) => bytes.length + 1
  | .lit _ => 1
  | .nil => 1
  | .ptr d => uptoBulk d + 1
  | .slice elems spare => uptoBulkAll elems + uptoBulkAll spare + 1
  | .agg parts => uptoBulkAll parts + 1
  | .iface _ d => uptoBulk d + 1
  | .map entries => uptoBulkEntries entries + 1
  | .held _ => 1
def uptoBulkAll {H : Type} : List (DataW H) → Nat
  | [] => 0
  | d :: r => uptoBulk d + uptoBulkAll r
def uptoBulkEntries {H : Type} : List (Lit × DataW H) → Nat
  | [] => 0
  | x :: r => uptoBulkEntry x + uptoBulkEntries r
def uptoBulkEntry {H : Type} : Lit × DataW H → Nat
  | (.string bytes, d) => bytes.length + uptoBulk d + 1
  | (_, d) => uptoBulk d + 1
 end
def uptoSmall : (H : Type) → List (DataW H) → Bool := fun _ ds => decide (uptoBulkAll ds ≤ 1048576)
def OpenSpec.upto (s : _root_.Go.ChangeSpec) : _root_.Go.OpenSpec := { _root_.Go.OpenSpec.ofChange s with cond := some uptoSmall }

/-- 'rostrumlaw15.MigrateQuiet', WHERE WHAT IT READS IS OF BULK AT MOST 1048576: true; the input reads as it did. -/
def migrateQuietUptoRow : OpenClaim := { program := "ytlfledeldhhllaagreatdoor", sum := "a773402587f8dabed9218e46bf318ce13482a4bfeab2ed8095e44f0986b9e264", func := "rostrum/rostrumlaw15.MigrateQuiet", spec := "migrateQuiet", inPlace := ["internal/abi.NoEscape", "internal/bytealg.MakeNoZero", "internal/reflectlite.TypeOf"], unfollowed := true, recurses := true, named := ["rostrum/registry.errTurn"], plainKeys := false, apart := false, laid := [("rostrum/registry.errTurn", laid_rostrum_registry_errTurn)], narrowed := true }
def MigrateQuietUptoSaid : Prop := migrateQuietUptoRow.holds Tryz.pinned (OpenSpec.upto migrateQuietSpec)

/-- 'rostrumlaw15.MigrateTwo', WHERE WHAT IT READS IS OF BULK AT MOST 1048576: true; the input reads as it did. -/
def migrateTwoUptoRow : OpenClaim := { program := "ytlfledeldhhllaagreatdoor", sum := "a773402587f8dabed9218e46bf318ce13482a4bfeab2ed8095e44f0986b9e264", func := "rostrum/rostrumlaw15.MigrateTwo", spec := "migrateTwo", inPlace := ["internal/abi.NoEscape", "internal/bytealg.MakeNoZero", "internal/reflectlite.TypeOf"], unfollowed := true, recurses := true, named := ["rostrum/registry.errTurn"], plainKeys := false, apart := false, laid := [("rostrum/registry.errTurn", laid_rostrum_registry_errTurn)], narrowed := true }
def MigrateTwoUptoSaid : Prop := migrateTwoUptoRow.holds Tryz.pinned (OpenSpec.upto migrateTwoSpec)

/-- 'rostrumlaw15.MigrateNone', WHERE WHAT IT READS IS OF BULK AT MOST 1048576: true; the input reads as it did. -/
def migrateNoneUptoRow : OpenClaim := { program := "ytlfledeldhhllaagreatdoor", sum := "a773402587f8dabed9218e46bf318ce13482a4bfeab2ed8095e44f0986b9e264", func := "rostrum/rostrumlaw15.MigrateNone", spec := "migrateNone", inPlace := ["internal/abi.NoEscape", "internal/bytealg.MakeNoZero", "internal/reflectlite.TypeOf"], unfollowed := true, recurses := true, named := ["rostrum/registry.errTurn"], plainKeys := false, apart := false, laid := [("rostrum/registry.errTurn", laid_rostrum_registry_errTurn)], narrowed := true }
def MigrateNoneUptoSaid : Prop := migrateNoneUptoRow.holds Tryz.pinned (OpenSpec.upto migrateNoneSpec)

end Rows
end Go.Proofs.YtlfledeldhhllaaGreatDoor
