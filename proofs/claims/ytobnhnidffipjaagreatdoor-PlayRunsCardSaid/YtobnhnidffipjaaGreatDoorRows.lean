/-
  NARROWER THAN 'FOR EVERY INPUT', by the rows' own cells (each row's printed sentence says how): WorldSame: laid · WorldRefuses: laid · WorldSends: laid · PlayRuns: laid · PlayNothing: laid.
  DERIVED. THE GIVEN ROWS OF THIS SEAT. 5 by the template 'for every input the law returns true; each argument reads behind the call as it read before'; 0 by the template 'total and deterministic' (their statements: YtobnhnidffipjaaGreatDoorTotals.lean).
  GIVEN WITH THE SEED: the statements are not yours to turn. If you find one false, say at which input.
  Laid BY PROGRAM, IN A SANDBOX (cutbox-rows.mjs): the forced cells as the released guide's own fill.sh prints them over the translation 6452015f65cb31ac… (all of the seat's roots in one cut). By AI agents, Wed Nov 11 2026. No macro, syntax, notation, axiom, sorry.
-/
import Derived.Test.YtobnhnidffipjaaGreatDoorChecked
import GoSem.Claim
import GoSem.ClaimJoined
import GoSem.ClaimMapViews
import Derived.JoinedTies
import Derived.KernelRfl
namespace Go.Proofs.YtobnhnidffipjaaGreatDoor
/- THE CELL 'sum', in the pinned program and in every row, IS THE sha256 OF THE DUMP (.gsa) THAT YtobnhnidffipjaaGreatDoorProg.lean LOADS. Nothing in Lean hashes anything: it is a label: what it is worth is what the hold of that sum in a sandbox is worth. -/
noncomputable def Tryz.pinned : Pinned := { name := "ytobnhnidffipjaagreatdoor", sum := "6452015f65cb31ac9d5ae8388c12939aa3a7eda4cd05ce3e7d4d5e4cdd38b34c", checked := Tryz.checked }
namespace Rows
def none {H : Type} : Left H := { results := [], args := [] }

/- WHAT THE LISTED PACKAGE-LEVEL VARIABLES READ AS WHEN THE CALL BEGINS. Each datum BY PROGRAM (the guide's laid-datum.mjs) off the statement by which the dump's own 'gosem.cut.vars' lays the variable. In a bare row this is a premise. The card (YtobnhnidffipjaaGreatDoorCards.lean) ties it to the program's text. -/
def laid_rostrum_frame_errFrame {H : Type} : DataW H := .iface "*errors.errorString" (.ptr (.agg [.lit (.string [110, 111, 32, 102, 114, 97, 109, 101])]))
def laid_rostrum_frame_errOld {H : Type} : DataW H := .iface "*errors.errorString" (.ptr (.agg [.lit (.string [110, 111, 32, 118, 101, 114, 115, 105, 111, 110, 32, 111, 102, 32, 116, 104, 101, 32, 119, 105, 114, 101])]))
def laid_rostrum_registry_errTurn {H : Type} : DataW H := .iface "*errors.errorString" (.ptr (.agg [.lit (.string [97, 32, 115, 116, 97, 116, 101, 32, 99, 97, 110, 110, 111, 116, 32, 98, 101, 32, 116, 117, 114, 110, 101, 100])]))

/-- 'rostrumlaw18.WorldSame': WHATEVER THE INPUT: true; the input reads as it did. -/
def worldSameSpec : ChangeSpec := { name := "worldSame", fn := fun _ => fun
  | [d1, d2, d3, d4] => { results := [.lit (.bool true)], args := [d1, d2, d3, d4] }
  | _ => none }
def worldSameRow : OpenClaim := { program := "ytobnhnidffipjaagreatdoor", sum := "6452015f65cb31ac9d5ae8388c12939aa3a7eda4cd05ce3e7d4d5e4cdd38b34c", func := "rostrum/rostrumlaw18.WorldSame", spec := "worldSame", inPlace := ["internal/abi.NoEscape", "internal/bytealg.MakeNoZero", "internal/reflectlite.TypeOf"], unfollowed := true, recurses := true, named := ["rostrum/registry.errTurn", "rostrum/frame.errFrame", "rostrum/frame.errOld"], plainKeys := false, apart := false, laid := [("rostrum/frame.errFrame", laid_rostrum_frame_errFrame), ("rostrum/frame.errOld", laid_rostrum_frame_errOld), ("rostrum/registry.errTurn", laid_rostrum_registry_errTurn)] }
def WorldSameSaid : Prop := worldSameRow.holds Tryz.pinned (OpenSpec.ofChange worldSameSpec)

/-- ITS FALSE NEIGHBOUR: 'it returns false'. Refute it at one input. -/
def worldSameWrong : ChangeSpec := { name := "worldSame", fn := fun _ => fun
  | [d1, d2, d3, d4] => { results := [.lit (.bool false)], args := [d1, d2, d3, d4] }
  | _ => none }
def WorldSameWrongFalsely : Prop := worldSameRow.holds Tryz.pinned (OpenSpec.ofChange worldSameWrong)

/-- 'rostrumlaw18.WorldRefuses': WHATEVER THE INPUT: true; the input reads as it did. -/
def worldRefusesSpec : ChangeSpec := { name := "worldRefuses", fn := fun _ => fun
  | [d] => { results := [.lit (.bool true)], args := [d] }
  | _ => none }
def worldRefusesRow : OpenClaim := { program := "ytobnhnidffipjaagreatdoor", sum := "6452015f65cb31ac9d5ae8388c12939aa3a7eda4cd05ce3e7d4d5e4cdd38b34c", func := "rostrum/rostrumlaw18.WorldRefuses", spec := "worldRefuses", inPlace := ["internal/abi.NoEscape", "internal/bytealg.MakeNoZero", "internal/reflectlite.TypeOf"], unfollowed := true, recurses := true, named := ["rostrum/registry.errTurn", "rostrum/frame.errFrame", "rostrum/frame.errOld"], plainKeys := false, apart := false, laid := [("rostrum/frame.errFrame", laid_rostrum_frame_errFrame), ("rostrum/frame.errOld", laid_rostrum_frame_errOld), ("rostrum/registry.errTurn", laid_rostrum_registry_errTurn)] }
def WorldRefusesSaid : Prop := worldRefusesRow.holds Tryz.pinned (OpenSpec.ofChange worldRefusesSpec)

/-- ITS FALSE NEIGHBOUR: 'it returns false'. Refute it at one input. -/
def worldRefusesWrong : ChangeSpec := { name := "worldRefuses", fn := fun _ => fun
  | [d] => { results := [.lit (.bool false)], args := [d] }
  | _ => none }
def WorldRefusesWrongFalsely : Prop := worldRefusesRow.holds Tryz.pinned (OpenSpec.ofChange worldRefusesWrong)

/-- 'rostrumlaw18.WorldSends': WHATEVER THE INPUT: true; the input reads as it did. -/
def worldSendsSpec : ChangeSpec := { name := "worldSends", fn := fun _ => fun
  | [d1, d2] => { results := [.lit (.bool true)], args := [d1, d2] }
  | _ => none }
def worldSendsRow : OpenClaim := { program := "ytobnhnidffipjaagreatdoor", sum := "6452015f65cb31ac9d5ae8388c12939aa3a7eda4cd05ce3e7d4d5e4cdd38b34c", func := "rostrum/rostrumlaw18.WorldSends", spec := "worldSends", inPlace := ["internal/abi.NoEscape", "internal/bytealg.MakeNoZero", "internal/reflectlite.TypeOf"], unfollowed := true, recurses := true, named := ["rostrum/registry.errTurn", "rostrum/frame.errFrame", "rostrum/frame.errOld"], plainKeys := false, apart := false, laid := [("rostrum/frame.errFrame", laid_rostrum_frame_errFrame), ("rostrum/frame.errOld", laid_rostrum_frame_errOld), ("rostrum/registry.errTurn", laid_rostrum_registry_errTurn)] }
def WorldSendsSaid : Prop := worldSendsRow.holds Tryz.pinned (OpenSpec.ofChange worldSendsSpec)

/-- ITS FALSE NEIGHBOUR: 'it returns false'. Refute it at one input. -/
def worldSendsWrong : ChangeSpec := { name := "worldSends", fn := fun _ => fun
  | [d1, d2] => { results := [.lit (.bool false)], args := [d1, d2] }
  | _ => none }
def WorldSendsWrongFalsely : Prop := worldSendsRow.holds Tryz.pinned (OpenSpec.ofChange worldSendsWrong)

/-- 'rostrumlaw19.PlayRuns': WHATEVER THE INPUT: true; the input reads as it did. -/
def playRunsSpec : ChangeSpec := { name := "playRuns", fn := fun _ => fun
  | [d1, d2, d3] => { results := [.lit (.bool true)], args := [d1, d2, d3] }
  | _ => none }
def playRunsRow : OpenClaim := { program := "ytobnhnidffipjaagreatdoor", sum := "6452015f65cb31ac9d5ae8388c12939aa3a7eda4cd05ce3e7d4d5e4cdd38b34c", func := "rostrum/rostrumlaw19.PlayRuns", spec := "playRuns", inPlace := ["internal/abi.NoEscape", "internal/bytealg.MakeNoZero", "internal/reflectlite.TypeOf"], unfollowed := true, recurses := true, named := ["rostrum/registry.errTurn", "rostrum/frame.errFrame", "rostrum/frame.errOld"], plainKeys := false, apart := false, laid := [("rostrum/frame.errFrame", laid_rostrum_frame_errFrame), ("rostrum/frame.errOld", laid_rostrum_frame_errOld), ("rostrum/registry.errTurn", laid_rostrum_registry_errTurn)] }
def PlayRunsSaid : Prop := playRunsRow.holds Tryz.pinned (OpenSpec.ofChange playRunsSpec)

/-- ITS FALSE NEIGHBOUR: 'it returns false'. Refute it at one input. -/
def playRunsWrong : ChangeSpec := { name := "playRuns", fn := fun _ => fun
  | [d1, d2, d3] => { results := [.lit (.bool false)], args := [d1, d2, d3] }
  | _ => none }
def PlayRunsWrongFalsely : Prop := playRunsRow.holds Tryz.pinned (OpenSpec.ofChange playRunsWrong)

/-- 'rostrumlaw19.PlayNothing': WHATEVER THE INPUT: true; the input reads as it did. -/
def playNothingSpec : ChangeSpec := { name := "playNothing", fn := fun _ => fun
  | [d1, d2] => { results := [.lit (.bool true)], args := [d1, d2] }
  | _ => none }
def playNothingRow : OpenClaim := { program := "ytobnhnidffipjaagreatdoor", sum := "6452015f65cb31ac9d5ae8388c12939aa3a7eda4cd05ce3e7d4d5e4cdd38b34c", func := "rostrum/rostrumlaw19.PlayNothing", spec := "playNothing", inPlace := ["internal/abi.NoEscape", "internal/bytealg.MakeNoZero", "internal/reflectlite.TypeOf"], unfollowed := true, recurses := true, named := ["rostrum/registry.errTurn", "rostrum/frame.errFrame", "rostrum/frame.errOld"], plainKeys := false, apart := false, laid := [("rostrum/frame.errFrame", laid_rostrum_frame_errFrame), ("rostrum/frame.errOld", laid_rostrum_frame_errOld), ("rostrum/registry.errTurn", laid_rostrum_registry_errTurn)] }
def PlayNothingSaid : Prop := playNothingRow.holds Tryz.pinned (OpenSpec.ofChange playNothingSpec)

/-- ITS FALSE NEIGHBOUR: 'it returns false'. Refute it at one input. -/
def playNothingWrong : ChangeSpec := { name := "playNothing", fn := fun _ => fun
  | [d1, d2] => { results := [.lit (.bool false)], args := [d1, d2] }
  | _ => none }
def PlayNothingWrongFalsely : Prop := playNothingRow.holds Tryz.pinned (OpenSpec.ofChange playNothingWrong)

/- THE SECOND FORM. 'bulk': how many values and letters a reading holds, each counted each time it is reached (what is shared counts as often as it is met; a slice's spare places count too). A statement '..UptoSaid' is the law's where the arguments, and the package variables that the reading takes, are together of bulk at most 1048576: NARROWER than '..Said'. Prove '..Said' where nothing that the law and all that it calls make is longer than what came in: it says more and counts as full. Else prove '..UptoSaid'. A law counts once. -/
mutual
def uptoBulk {H : Type} : DataW H → Nat
  | .lit (.string bytes) => bytes.length + 1
  | .lit _ => 1
  | .nil => 1
  | .ptr d => uptoBulk d + 1
  | .slice elems spare => uptoBulkAll elems + uptoBulkAll spare + 1
  | .agg parts => uptoBulkAll parts + 1
  | .iface _ d => uptoBulk d + 1
  | .map entries => uptoBulkEntries entries + 1
  | .held _ => 1
def uptoBulkAll {H : Type} : List (DataW H) → Nat
  | [] => 0
  | d :: r => uptoBulk d + uptoBulkAll r
def uptoBulkEntries {H : Type} : List (Lit × DataW H) → Nat
  | [] => 0
  | x :: r => uptoBulkEntry x + uptoBulkEntries r
def uptoBulkEntry {H : Type} : Lit × DataW H → Nat
  | (.string bytes, d) => bytes.length + uptoBulk d + 1
  | (_, d) => uptoBulk d + 1
 end
def uptoSmall : (H : Type) → List (DataW H) → Bool := fun _ ds => decide (uptoBulkAll ds ≤ 1048576)
def OpenSpec.upto (s : _root_.Go.ChangeSpec) : _root_.Go.OpenSpec := { _root_.Go.OpenSpec.ofChange s with cond := some uptoSmall }

/-- 'rostrumlaw18.WorldSame', WHERE WHAT IT READS IS OF BULK AT MOST 1048576: true; the input reads as it did. -/
def worldSameUptoRow : OpenClaim := { program := "ytobnhnidffipjaagreatdoor", sum := "6452015f65cb31ac9d5ae8388c12939aa3a7eda4cd05ce3e7d4d5e4cdd38b34c", func := "rostrum/rostrumlaw18.WorldSame", spec := "worldSame", inPlace := ["internal/abi.NoEscape", "internal/bytealg.MakeNoZero", "internal/reflectlite.TypeOf"], unfollowed := true, recurses := true, named := ["rostrum/registry.errTurn", "rostrum/frame.errFrame", "rostrum/frame.errOld"], plainKeys := false, apart := false, laid := [("rostrum/frame.errFrame", laid_rostrum_frame_errFrame), ("rostrum/frame.errOld", laid_rostrum_frame_errOld), ("rostrum/registry.errTurn", laid_rostrum_registry_errTurn)], narrowed := true }
def WorldSameUptoSaid : Prop := worldSameUptoRow.holds Tryz.pinned (OpenSpec.upto worldSameSpec)

/-- 'rostrumlaw18.WorldRefuses', WHERE WHAT IT READS IS OF BULK AT MOST 1048576: true; the input reads as it did. -/
def worldRefusesUptoRow : OpenClaim := { program := "ytobnhnidffipjaagreatdoor", sum := "6452015f65cb31ac9d5ae8388c12939aa3a7eda4cd05ce3e7d4d5e4cdd38b34c", func := "rostrum/rostrumlaw18.WorldRefuses", spec := "worldRefuses", inPlace := ["internal/abi.NoEscape", "internal/bytealg.MakeNoZero", "internal/reflectlite.TypeOf"], unfollowed := true, recurses := true, named := ["rostrum/registry.errTurn", "rostrum/frame.errFrame", "rostrum/frame.errOld"], plainKeys := false, apart := false, laid := [("rostrum/frame.errFrame", laid_rostrum_frame_errFrame), ("rostrum/frame.errOld", laid_rostrum_frame_errOld), ("rostrum/registry.errTurn", laid_rostrum_registry_errTurn)], narrowed := true }
def WorldRefusesUptoSaid : Prop := worldRefusesUptoRow.holds Tryz.pinned (OpenSpec.upto worldRefusesSpec)

/-- 'rostrumlaw18.WorldSends', WHERE WHAT IT READS IS OF BULK AT MOST 1048576: true; the input reads as it did. -/
def worldSendsUptoRow : OpenClaim := { program := "ytobnhnidffipjaagreatdoor", sum := "6452015f65cb31ac9d5ae8388c12939aa3a7eda4cd05ce3e7d4d5e4cdd38b34c", func := "rostrum/rostrumlaw18.WorldSends", spec := "worldSends", inPlace := ["internal/abi.NoEscape", "internal/bytealg.MakeNoZero", "internal/reflectlite.TypeOf"], unfollowed := true, recurses := true, named := ["rostrum/registry.errTurn", "rostrum/frame.errFrame", "rostrum/frame.errOld"], plainKeys := false, apart := false, laid := [("rostrum/frame.errFrame", laid_rostrum_frame_errFrame), ("rostrum/frame.errOld", laid_rostrum_frame_errOld), ("rostrum/registry.errTurn", laid_rostrum_registry_errTurn)], narrowed := true }
def WorldSendsUptoSaid : Prop := worldSendsUptoRow.holds Tryz.pinned (OpenSpec.upto worldSendsSpec)

/-- 'rostrumlaw19.PlayRuns', WHERE WHAT IT READS IS OF BULK AT MOST 1048576: true; the input reads as it did. -/
def playRunsUptoRow : OpenClaim := { program := "ytobnhnidffipjaagreatdoor", sum := "6452015f65cb31ac9d5ae8388c12939aa3a7eda4cd05ce3e7d4d5e4cdd38b34c", func := "rostrum/rostrumlaw19.PlayRuns", spec := "playRuns", inPlace := ["internal/abi.NoEscape", "internal/bytealg.MakeNoZero", "internal/reflectlite.TypeOf"], unfollowed := true, recurses := true, named := ["rostrum/registry.errTurn", "rostrum/frame.errFrame", "rostrum/frame.errOld"], plainKeys := false, apart := false, laid := [("rostrum/frame.errFrame", laid_rostrum_frame_errFrame), ("rostrum/frame.errOld", laid_rostrum_frame_errOld), ("rostrum/registry.errTurn", laid_rostrum_registry_errTurn)], narrowed := true }
def PlayRunsUptoSaid : Prop := playRunsUptoRow.holds Tryz.pinned (OpenSpec.upto playRunsSpec)

/-- 'rostrumlaw19.PlayNothing', WHERE WHAT IT READS IS OF BULK AT MOST 1048576: true; the input reads as it did. -/
def playNothingUptoRow : OpenClaim := { program := "ytobnhnidffipjaagreatdoor", sum := "6452015f65cb31ac9d5ae8388c12939aa3a7eda4cd05ce3e7d4d5e4cdd38b34c", func := "rostrum/rostrumlaw19.PlayNothing", spec := "playNothing", inPlace := ["internal/abi.NoEscape", "internal/bytealg.MakeNoZero", "internal/reflectlite.TypeOf"], unfollowed := true, recurses := true, named := ["rostrum/registry.errTurn", "rostrum/frame.errFrame", "rostrum/frame.errOld"], plainKeys := false, apart := false, laid := [("rostrum/frame.errFrame", laid_rostrum_frame_errFrame), ("rostrum/frame.errOld", laid_rostrum_frame_errOld), ("rostrum/registry.errTurn", laid_rostrum_registry_errTurn)], narrowed := true }
def PlayNothingUptoSaid : Prop := playNothingUptoRow.holds Tryz.pinned (OpenSpec.upto playNothingSpec)

end Rows
end Go.Proofs.YtobnhnidffipjaaGreatDoor
