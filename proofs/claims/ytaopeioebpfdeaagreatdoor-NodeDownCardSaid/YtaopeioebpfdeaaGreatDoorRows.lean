/-
  NARROWER THAN 'FOR EVERY INPUT', by the rows' own cells (each row's printed sentence says how): NodeDown: laid · NodeVotes: laid · NodeCounts: laid · NodeTold: laid · NodeNone: laid.
  DERIVED. THE GIVEN ROWS OF THIS SEAT. 5 by the template 'for every input the law returns true; each argument reads behind the call as it read before'; 0 by the template 'total and deterministic' (their statements: YtaopeioebpfdeaaGreatDoorTotals.lean).
  GIVEN WITH THE SEED: the statements are not yours to turn. If you find one false, say at which input.
  Laid BY PROGRAM, IN A SANDBOX (cutbox-rows.mjs): the forced cells as the released guide's own fill.sh prints them over the translation 7cf5fdba75c6a18a… (all of the seat's roots in one cut). By AI agents, Wed Nov 11 2026. No macro, syntax, notation, axiom, sorry.
-/
import Derived.Test.YtaopeioebpfdeaaGreatDoorChecked
import GoSem.Claim
import GoSem.ClaimJoined
import GoSem.ClaimMapViews
import Derived.JoinedTies
import Derived.KernelRfl
namespace Go.Proofs.YtaopeioebpfdeaaGreatDoor
/- THE CELL 'sum', in the pinned program and in every row, IS THE sha256 OF THE DUMP (.gsa) THAT YtaopeioebpfdeaaGreatDoorProg.lean LOADS. Nothing in Lean hashes anything: it is a label: what it is worth is what the hold of that sum in a sandbox is worth. -/
noncomputable def Tryz.pinned : Pinned := { name := "ytaopeioebpfdeaagreatdoor", sum := "7cf5fdba75c6a18ae2978e3002f626f26d8dcea47fe13290dd2b49bad5a0ab3e", checked := Tryz.checked }
namespace Rows
def none {H : Type} : Left H := { results := [], args := [] }

/- WHAT THE LISTED PACKAGE-LEVEL VARIABLES READ AS WHEN THE CALL BEGINS. Each datum BY PROGRAM (the guide's laid-datum.mjs) off the statement by which the dump's own 'gosem.cut.vars' lays the variable. In a bare row this is a premise. The card (YtaopeioebpfdeaaGreatDoorCards.lean) ties it to the program's text. -/
def laid_rostrum_registry_errTurn {H : Type} : DataW H := .iface "*errors.errorString" (.ptr (.agg [.lit (.string [97, 32, 115, 116, 97, 116, 101, 32, 99, 97, 110, 110, 111, 116, 32, 98, 101, 32, 116, 117, 114, 110, 101, 100])]))

/-- 'rostrumlaw17.NodeDown': WHATEVER THE INPUT: true; the input reads as it did. -/
def nodeDownSpec : ChangeSpec := { name := "nodeDown", fn := fun _ => fun
  | [d1, d2] => { results := [.lit (.bool true)], args := [d1, d2] }
  | _ => none }
def nodeDownRow : OpenClaim := { program := "ytaopeioebpfdeaagreatdoor", sum := "7cf5fdba75c6a18ae2978e3002f626f26d8dcea47fe13290dd2b49bad5a0ab3e", func := "rostrum/rostrumlaw17.NodeDown", spec := "nodeDown", inPlace := ["internal/abi.NoEscape", "internal/bytealg.MakeNoZero", "internal/reflectlite.TypeOf"], unfollowed := true, recurses := true, named := ["rostrum/registry.errTurn"], plainKeys := false, apart := false, laid := [("rostrum/registry.errTurn", laid_rostrum_registry_errTurn)] }
def NodeDownSaid : Prop := nodeDownRow.holds Tryz.pinned (OpenSpec.ofChange nodeDownSpec)

/-- ITS FALSE NEIGHBOUR: 'it returns false'. Refute it at one input. -/
def nodeDownWrong : ChangeSpec := { name := "nodeDown", fn := fun _ => fun
  | [d1, d2] => { results := [.lit (.bool false)], args := [d1, d2] }
  | _ => none }
def NodeDownWrongFalsely : Prop := nodeDownRow.holds Tryz.pinned (OpenSpec.ofChange nodeDownWrong)

/-- 'rostrumlaw17.NodeVotes': WHATEVER THE INPUT: true; the input reads as it did. -/
def nodeVotesSpec : ChangeSpec := { name := "nodeVotes", fn := fun _ => fun
  | [d1, d2, d3] => { results := [.lit (.bool true)], args := [d1, d2, d3] }
  | _ => none }
def nodeVotesRow : OpenClaim := { program := "ytaopeioebpfdeaagreatdoor", sum := "7cf5fdba75c6a18ae2978e3002f626f26d8dcea47fe13290dd2b49bad5a0ab3e", func := "rostrum/rostrumlaw17.NodeVotes", spec := "nodeVotes", inPlace := ["internal/abi.NoEscape", "internal/bytealg.MakeNoZero", "internal/reflectlite.TypeOf"], unfollowed := true, recurses := true, named := ["rostrum/registry.errTurn"], plainKeys := false, apart := false, laid := [("rostrum/registry.errTurn", laid_rostrum_registry_errTurn)] }
def NodeVotesSaid : Prop := nodeVotesRow.holds Tryz.pinned (OpenSpec.ofChange nodeVotesSpec)

/-- ITS FALSE NEIGHBOUR: 'it returns false'. Refute it at one input. -/
def nodeVotesWrong : ChangeSpec := { name := "nodeVotes", fn := fun _ => fun
  | [d1, d2, d3] => { results := [.lit (.bool false)], args := [d1, d2, d3] }
  | _ => none }
def NodeVotesWrongFalsely : Prop := nodeVotesRow.holds Tryz.pinned (OpenSpec.ofChange nodeVotesWrong)

/-- 'rostrumlaw17.NodeCounts': WHATEVER THE INPUT: true; the input reads as it did. -/
def nodeCountsSpec : ChangeSpec := { name := "nodeCounts", fn := fun _ => fun
  | [d] => { results := [.lit (.bool true)], args := [d] }
  | _ => none }
def nodeCountsRow : OpenClaim := { program := "ytaopeioebpfdeaagreatdoor", sum := "7cf5fdba75c6a18ae2978e3002f626f26d8dcea47fe13290dd2b49bad5a0ab3e", func := "rostrum/rostrumlaw17.NodeCounts", spec := "nodeCounts", inPlace := ["internal/abi.NoEscape", "internal/bytealg.MakeNoZero", "internal/reflectlite.TypeOf"], unfollowed := true, recurses := true, named := ["rostrum/registry.errTurn"], plainKeys := false, apart := false, laid := [("rostrum/registry.errTurn", laid_rostrum_registry_errTurn)] }
def NodeCountsSaid : Prop := nodeCountsRow.holds Tryz.pinned (OpenSpec.ofChange nodeCountsSpec)

/-- ITS FALSE NEIGHBOUR: 'it returns false'. Refute it at one input. -/
def nodeCountsWrong : ChangeSpec := { name := "nodeCounts", fn := fun _ => fun
  | [d] => { results := [.lit (.bool false)], args := [d] }
  | _ => none }
def NodeCountsWrongFalsely : Prop := nodeCountsRow.holds Tryz.pinned (OpenSpec.ofChange nodeCountsWrong)

/-- 'rostrumlaw17.NodeTold': WHATEVER THE INPUT: true; the input reads as it did. -/
def nodeToldSpec : ChangeSpec := { name := "nodeTold", fn := fun _ => fun
  | [d1, d2] => { results := [.lit (.bool true)], args := [d1, d2] }
  | _ => none }
def nodeToldRow : OpenClaim := { program := "ytaopeioebpfdeaagreatdoor", sum := "7cf5fdba75c6a18ae2978e3002f626f26d8dcea47fe13290dd2b49bad5a0ab3e", func := "rostrum/rostrumlaw17.NodeTold", spec := "nodeTold", inPlace := ["internal/abi.NoEscape", "internal/bytealg.MakeNoZero", "internal/reflectlite.TypeOf"], unfollowed := true, recurses := true, named := ["rostrum/registry.errTurn"], plainKeys := false, apart := false, laid := [("rostrum/registry.errTurn", laid_rostrum_registry_errTurn)] }
def NodeToldSaid : Prop := nodeToldRow.holds Tryz.pinned (OpenSpec.ofChange nodeToldSpec)

/-- ITS FALSE NEIGHBOUR: 'it returns false'. Refute it at one input. -/
def nodeToldWrong : ChangeSpec := { name := "nodeTold", fn := fun _ => fun
  | [d1, d2] => { results := [.lit (.bool false)], args := [d1, d2] }
  | _ => none }
def NodeToldWrongFalsely : Prop := nodeToldRow.holds Tryz.pinned (OpenSpec.ofChange nodeToldWrong)

/-- 'rostrumlaw17.NodeNone': WHATEVER THE INPUT: true; the input reads as it did. -/
def nodeNoneSpec : ChangeSpec := { name := "nodeNone", fn := fun _ => fun
  | [d] => { results := [.lit (.bool true)], args := [d] }
  | _ => none }
def nodeNoneRow : OpenClaim := { program := "ytaopeioebpfdeaagreatdoor", sum := "7cf5fdba75c6a18ae2978e3002f626f26d8dcea47fe13290dd2b49bad5a0ab3e", func := "rostrum/rostrumlaw17.NodeNone", spec := "nodeNone", inPlace := ["internal/abi.NoEscape", "internal/bytealg.MakeNoZero", "internal/reflectlite.TypeOf"], unfollowed := true, recurses := true, named := ["rostrum/registry.errTurn"], plainKeys := false, apart := false, laid := [("rostrum/registry.errTurn", laid_rostrum_registry_errTurn)] }
def NodeNoneSaid : Prop := nodeNoneRow.holds Tryz.pinned (OpenSpec.ofChange nodeNoneSpec)

/-- ITS FALSE NEIGHBOUR: 'it returns false'. Refute it at one input. -/
def nodeNoneWrong : ChangeSpec := { name := "nodeNone", fn := fun _ => fun
  | [d] => { results := [.lit (.bool false)], args := [d] }
  | _ => none }
def NodeNoneWrongFalsely : Prop := nodeNoneRow.holds Tryz.pinned (OpenSpec.ofChange nodeNoneWrong)

/- THE SECOND FORM. 'bulk': how many values and letters a reading holds, each counted each time it is reached (what is shared counts as often as it is met; a slice's spare places count too). A statement '..UptoSaid' is the law's where the arguments, and the package variables that the reading takes, are together of bulk at most 1048576: NARROWER than '..Said'. Prove '..Said' where nothing that the law and all that it calls make is longer than what came in: it says more and counts as full. Else prove '..UptoSaid'. A law counts once. -/
mutual
def uptoBulk {H : Type} : DataW H → Nat
  | .lit (.string bytes) => bytes.length + 1
  | .lit _ => 1
  | .nil => 1
  | .ptr d => uptoBulk d + 1
  | .slice elems spare => uptoBulkAll elems + uptoBulkAll spare + 1
  | .agg parts => uptoBulkAll parts + 1
  | .iface _ d => uptoBulk d + 1
  | .map entries => uptoBulkEntries entries + 1
  | .held _ => 1
def uptoBulkAll {H : Type} : List (DataW H) → Nat
  | [] => 0
  | d :: r => uptoBulk d + uptoBulkAll r
def uptoBulkEntries {H : Type} : List (Lit × DataW H) → Nat
  | [] => 0
  | x :: r => uptoBulkEntry x + uptoBulkEntries r
def uptoBulkEntry {H : Type} : Lit × DataW H → Nat
  | (.string bytes, d) => bytes.length + uptoBulk d + 1
  | (_, d) => uptoBulk d + 1
 end
def uptoSmall : (H : Type) → List (DataW H) → Bool := fun _ ds => decide (uptoBulkAll ds ≤ 1048576)
def OpenSpec.upto (s : _root_.Go.ChangeSpec) : _root_.Go.OpenSpec := { _root_.Go.OpenSpec.ofChange s with cond := some uptoSmall }

/-- 'rostrumlaw17.NodeDown', WHERE WHAT IT READS IS OF BULK AT MOST 1048576: true; the input reads as it did. -/
def nodeDownUptoRow : OpenClaim := { program := "ytaopeioebpfdeaagreatdoor", sum := "7cf5fdba75c6a18ae2978e3002f626f26d8dcea47fe13290dd2b49bad5a0ab3e", func := "rostrum/rostrumlaw17.NodeDown", spec := "nodeDown", inPlace := ["internal/abi.NoEscape", "internal/bytealg.MakeNoZero", "internal/reflectlite.TypeOf"], unfollowed := true, recurses := true, named := ["rostrum/registry.errTurn"], plainKeys := false, apart := false, laid := [("rostrum/registry.errTurn", laid_rostrum_registry_errTurn)], narrowed := true }
def NodeDownUptoSaid : Prop := nodeDownUptoRow.holds Tryz.pinned (OpenSpec.upto nodeDownSpec)

/-- 'rostrumlaw17.NodeVotes', WHERE WHAT IT READS IS OF BULK AT MOST 1048576: true; the input reads as it did. -/
def nodeVotesUptoRow : OpenClaim := { program := "ytaopeioebpfdeaagreatdoor", sum := "7cf5fdba75c6a18ae2978e3002f626f26d8dcea47fe13290dd2b49bad5a0ab3e", func := "rostrum/rostrumlaw17.NodeVotes", spec := "nodeVotes", inPlace := ["internal/abi.NoEscape", "internal/bytealg.MakeNoZero", "internal/reflectlite.TypeOf"], unfollowed := true, recurses := true, named := ["rostrum/registry.errTurn"], plainKeys := false, apart := false, laid := [("rostrum/registry.errTurn", laid_rostrum_registry_errTurn)], narrowed := true }
def NodeVotesUptoSaid : Prop := nodeVotesUptoRow.holds Tryz.pinned (OpenSpec.upto nodeVotesSpec)

/-- 'rostrumlaw17.NodeCounts', WHERE WHAT IT READS IS OF BULK AT MOST 1048576: true; the input reads as it did. -/
def nodeCountsUptoRow : OpenClaim := { program := "ytaopeioebpfdeaagreatdoor", sum := "7cf5fdba75c6a18ae2978e3002f626f26d8dcea47fe13290dd2b49bad5a0ab3e", func := "rostrum/rostrumlaw17.NodeCounts", spec := "nodeCounts", inPlace := ["internal/abi.NoEscape", "internal/bytealg.MakeNoZero", "internal/reflectlite.TypeOf"], unfollowed := true, recurses := true, named := ["rostrum/registry.errTurn"], plainKeys := false, apart := false, laid := [("rostrum/registry.errTurn", laid_rostrum_registry_errTurn)], narrowed := true }
def NodeCountsUptoSaid : Prop := nodeCountsUptoRow.holds Tryz.pinned (OpenSpec.upto nodeCountsSpec)

/-- 'rostrumlaw17.NodeTold', WHERE WHAT IT READS IS OF BULK AT MOST 1048576: true; the input reads as it did. -/
def nodeToldUptoRow : OpenClaim := { program := "ytaopeioebpfdeaagreatdoor", sum := "7cf5fdba75c6a18ae2978e3002f626f26d8dcea47fe13290dd2b49bad5a0ab3e", func := "rostrum/rostrumlaw17.NodeTold", spec := "nodeTold", inPlace := ["internal/abi.NoEscape", "internal/bytealg.MakeNoZero", "internal/reflectlite.TypeOf"], unfollowed := true, recurses := true, named := ["rostrum/registry.errTurn"], plainKeys := false, apart := false, laid := [("rostrum/registry.errTurn", laid_rostrum_registry_errTurn)], narrowed := true }
def NodeToldUptoSaid : Prop := nodeToldUptoRow.holds Tryz.pinned (OpenSpec.upto nodeToldSpec)

/-- 'rostrumlaw17.NodeNone', WHERE WHAT IT READS IS OF BULK AT MOST 1048576: true; the input reads as it did. -/
def nodeNoneUptoRow : OpenClaim := { program := "ytaopeioebpfdeaagreatdoor", sum := "7cf5fdba75c6a18ae2978e3002f626f26d8dcea47fe13290dd2b49bad5a0ab3e", func := "rostrum/rostrumlaw17.NodeNone", spec := "nodeNone", inPlace := ["internal/abi.NoEscape", "internal/bytealg.MakeNoZero", "internal/reflectlite.TypeOf"], unfollowed := true, recurses := true, named := ["rostrum/registry.errTurn"], plainKeys := false, apart := false, laid := [("rostrum/registry.errTurn", laid_rostrum_registry_errTurn)], narrowed := true }
def NodeNoneUptoSaid : Prop := nodeNoneUptoRow.holds Tryz.pinned (OpenSpec.upto nodeNoneSpec)

end Rows
end Go.Proofs.YtaopeioebpfdeaaGreatDoor
