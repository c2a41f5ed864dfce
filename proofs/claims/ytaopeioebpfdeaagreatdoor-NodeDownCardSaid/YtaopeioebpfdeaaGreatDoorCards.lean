/-
  DERIVED. GIVEN WITH THE SEED: THE CARDS: each row of YtaopeioebpfdeaaGreatDoorRows.lean that lists a variable, with what it lists TIED to the program's text (the seventh form; the later family's looks); each row that meets fmt, with fmt's text TOLD by the authors' own Lean function (tested against real Go, not proved from fmt's source: count such statements apart). THE CARD IS WHAT COUNTS. Prove the row's statement (the work); the ties are given (YtaopeioebpfdeaaGreatDoorTie.lean); close each card by the builder's one call (the guide's Derived/Test/ToyasCard.lean, 'card_holds'). Laid BY PROGRAM, IN A SANDBOX (cutbox-door.mjs). By AI agents, Wed Nov 11 2026. No macro, syntax, notation, axiom, sorry.
-/
import Derived.Test.YtaopeioebpfdeaaGreatDoorRows
import GoSem.ClaimSeven
namespace Go.Proofs.YtaopeioebpfdeaaGreatDoor
namespace Rows

/-- THE TIED CARD OF 'rostrumlaw17.NodeDown'. -/
def nodeDownCard : Claim7 := { stood := { row := nodeDownRow, standIns := [], harness := (true, "a5abdf4218938bc7119ef7d35f9780ad8fb74af7b71fadc8896a0fea468844d9"), looks := true }, kinds := [], alts := [], laidByText := true, laidKinds := [.sentinel], laidTests := true, laidLooks := .later }
def NodeDownCardSaid : Prop := Claim7.holds Tryz.pinned (.plain (OpenSpec.ofChange nodeDownSpec)) nodeDownCard

/-- THE TIED CARD OF 'rostrumlaw17.NodeVotes'. -/
def nodeVotesCard : Claim7 := { stood := { row := nodeVotesRow, standIns := [], harness := (true, "a5abdf4218938bc7119ef7d35f9780ad8fb74af7b71fadc8896a0fea468844d9"), looks := true }, kinds := [], alts := [], laidByText := true, laidKinds := [.sentinel], laidTests := true, laidLooks := .later }
def NodeVotesCardSaid : Prop := Claim7.holds Tryz.pinned (.plain (OpenSpec.ofChange nodeVotesSpec)) nodeVotesCard

/-- THE TIED CARD OF 'rostrumlaw17.NodeCounts'. -/
def nodeCountsCard : Claim7 := { stood := { row := nodeCountsRow, standIns := [], harness := (true, "a5abdf4218938bc7119ef7d35f9780ad8fb74af7b71fadc8896a0fea468844d9"), looks := true }, kinds := [], alts := [], laidByText := true, laidKinds := [.sentinel], laidTests := true, laidLooks := .later }
def NodeCountsCardSaid : Prop := Claim7.holds Tryz.pinned (.plain (OpenSpec.ofChange nodeCountsSpec)) nodeCountsCard

/-- THE TIED CARD OF 'rostrumlaw17.NodeTold'. -/
def nodeToldCard : Claim7 := { stood := { row := nodeToldRow, standIns := [], harness := (true, "a5abdf4218938bc7119ef7d35f9780ad8fb74af7b71fadc8896a0fea468844d9"), looks := true }, kinds := [], alts := [], laidByText := true, laidKinds := [.sentinel], laidTests := true, laidLooks := .later }
def NodeToldCardSaid : Prop := Claim7.holds Tryz.pinned (.plain (OpenSpec.ofChange nodeToldSpec)) nodeToldCard

/-- THE TIED CARD OF 'rostrumlaw17.NodeNone'. -/
def nodeNoneCard : Claim7 := { stood := { row := nodeNoneRow, standIns := [], harness := (true, "a5abdf4218938bc7119ef7d35f9780ad8fb74af7b71fadc8896a0fea468844d9"), looks := true }, kinds := [], alts := [], laidByText := true, laidKinds := [.sentinel], laidTests := true, laidLooks := .later }
def NodeNoneCardSaid : Prop := Claim7.holds Tryz.pinned (.plain (OpenSpec.ofChange nodeNoneSpec)) nodeNoneCard

/-- THE SECOND FORM's CARD OF 'rostrumlaw17.NodeDown'. -/
def nodeDownUptoCard : Claim7 := { stood := { row := nodeDownUptoRow, standIns := [], harness := (true, "a5abdf4218938bc7119ef7d35f9780ad8fb74af7b71fadc8896a0fea468844d9"), looks := true }, kinds := [], alts := [], laidByText := true, laidKinds := [.sentinel], laidTests := true, laidLooks := .later }
def NodeDownUptoCardSaid : Prop := Claim7.holds Tryz.pinned (.plain (OpenSpec.upto nodeDownSpec)) nodeDownUptoCard

/-- THE SECOND FORM's CARD OF 'rostrumlaw17.NodeVotes'. -/
def nodeVotesUptoCard : Claim7 := { stood := { row := nodeVotesUptoRow, standIns := [], harness := (true, "a5abdf4218938bc7119ef7d35f9780ad8fb74af7b71fadc8896a0fea468844d9"), looks := true }, kinds := [], alts := [], laidByText := true, laidKinds := [.sentinel], laidTests := true, laidLooks := .later }
def NodeVotesUptoCardSaid : Prop := Claim7.holds Tryz.pinned (.plain (OpenSpec.upto nodeVotesSpec)) nodeVotesUptoCard

/-- THE SECOND FORM's CARD OF 'rostrumlaw17.NodeCounts'. -/
def nodeCountsUptoCard : Claim7 := { stood := { row := nodeCountsUptoRow, standIns := [], harness := (true, "a5abdf4218938bc7119ef7d35f9780ad8fb74af7b71fadc8896a0fea468844d9"), looks := true }, kinds := [], alts := [], laidByText := true, laidKinds := [.sentinel], laidTests := true, laidLooks := .later }
def NodeCountsUptoCardSaid : Prop := Claim7.holds Tryz.pinned (.plain (OpenSpec.upto nodeCountsSpec)) nodeCountsUptoCard

/-- THE SECOND FORM's CARD OF 'rostrumlaw17.NodeTold'. -/
def nodeToldUptoCard : Claim7 := { stood := { row := nodeToldUptoRow, standIns := [], harness := (true, "a5abdf4218938bc7119ef7d35f9780ad8fb74af7b71fadc8896a0fea468844d9"), looks := true }, kinds := [], alts := [], laidByText := true, laidKinds := [.sentinel], laidTests := true, laidLooks := .later }
def NodeToldUptoCardSaid : Prop := Claim7.holds Tryz.pinned (.plain (OpenSpec.upto nodeToldSpec)) nodeToldUptoCard

/-- THE SECOND FORM's CARD OF 'rostrumlaw17.NodeNone'. -/
def nodeNoneUptoCard : Claim7 := { stood := { row := nodeNoneUptoRow, standIns := [], harness := (true, "a5abdf4218938bc7119ef7d35f9780ad8fb74af7b71fadc8896a0fea468844d9"), looks := true }, kinds := [], alts := [], laidByText := true, laidKinds := [.sentinel], laidTests := true, laidLooks := .later }
def NodeNoneUptoCardSaid : Prop := Claim7.holds Tryz.pinned (.plain (OpenSpec.upto nodeNoneSpec)) nodeNoneUptoCard
end Rows
end Go.Proofs.YtaopeioebpfdeaaGreatDoor
