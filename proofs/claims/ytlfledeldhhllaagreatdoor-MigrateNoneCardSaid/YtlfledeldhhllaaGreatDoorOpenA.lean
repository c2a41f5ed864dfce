/- HOW ARGUMENTS ARE OPENED: messages by value. No condition. -/
import Derived.Test.YtlfledeldhhllaaGreatDoorOpenM
namespace Go.Proofs.YtlfledeldhhllaaGreatDoor
open Go Go.RowKit Go.ChangeShapes Go.WideShapes Go.ChangeAt Go.Deep
set_option maxRecDepth 100000 in
theorem open_msgsV {H : Type} {enc : TypeId × Value → H} {w : World} {base : Nat} {held : Bool} {b0 : Nat} {v : Value} {d : DataW H} {p : List MemPlace} (hv : Value.okWide Tryz.prog w .any b0 22 v) (h : DataW.Trod enc Tryz.prog w base (fun _ => true) held 22 v d p) :
    ∃ l : List MsgD, MsgsIn w v l ∧ MsgsOk l := by
  obtain ⟨a, n, c, rfl⟩ := Go.WideShapes.okWide_slice Tryz.underlying22 hv
  obtain ⟨fuel, hf⟩ := h
  exact open_msgs hf
end Go.Proofs.YtlfledeldhhllaaGreatDoor
