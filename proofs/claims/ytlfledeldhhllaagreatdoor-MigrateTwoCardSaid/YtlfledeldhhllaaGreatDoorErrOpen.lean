/- WHAT THE STATEMENTS WITH THE REGISTRY's ERROR SHARE: what the listed variable gives a walk; a world for the witness. No condition. -/
import Derived.Test.YtlfledeldhhllaaGreatDoorCards
import Derived.Test.YtlfledeldhhllaaGreatDoorTie
import Derived.Test.YtlfledeldhhllaaGreatDoorLaw
import Derived.Test.YtlfledeldhhllaaGreatDoorRgA
import Derived.OpenShut
import Derived.Deep.DeepHandedRow
import Derived.Deep.DeepWitnessRowRef
import Derived.Stop.LaidErr
import Derived.Lib.SmallJoins
namespace Go.Proofs.YtlfledeldhhllaaGreatDoor
open Go Go.RowKit Go.ChangeShapes Go.WideShapes Go.ChangeAt

theorem own : ownKnob Tryz.prog.godebug = none := by kernel_rfl
theorem laidOut : laidOutB Tryz.prog = true := by kernel_rfl
theorem gErr : Tryz.prog.globalNamed "rostrum/registry.errTurn" = some 0 := by kernel_rfl
theorem gErrType : (Tryz.prog.globals[0]?).map (·.type) = some 105 := by kernel_rfl
theorem cellsErr : Tryz.prog.cellsOf 192 = 1 := by kernel_rfl
theorem cellsStr : Tryz.prog.cellsOf 9 = 1 := by kernel_rfl
theorem star : "*" ++ "errors.errorString" = "*errors.errorString" := by decide
theorem rowErr (u : TypeId) (h : Tryz.prog.typeName? 3 u = some "*errors.errorString") : u = 169 :=
  typeName_ptr_named (nm := "errors.errorString") (by rw [star]; kernel_rfl) (by kernel_rfl) (by decide) u (by rw [star]; exact h)

/-- What the row's list gives: the registry's error. -/
theorem err_of_laid {W : World} (h : laidMetH Tryz.prog [("rostrum/registry.errTurn", Rows.laid_rostrum_registry_errTurn)] W) : ∃ a, ErrAt W a := by
  obtain ⟨a, s, hv, _⟩ := laid_sentinel (r := []) h gErr gErrType Tryz.underlying105 rowErr Tryz.underlying169 Tryz.underlying192 rfl rfl Tryz.underlying9 cellsErr cellsStr
  exact ⟨a, by simpa [ErrAt] using World.var?_cell gErr hv 0⟩

abbrev errText : ByteArray := ⟨#[97, 32, 115, 116, 97, 116, 101, 32, 99, 97, 110, 110, 111, 116, 32, 98, 101, 32, 116, 117, 114, 110, 101, 100]⟩
noncomputable def low : Nat := (World.holding Tryz.prog default ⟨#[], #[], []⟩).heap.size
/-- A world for the witness: the settled one, the variable holding its error. -/
noncomputable def laidWorld (os : Os) : World :=
  let w0 := World.holding Tryz.prog os ⟨#[.cells #[.string errText] 192], #[], []⟩
  { w0 with heap := w0.heap.modify 0 fun
      | .cells _ t frozen => .cells #[.iface 169 (.pointer (some ⟨low, 0, none⟩))] t frozen
      | o => o }
theorem laid_met (os : Os) (args : Array Value) : laidMet Tryz.prog [("rostrum/registry.errTurn", Rows.laid_rostrum_registry_errTurn)] ((laidWorld os).forCall (fun _ _ => 0) ⟨#[], args, []⟩).memory :=
  laidMet_of_run' 8 (by kernel_rfl) (by kernel_rfl)
end Go.Proofs.YtlfledeldhhllaaGreatDoor
