/- WHAT THE REGISTRY's STATEMENTS SHARE: what the listed variable gives a walk; how a state among the arguments is opened; a world for the witness. No condition. -/
import Derived.Test.YtpiccdmaakipaaaDoorCards
import Derived.Test.YtpiccdmaakipaaaDoorTie
import Derived.Test.YtpiccdmaakipaaaDoorLaw
import Derived.Test.YtpiccdmaakipaaaDoorReg2
import Derived.OpenShut
import Derived.Deep.DeepHandedRow
import Derived.Deep.DeepWitnessRowRef
import Derived.Stop.LaidErr
import Derived.Lib.SmallJoins
namespace Go.Proofs.YtpiccdmaakipaaaDoor
open Go Go.RowKit Go.ChangeShapes Go.WideShapes Go.ChangeAt

theorem own : ownKnob Tryd.prog.godebug = none := by kernel_rfl
theorem laidOut : laidOutB Tryd.prog = true := by kernel_rfl
theorem gErr : Tryd.prog.globalNamed "rostrum/registry.errTurn" = some 0 := by kernel_rfl
theorem gErrType : (Tryd.prog.globals[0]?).map (·.type) = some 47 := by kernel_rfl
theorem cellsErr : Tryd.prog.cellsOf 116 = 1 := by kernel_rfl
theorem cellsStr : Tryd.prog.cellsOf 9 = 1 := by kernel_rfl
theorem cellsState : Tryd.prog.cellsOf 24 = 3 := by kernel_rfl
theorem star : "*" ++ "errors.errorString" = "*errors.errorString" := by decide
theorem rowErr (u : TypeId) (h : Tryd.prog.typeName? 3 u = some "*errors.errorString") : u = 93 :=
  typeName_ptr_named (nm := "errors.errorString") (by rw [star]; kernel_rfl) (by kernel_rfl) (by decide) u (by rw [star]; exact h)

/-- What the row's list gives: the registry's error. -/
theorem err_of_laid {W : World} (h : laidMetH Tryd.prog [("rostrum/registry.errTurn", Rows.laid_rostrum_registry_errTurn)] W) : ∃ a, ErrAt W a := by
  obtain ⟨a, s, hv, _⟩ := laid_sentinel (r := []) h gErr gErrType Tryd.underlying47 rowErr Tryd.underlying93 Tryd.underlying116 rfl rfl Tryd.underlying9 cellsErr cellsStr
  exact ⟨a, by simpa [ErrAt] using World.var?_cell gErr hv 0⟩

set_option maxRecDepth 100000 in
/-- A state among the arguments. -/
theorem open_state {H : Type} {enc : TypeId × Value → H} {W : World} {b base : Nat} {sp : Nat → Bool} {hd : Bool} {v : Value} {d : DataW H} {p : List MemPlace} (hv : Value.okWide Tryd.prog W .any b 24 v) (h : DataW.Trod enc Tryd.prog W base sp hd 24 v d p) :
    ∃ (x : Int) (c : Nat) (l : List UInt8), v = .agg #[.int .i64 x, .int .u32 c, .string (bs l)] ∧ l.length ≤ 9223372036854775807 := by
  obtain ⟨v0, v1, v2, y0, y1, y2, m, rfl, _, _, h0, h1, h2⟩ := Joins.open_agg3 Tryd.underlying24 (by kernel_rfl) cellsState hv h
  obtain ⟨x, e0, _, _⟩ := DataW.trod_int Tryd.underlying3 h0
  obtain ⟨c, e1, _, wc⟩ := DataW.trod_int Tryd.underlying22 h1
  obtain ⟨s, e2, _, ws⟩ := DataW.trod_string Tryd.underlying9 h2
  simp at e0 e1 e2
  subst e0 e1 e2
  have hc : 0 ≤ c := by
    simp [Lit.wf] at wc
    have hmin : IntKind.u32.min = 0 := rfl
    omega
  refine ⟨x, c.toNat, s.data.toList, ?_, ?_⟩
  · rw [bs_of, Int.toNat_of_nonneg hc]
  · have : s.size ≤ maxLen := ws
    unfold maxLen at this
    rw [← bs_size, bs_of]; exact this

abbrev errText : ByteArray := ⟨#[97, 32, 115, 116, 97, 116, 101, 32, 99, 97, 110, 110, 111, 116, 32, 98, 101, 32, 116, 117, 114, 110, 101, 100]⟩
noncomputable def low : Nat := (World.holding Tryd.prog default ⟨#[], #[], []⟩).heap.size
/-- A world for the witness: the settled one, the variable holding its error. -/
noncomputable def laidWorld (os : Os) : World :=
  let w0 := World.holding Tryd.prog os ⟨#[.cells #[.string errText] 116], #[], []⟩
  { w0 with heap := w0.heap.modify 0 fun
      | .cells _ t frozen => .cells #[.iface 93 (.pointer (some ⟨low, 0, none⟩))] t frozen
      | o => o }
theorem laid_met (os : Os) (args : Array Value) : laidMet Tryd.prog [("rostrum/registry.errTurn", Rows.laid_rostrum_registry_errTurn)] ((laidWorld os).forCall (fun _ _ => 0) ⟨#[], args, []⟩).memory :=
  laidMet_of_run' 8 (by kernel_rfl) (by kernel_rfl)
end Go.Proofs.YtpiccdmaakipaaaDoor
