/- HOW ARGUMENTS ARE OPENED: the acts of layer 15, booleans. No condition. -/
import Derived.Test.YtlfledeldhhllaaGreatDoorOpenA
namespace Go.Proofs.YtlfledeldhhllaaGreatDoor
open Go Go.RowKit Go.ChangeShapes Go.WideShapes Go.ChangeAt Go.Deep
theorem cellsBool1 : Tryz.prog.cellsOf 4 = 1 := by kernel_rfl
theorem cellsAct15 : Tryz.prog.cellsOf 39 = 5 := by kernel_rfl
/-- An act's cells: an entry, whether it fails. -/
def act15Cells (p : (EntryD × Value) × Bool) : List Value := entCells p.1 ++ [.bool p.2]
section
variable {H : Type} {enc : TypeId × Value → H} {w : World} {base : Nat} {held : Bool}
set_option maxRecDepth 100000 in
theorem open_act15 (fuel : Nat) (cs : List Value) (x : DataW H × List MemPlace) (h : DataW.trod enc Tryz.prog w base (fun _ => true) held fuel 39 cs = some x) :
    ∃ p : (EntryD × Value) × Bool, cs = act15Cells p ∧ (MsgsIn w p.1.2 p.1.1.msgs ∧ MsgsOk p.1.1.msgs) := by
  obtain ⟨y0, y1, n, -, hl, h0, h1⟩ := trod_struct2 Tryz.underlying39 h
  rw [cellsAct15] at hl
  match cs, hl with
  | [c0, c1, c2, c3, c4], _ =>
    simp only [cellsEnt, cellsBool1, List.drop_zero, List.take_succ_cons, List.take_zero, List.drop_succ_cons] at h0 h1
    obtain ⟨p, hp, hm⟩ := open_ent h0
    obtain ⟨b, e1, -⟩ := DataW.trod_bool Tryz.underlying4 h1
    simp at e1
    subst e1
    refine ⟨(p, b), ?_, hm⟩
    unfold act15Cells
    rw [← hp]; rfl
set_option maxRecDepth 100000 in
theorem open_acts15V {b0 : Nat} {v : Value} {d : DataW H} {p : List MemPlace} (hv : Value.okWide Tryz.prog w .any b0 36 v) (h : DataW.Trod enc Tryz.prog w base (fun _ => true) held 36 v d p) :
    ∃ l : List ((EntryD × Value) × Bool), ElemsIn w v 5 act15Cells l ∧ (∀ p ∈ l, MsgsIn w p.1.2 p.1.1.msgs ∧ MsgsOk p.1.1.msgs) ∧ l.length ≤ 9223372036854775807 := by
  obtain ⟨a, n, c, rfl⟩ := Go.WideShapes.okWide_slice Tryz.underlying36 hv
  obtain ⟨fuel, hf⟩ := h
  exact open_elems Tryz.underlying36 cellsAct15 open_act15 hf
theorem open_bool1 (fuel : Nat) (cs : List Value) (x : DataW H × List MemPlace) (h : DataW.trod enc Tryz.prog w base (fun _ => true) held fuel 4 cs = some x) : ∃ b : Bool, cs = [.bool b] ∧ True := by
  obtain ⟨b, e1, -⟩ := DataW.trod_bool Tryz.underlying4 h
  exact ⟨b, e1, trivial⟩
set_option maxRecDepth 100000 in
theorem open_boolsV {b0 : Nat} {v : Value} {d : DataW H} {p : List MemPlace} (hv : Value.okWide Tryz.prog w .any b0 37 v) (h : DataW.Trod enc Tryz.prog w base (fun _ => true) held 37 v d p) :
    ∃ l : List Bool, ElemsIn w v 1 (fun b => [.bool b]) l ∧ l.length ≤ 9223372036854775807 := by
  obtain ⟨a, n, c, rfl⟩ := Go.WideShapes.okWide_slice Tryz.underlying37 hv
  obtain ⟨fuel, hf⟩ := h
  obtain ⟨l, h1, -, h2⟩ := open_elems Tryz.underlying37 cellsBool1 open_bool1 hf
  exact ⟨l, h1, h2⟩
end
end Go.Proofs.YtlfledeldhhllaaGreatDoor
