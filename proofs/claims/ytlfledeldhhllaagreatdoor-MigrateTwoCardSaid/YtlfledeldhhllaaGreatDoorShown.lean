/- WALK: rostrumlaw14.shown answers true. No condition. -/
import Derived.Test.YtlfledeldhhllaaGreatDoorEp8
import Derived.Test.YtlfledeldhhllaaGreatDoorSameMsg
import Derived.Test.YtlfledeldhhllaaGreatDoorSameEra
import Derived.Test.YtlfledeldhhllaaGreatDoorCut
namespace Go.Proofs.YtlfledeldhhllaaGreatDoor
open Go Go.RowKit Go.Shelf Go.Extern.Stop Go.Stop Go.Extern
attribute [local go_sem] Oper.semAt_some wide_fn wide_depth

theorem msgs_nil (w : World) : MsgsAt w (.slice none 0 0) [] := ⟨rfl, .inl ⟨rfl, rfl⟩⟩
def shF1 : FoldS := { book := newBook, eras := [(1, 1, 0), (2, 2, 1)], count := 1, sw := true }
def shF2 : FoldS := { book := newBook, eras := [(1, 1, 0), (2, 2, 1)], count := 2, sw := true }
def shF3 : FoldS := { book := newBook, eras := [(1, 1, 0), (2, 2, 1), (3, 1, 3)], count := 3, sw := false }
theorem sh1 : applyP (newFold 1) ⟨2, 1, 2, []⟩ = (shF1, [], true, 0) := by kernel_rfl
theorem sh2 : applyP shF1 ⟨2, 1, 3, []⟩ = (shF2, [], false, 0) := by kernel_rfl
theorem sh3 : applyP shF2 ⟨3, 2, 0, []⟩ = (shF3, [], true, 0) := by kernel_rfl
theorem sh4 : applyP shF3 ⟨0, 0, 0, []⟩ = (shF3, [], false, 140) := by kernel_rfl

/-- An Apply of an entry without messages. -/
theorem apply_nil {B : Nat} {f f' : FoldS} {t : List Nat} (ht : t ≠ []) {ow : Own} {e : EntryD} (he : e.msgs = []) {b : Bool} {n : Int} {w : World} (h : FoldAt B f t ow w) (hl : bookN f.book + 64 ≤ 536870912) (hl2 : f.eras.length ≤ 536870912) (hct : 0 ≤ f.count ∧ f.count ≤ 1073741824)
    (hR : applyP f e = (f', [], b, n)) : Calls Tryz.prog 21 #[.pointer (some ⟨B, 0, none⟩), .agg #[.int .i64 e.kind, .int .u32 e.epoch, .int .i64 e.ver, .slice none 0 0]] w
      fun r w' => ∃ v c ow', r = .returned (.tuple #[.slice v 0 c, .bool b, .int .i64 n]) ∧ Step t ow w ow' w' ∧ FoldAt B f' t ow' w' := by
  have h := apply_any B f t ht ow e (.slice none 0 0) w h (by rw [he]; exact msgs_nil w) (fun a l c h => by cases h) hl hl2 (by rw [he]; simp) hct
  rw [hR] at h
  refine h.mono ?_
  rintro r w' ⟨v, ow', rfl, h1, h2, h3, -⟩
  rcases h3.form with ⟨rfl, -⟩ | ⟨g, cap, rfl, -⟩
  · exact ⟨_, _, ow', rfl, h1, h2⟩
  · exact ⟨_, _, ow', rfl, h1, h2⟩

end Go.Proofs.YtlfledeldhhllaaGreatDoor
