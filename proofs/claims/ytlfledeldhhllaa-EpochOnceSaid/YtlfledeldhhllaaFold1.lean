/- ONE FOLD in the statements' loops: what holds of it between rounds. No condition beyond what each says. -/
import Derived.Test.YtlfledeldhhllaaRunP
namespace Go.Proofs.Ytlfledeldhhllaa
open Go Go.RowKit

/-- What holds of the fold. -/
def OneAt (w : World) (Bf : Nat) (ff : FoldS) (W : World) : Prop :=
  ∃ ow, Below w.heap.size w W ∧ (∀ k, k < w.heap.size → ow k = []) ∧ FoldAt Bf ff [1] ow W
/-- Entries by their number. -/
def ens1 (es : List (EntryD × Value)) (k : Nat) : List EntryD := (es.take k).map (·.1)
theorem ens1_succ {es : List (EntryD × Value)} {k : Nat} {p : EntryD × Value} (h : es[k]? = some p) : ens1 es (k + 1) = ens1 es k ++ [p.1] := by
  unfold ens1; rw [List.take_add_one, h]; simp
theorem ens1_len (es : List (EntryD × Value)) (k : Nat) : (ens1 es k).length ≤ k := by unfold ens1; simp; omega
theorem OneAt.below {w W W' : World} {Bf : Nat} {ff : FoldS} (h : OneAt w Bf ff W) (hb : Below W.heap.size W W') : OneAt w Bf ff W' := by
  obtain ⟨ow, h1, h2, h3⟩ := h
  exact ⟨ow, h1.trans (hb.mono h1.size), h2, (FoldAt.loc _ _ _).below h3 hb⟩
/-- An Apply of an entry that was cut; what came of it. -/
theorem OneAt.apply {w W W' : World} {Bf : Nat} {ff : FoldS} {k : Nat} (h : OneAt w Bf ff W) {e : EntryD} {mv : Value} (hb : Below W.heap.size W W') (hR : Row W' 50 3 mv (cutE e).msgs.length ((cutE e).msgs.flatMap msgCells)) (hfr : ∀ g, mv.ownBlock = some g → W.heap.size ≤ g) (hB : FoldB ff k) (hk : k ≤ 100) :
    Calls Try.prog 10 #[.pointer (some ⟨Bf, 0, none⟩), entV (cutE e) mv] W' fun r w' => ∃ v, r = .returned (.tuple #[v, .bool (applyP ff (cutE e)).2.2.1, .int .i64 (applyP ff (cutE e)).2.2.2]) ∧ OneAt w Bf (applyP ff (cutE e)).1 w' ∧ Row w' 50 3 v (applyP ff (cutE e)).2.1.length ((applyP ff (cutE e)).2.1.flatMap msgCells) := by
  obtain ⟨ow, h1, h2, h3⟩ := h
  refine (apply_cut (by simp) h3 hb hR hfr hB hk).mono ?_
  rintro r w2 ⟨v, ow2, rfl, hs, hF, hR2, -⟩
  have h5 := hs.belowW (by simp) h1 h2
  exact ⟨v, rfl, ⟨ow2, h5.1, h5.2, hF⟩, hR2⟩
theorem OneAt.log {w W : World} {Bf : Nat} {ff : FoldS} (h : OneAt w Bf ff W) (hl : ff.book.log.length ≤ 1073741824) : Calls Try.prog 14 #[.pointer (some ⟨Bf, 0, none⟩)] W fun e w' =>
    ∃ v', e = .returned v' ∧ Row w' 50 3 v' ff.book.log.length (ff.book.log.flatMap msgCells) ∧ Below W.heap.size W w' ∧ (∀ g, v'.ownBlock = some g → W.heap.size ≤ g) := by
  obtain ⟨ow, h1, h2, h3⟩ := h
  exact foldLog_any Bf ff [1] ow W h3 hl
theorem OneAt.eras {w W : World} {Bf : Nat} {ff : FoldS} (h : OneAt w Bf ff W) (hl : ff.eras.length ≤ 536870912) : Calls Try.prog 12 #[.pointer (some ⟨Bf, 0, none⟩)] W fun e w' =>
    ∃ v', e = .returned v' ∧ Row w' 38 3 v' ff.eras.length (ff.eras.flatMap eraCells) ∧ Below W.heap.size W w' ∧ (∀ g, v'.ownBlock = some g → W.heap.size ≤ g) := by
  obtain ⟨ow, h1, h2, h3⟩ := h
  exact eras_any Bf ff [1] ow W h3 hl
theorem OneAt.count {w W : World} {Bf : Nat} {ff : FoldS} (h : OneAt w Bf ff W) : Calls Try.prog 13 #[.pointer (some ⟨Bf, 0, none⟩)] W fun e w' => e = .returned (.int .i64 ff.count) ∧ w' = W := by
  obtain ⟨ow, h1, h2, h3⟩ := h
  exact count_any Bf ff [1] ow W h3
theorem OneAt.new {w W W' : World} {Bf : Nat} {v : Int} {ow : Own} (hb : Below w.heap.size w W) (hs : Step [1] (fun _ => []) W ow W') (hF : FoldAt Bf (newFold v) [1] ow W') : OneAt w Bf (newFold v) W' := by
  have h5 := hs.belowW (by simp) hb (fun _ _ => rfl)
  exact ⟨ow, h5.1, h5.2, hF⟩
theorem OneAt.countV {w W : World} {Bf : Nat} {ff : FoldS} {n : Int} (h : OneAt w Bf ff W) (hn : ff.count = n) : Calls Try.prog 13 #[.pointer (some ⟨Bf, 0, none⟩)] W fun e w' => e = .returned (.int .i64 n) ∧ w' = W := by
  subst hn
  exact h.count
/-- An Apply where one block that is not the fold's has been written. -/
theorem OneAt.applyB {w w1 W W' : World} {Bf D : Nat} {ff : FoldS} {n : Nat} {R : FoldS × List MsgD × Bool × Int} (h : OneAt w1 Bf ff W) (hw : w.heap.size ≤ w1.heap.size) (hD : D < w1.heap.size) (hb : Below w.heap.size w W') (hsz : W.heap.size ≤ W'.heap.size)
    (hkk : ∀ j, j < W.heap.size → j ≠ D → W'.heap[j]? = W.heap[j]?) {e : EntryD} {mv : Value} (hR : Row W' 50 3 mv (cutE e).msgs.length ((cutE e).msgs.flatMap msgCells)) (hfr : ∀ g, mv.ownBlock = some g → W.heap.size ≤ g) (hB : FoldB ff n) (hn : n ≤ 100) (hres : applyP ff (cutE e) = R) :
    Calls Try.prog 10 #[.pointer (some ⟨Bf, 0, none⟩), entV (cutE e) mv] W' fun r w' => ∃ v, r = .returned (.tuple #[v, .bool R.2.2.1, .int .i64 R.2.2.2]) ∧ OneAt w Bf R.1 w' ∧ Row w' 50 3 v R.2.1.length (R.2.1.flatMap msgCells) ∧ (∀ j, W.heap.size ≤ j → j < W'.heap.size → w'.heap[j]? = W'.heap[j]?) := by
  subst hres
  obtain ⟨ow, h1, h2, h3⟩ := h
  have hF : FoldAt Bf ff [1] (ow.cut W) W' := FoldAt.loc Bf ff [1] ow (ow.cut W) W W' h3 hsz (fun k hk hs => ⟨Own.cut_old hk, hkk k hk (fun e => by rw [e, h2 D hD] at hs; exact not_sub_nil (by simp) hs)⟩)
  have hl : (cutE e).msgs.length ≤ 1073741824 := by
    unfold cutE cutL; simp; omega
  refine (apply_any Bf ff [1] (by simp) (ow.cut W) (cutE e) mv W' hF hR.src (fun a l c h hs => ?_) (by have := hB.few; omega) (by have := hB.eras; omega) hl ⟨hB.low, by have := hB.high; omega⟩).mono ?_
  · rcases hR.form with ⟨h1, -⟩ | ⟨g, cap, h1, -⟩
    · rw [h1] at h; cases h
    · rw [h1] at h; cases h
      rw [Own.cut_new (hfr g (by rw [h1]; rfl))] at hs
      exact not_sub_nil (by simp) hs
  · rintro r w2 ⟨v, ow2, rfl, hs, hF2, hR2, -⟩
    have h5 := hs.belowW (by simp) hb (fun k hk => by rw [Own.cut_old (by have := h1.size; omega)]; exact h2 k (by omega))
    exact ⟨v, rfl, ⟨ow2, h5.1, h5.2, hF2⟩, hR2, fun j h1 h2 => hs.block h2 (fun h => by rw [Own.cut_new h1] at h; exact not_sub_nil (by simp) h)⟩
/-- Entries' cells, by number. -/
theorem EntsIn.cells4 {w : World} {es : List (EntryD × Value)} {k : Nat} {p : EntryD × Value} {b off : Nat} (hc : ∀ j, j < 4 → w.cell? ⟨b, off + (k * 4 + j), none⟩ = (entCells p)[j]?) {W : World} (hW : Below w.heap.size w W) :
    W.cell? ⟨b, off + k * 4, none⟩ = some (.int .i64 p.1.kind) ∧ W.cell? ⟨b, off + k * 4 + 1, none⟩ = some (.int .u32 p.1.epoch) ∧ W.cell? ⟨b, off + k * 4 + 2, none⟩ = some (.int .i64 p.1.ver) ∧ W.cell? ⟨b, off + k * 4 + 3, none⟩ = some p.2 := by
  have h : ∀ j u, j < 4 → (entCells p)[j]? = some u → W.cell? ⟨b, off + (k * 4 + j), none⟩ = some u := fun j u hj hu => by
    have h1 := hc j hj
    rw [hu] at h1; exact (hW.cell (cell_lt h1)).trans h1
  exact ⟨h 0 _ (by omega) rfl, h 1 _ (by omega) rfl, h 2 _ (by omega) rfl, h 3 _ (by omega) rfl⟩
end Go.Proofs.Ytlfledeldhhllaa
