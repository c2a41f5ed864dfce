/- A FOLD OF ENTRIES, IN PLAIN LEAN: what runs of entries come to, and how much they may hold; an Apply of an entry that was cut. No condition beyond what each says. -/
import Derived.Test.YtlfledeldhhllaaGreatDoorOpenM
import Derived.Test.YtlfledeldhhllaaGreatDoorShown
namespace Go.Proofs.YtlfledeldhhllaaGreatDoor
open Go Go.RowKit

/-- The fold behind entries (each cut). -/
def runP (f : FoldS) (es : List EntryD) : FoldS := es.foldl (fun f e => (applyP f (cutE e)).1) f
theorem runP_snoc (f : FoldS) (es : List EntryD) (e : EntryD) : runP f (es ++ [e]) = (applyP (runP f es) (cutE e)).1 := by simp [runP, List.foldl_append]
/-- How much a fold holds behind k entries. -/
structure FoldB (f : FoldS) (k : Nat) : Prop where
  ok : BookOk f.book
  few : bookN f.book ≤ 64 * k
  eras : f.eras.length ≤ k + 1
  low : 0 ≤ f.count
  high : f.count ≤ k
theorem newFold_b (v : Int) : FoldB (newFold v) 0 := ⟨newBook_ok, by simp [newFold, bookN, newBook], by simp [newFold], by simp [newFold], by simp [newFold]⟩
theorem FoldB.mono {f : FoldS} {k n : Nat} (h : FoldB f k) (hk : k ≤ n) : FoldB f n := ⟨h.ok, by have := h.few; omega, by have := h.eras; omega, h.low, by have := h.high; omega⟩
theorem FoldB.begin {f : FoldS} {k : Nat} (h : FoldB f k) (v : Int) (sw : Bool) (he : f.eras.length ≤ k) : FoldB (beginEra f v sw) k :=
  ⟨h.ok, h.few, by simp [beginEra]; exact he, h.low, h.high⟩
theorem apply_b {f : FoldS} {k : Nat} (h : FoldB f k) (e : EntryD) : FoldB (applyP f e).1 (k + 1) := by
  have h1 : FoldB { f with count := f.count + 1 } (k + 1) := ⟨h.ok, by have := h.few; show bookN f.book ≤ _; omega, by have := h.eras; show f.eras.length ≤ _; omega, by have := h.low; show 0 ≤ f.count + 1; omega, by have := h.high; show f.count + 1 ≤ _; omega⟩
  have h2 : ({ f with count := f.count + 1 } : FoldS).eras.length ≤ k + 1 := h.eras
  unfold applyP
  split
  · exact h.mono (by omega)
  · rename_i hr
    have hr' : rightE e = true := by simpa using hr
    split
    · exact h1
    · split
      · have hd := deliver_ok h.ok e.msgs
        have hm := msgs_of_right hr'
        exact ⟨hd.1, by have := hd.2.1; have := h.few; show bookN (deliverP f.book e.msgs).1 ≤ _; omega, h1.eras, h1.low, h1.high⟩
      · split
        · split
          · exact h1
          · exact h1.begin _ _ h2
        · split
          · exact h1
          · exact h1.begin _ _ h2
theorem run_b {f : FoldS} {k : Nat} (h : FoldB f k) : ∀ (es : List EntryD), FoldB (runP f es) (k + es.length) := by
  intro es
  induction es generalizing f k with
  | nil => exact h
  | cons e es ih =>
    have := ih (apply_b h (cutE e))
    rw [List.length_cons, show k + (es.length + 1) = k + 1 + es.length by omega]
    exact this

/-- An Apply of an entry that was cut, told from ahead of the cut. -/
theorem apply_cut {B : Nat} {f : FoldS} {k : Nat} {t : List Nat} (ht : t ≠ []) {ow : Own} {e : EntryD} {mv : Value} {W W' : World} (hF : FoldAt B f t ow W) (hb : Below W.heap.size W W')
    (hR : Row W' 54 3 mv (cutE e).msgs.length ((cutE e).msgs.flatMap msgCells)) (hfr : ∀ g, mv.ownBlock = some g → W.heap.size ≤ g) (hB : FoldB f k) (hk : k ≤ 100) :
    Calls Tryz.prog 21 #[.pointer (some ⟨B, 0, none⟩), entV (cutE e) mv] W' (ApplyPost B t ow W (applyP f (cutE e))) := by
  have hl : (cutE e).msgs.length ≤ 1073741824 := by
    unfold cutE cutL; simp; omega
  refine (apply_any B f t ht (ow.cut W) (cutE e) mv W' ((FoldAt.loc B f t).cut hF hb) hR.src (fun a l c h hs => ?_) (by have := hB.few; omega) (by have := hB.eras; omega) hl ⟨hB.low, by have := hB.high; omega⟩).mono ?_
  · rcases hR.form with ⟨h1, -⟩ | ⟨g, cap, h1, -⟩
    · rw [h1] at h; cases h
    · rw [h1] at h; cases h
      rw [Own.cut_new (hfr g (by rw [h1]; rfl))] at hs
      exact not_sub_nil ht hs
  · rintro r w2 ⟨v, ow2, rfl, hs, hF2, hR2, hn2⟩
    exact ⟨v, ow2, rfl, Step.wrap hb hs, hF2, hR2, fun g hg => ⟨Nat.le_trans hb.size (hn2 g hg).1, (hn2 g hg).2⟩⟩

/-- The shape of entries that came in. -/
theorem EntsIn.shape {w : World} {v : Value} {es : List (EntryD × Value)} (h : EntsIn w v es) : ∃ a cap, v = .slice a es.length cap ∧
    ∀ i p, es[i]? = some p → ∃ b off, a = some ⟨b, off, none⟩ ∧ ∀ j, j < 4 → w.cell? ⟨b, off + (i * 4 + j), none⟩ = (entCells p)[j]? := by
  rcases h.1 with ⟨rfl, rfl⟩ | ⟨⟨b, off, spot⟩, cap, rfl, hc⟩
  · exact ⟨none, 0, rfl, fun i p hp => by simp at hp⟩
  · refine ⟨_, cap, rfl, fun i p hp => ?_⟩
    obtain ⟨p0, hp0⟩ : ∃ p0, es[0]? = some p0 := ⟨_, List.getElem?_eq_getElem (by have := (List.getElem?_eq_some_iff.1 hp).1; omega)⟩
    have h0 := hc 0 p0 hp0 0 (by omega)
    have hspot : spot = none := by
      have := World.cell?_spot (w := w) (v := .int .i64 p0.1.kind) (a := (⟨b, off, spot⟩ : Addr).add (0 * 4 + 0)) (by rw [h0]; rfl)
      simpa [Addr.add] using this
    subst hspot
    exact ⟨b, off, rfl, fun j hj => by rw [← addr_add]; exact hc i p hp j hj⟩
theorem EntsIn.below {w W : World} {v : Value} {es : List (EntryD × Value)} (h : EntsIn w v es) (hb : Below w.heap.size w W) : EntsIn W v es := by
  refine ⟨h.1.imp id ?_, fun p hp => ⟨(h.2 p hp).1.below hb, (h.2 p hp).2⟩⟩
  rintro ⟨a, cap, rfl, hc⟩
  refine ⟨a, cap, rfl, fun i p hp j hj => ?_⟩
  have h1 := hc i p hp j hj
  cases hu : (entCells p)[j]? with
  | none => simp [entCells] at hu; omega
  | some u => rw [hu] at h1; exact (hb.cell (cell_lt h1)).trans h1
theorem apply_prefix {f : FoldS} (h : BookOk f.book) (e : EntryD) : f.book.log <+: (applyP f e).1.book.log ∧ f.eras <+: (applyP f e).1.eras := by
  unfold applyP
  split
  · exact ⟨List.prefix_refl _, List.prefix_refl _⟩
  · split
    · exact ⟨List.prefix_refl _, List.prefix_refl _⟩
    · split
      · refine ⟨?_, List.prefix_refl _⟩
        show f.book.log <+: (deliverP f.book e.msgs).1.log
        rw [(deliver_ok h e.msgs).2.2]
        exact List.prefix_append _ _
      · split
        · split
          · exact ⟨List.prefix_refl _, List.prefix_refl _⟩
          · exact ⟨List.prefix_refl _, List.prefix_append _ _⟩
        · split
          · exact ⟨List.prefix_refl _, List.prefix_refl _⟩
          · exact ⟨List.prefix_refl _, List.prefix_append _ _⟩
theorem run_prefix {f : FoldS} {k : Nat} (h : FoldB f k) : ∀ (es : List EntryD), f.book.log <+: (runP f es).book.log ∧ f.eras <+: (runP f es).eras := by
  intro es
  induction es generalizing f k with
  | nil => exact ⟨List.prefix_refl _, List.prefix_refl _⟩
  | cons e es ih =>
    have h1 := apply_prefix h.ok (cutE e)
    have h2 := ih (apply_b h (cutE e))
    exact ⟨h1.1.trans h2.1, h1.2.trans h2.2⟩
theorem runP_append (f : FoldS) (a b : List EntryD) : runP f (a ++ b) = runP (runP f a) b := by simp [runP, List.foldl_append]
/-- One that applies a beginning has a beginning. -/
theorem run_take {f : FoldS} (h : FoldB f 0) (es : List EntryD) (m : Nat) : (runP f (es.take m)).book.log <+: (runP f es).book.log ∧ (runP f (es.take m)).eras <+: (runP f es).eras := by
  have h1 := run_prefix (run_b h (es.take m)) (es.drop m)
  rw [← runP_append, List.take_append_drop] at h1
  exact h1
/-- Below what was there ahead of all. -/
theorem Step.belowW {t : List Nat} (ht : t ≠ []) {ow ow' : Own} {w W W' : World} (hs : Step t ow W ow' W') (hb : Below w.heap.size w W) (ho : ∀ k, k < w.heap.size → ow k = []) : Below w.heap.size w W' ∧ ∀ k, k < w.heap.size → ow' k = [] :=
  ⟨hb.trans (hs.below hb.size (fun k hk => by rw [ho k hk]; exact not_sub_nil ht)), fun k hk => (hs.agree k (Nat.lt_of_lt_of_le hk hb.size)).trans (ho k hk)⟩
end Go.Proofs.YtlfledeldhhllaaGreatDoor
