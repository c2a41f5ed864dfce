/- PLAIN FACTS on locals: how much they hold; what they have delivered and hold is what their fold has delivered. No program in sight. -/
import Derived.Test.YtlfledeldhhllaaGreatDoorMgA
import Derived.Test.YtlfledeldhhllaaGreatDoorOnceP
namespace Go.Proofs.YtlfledeldhhllaaGreatDoor
open Go

theorem apply_err {f : FoldS} {e : EntryD} (h : (applyP f e).2.2.2 ≠ 0) : applyP f e = (f, [], false, 140) := by
  unfold applyP at h ⊢
  split
  · rfl
  · rename_i h1
    rw [if_neg h1] at h
    exfalso
    revert h
    repeat' split
    all_goals simp
theorem applyL_fold (L : LocalS) (e : EntryD) (fails : Bool) : (applyL L e fails).1.fold = (applyP L.fold e).1 := by
  unfold applyL
  split
  · rfl
  · unfold releaseL midL migrateL holdL
    repeat' split
    all_goals rfl
theorem midL_same (L : LocalS) (R : FoldS × List MsgD × Bool × Int) (fails : Bool) : (midL L R fails).held = L.held ∧ (midL L R fails).log = L.log := by
  unfold midL migrateL
  split <;> exact ⟨rfl, rfl⟩
theorem releaseL_all (L : LocalS) : (releaseL L).1.log ++ (releaseL L).1.held = L.log ++ L.held := by
  unfold releaseL
  split <;> simp
theorem releaseL_len (L : LocalS) : (releaseL L).2.length ≤ L.held.length := by
  unfold releaseL
  split <;> simp
/-- How much a local holds behind k entries. -/
structure LocalB (L : LocalS) (k : Nat) : Prop where
  fold : FoldB L.fold k
  all : L.log ++ L.held = L.fold.book.log
theorem LocalB.mono {L : LocalS} {k n : Nat} (h : LocalB L k) (hk : k ≤ n) : LocalB L n := ⟨h.fold.mono hk, h.all⟩
theorem newL_b (v : Int) (s : StD) : LocalB (newL v s) 0 := ⟨newFold_b v, rfl⟩
theorem LocalB.len {L : LocalS} {k : Nat} (h : LocalB L k) : L.log.length + L.held.length ≤ 64 * k := by
  have h1 := congrArg List.length h.all
  rw [List.length_append] at h1
  have h2 := h.fold.few
  unfold bookN at h2
  omega
theorem applyL_b {L : LocalS} {k : Nat} (h : LocalB L k) (e : EntryD) (fails : Bool) : LocalB (applyL L e fails).1 (k + 1) := by
  refine ⟨by rw [applyL_fold]; exact apply_b h.fold e, ?_⟩
  rw [applyL_fold, (apply_follows h.fold.ok e).2.2.1]
  unfold applyL
  split
  · rename_i hr
    have := apply_err hr
    rw [this]
    simp only [List.append_nil]
    exact h.all
  · rw [releaseL_all]
    unfold holdL
    simp only [(midL_same L _ fails).1, (midL_same L _ fails).2]
    rw [← List.append_assoc, h.all]
theorem apply_len {f : FoldS} {k : Nat} (h : FoldB f k) (e : EntryD) : (applyP f e).2.1.length ≤ 64 * (k + 1) := by
  have h1 := (apply_b h e).few
  have h2 := (apply_follows h.ok e).2.2.1
  unfold bookN at h1
  rw [h2, List.length_append] at h1
  omega
/-- The local behind entries (each cut). -/
def runL (L : LocalS) (es : List (EntryD × Bool)) : LocalS := es.foldl (fun L p => (applyL L (cutE p.1) p.2).1) L
theorem runL_snoc (L : LocalS) (es : List (EntryD × Bool)) (e : EntryD) (b : Bool) : runL L (es ++ [(e, b)]) = (applyL (runL L es) (cutE e) b).1 := by simp [runL, List.foldl_append]
theorem runL_b {L : LocalS} {k : Nat} (h : LocalB L k) : ∀ (es : List (EntryD × Bool)), LocalB (runL L es) (k + es.length) := by
  intro es
  induction es generalizing L k with
  | nil => exact h
  | cons p es ih =>
    have := ih (applyL_b h (cutE p.1) p.2)
    rw [List.length_cons, show k + (es.length + 1) = k + 1 + es.length by omega]
    exact this
theorem runL_fold (L : LocalS) (es : List (EntryD × Bool)) : (runL L es).fold = runP L.fold (es.map (·.1)) := by
  induction es generalizing L with
  | nil => rfl
  | cons p es ih =>
    show (runL (applyL L (cutE p.1) p.2).1 es).fold = runP (applyP L.fold (cutE p.1)).1 (es.map (·.1))
    rw [ih, applyL_fold]
/-- Two that have the same fold: the one's log is a beginning of the other's. -/
theorem two_logs {A B : LocalS} {k : Nat} (hA : LocalB A k) (hB : LocalB B k) (h : A.fold = B.fold) : A.log.take (min A.log.length B.log.length) = B.log.take (min A.log.length B.log.length) := by
  have h1 : A.log <+: A.fold.book.log := ⟨A.held, hA.all⟩
  have h2 : B.log <+: A.fold.book.log := ⟨B.held, by rw [h]; exact hB.all⟩
  rcases List.prefix_or_prefix_of_prefix h1 h2 with h3 | h3
  · have hle := h3.length_le
    rw [Nat.min_eq_left hle, List.take_length]
    exact (List.prefix_iff_eq_take.1 h3)
  · have hle := h3.length_le
    rw [Nat.min_eq_right hle, List.take_length]
    exact (List.prefix_iff_eq_take.1 h3).symm
end Go.Proofs.YtlfledeldhhllaaGreatDoor
