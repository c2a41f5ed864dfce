/- PLAIN FACTS on the eras of a fold of entries. No program in sight. -/
import Derived.Test.YtlfledeldhhllaaRunP
namespace Go.Proofs.Ytlfledeldhhllaa
open Go

/-- What holds of a fold's eras. -/
structure ErasOk (v : Int) (f : FoldS) : Prop where
  first : f.eras[0]? = some (1, v, 0)
  each : ∀ (i : Nat) (x : EraD), f.eras[i]? = some x → x.1 = i + 1 ∧ 1 ≤ x.2.1 ∧ x.2.1 ≤ 3 ∧ x.2.2 ≤ f.count
  next : ∀ (i : Nat) (x y : EraD), f.eras[i]? = some x → f.eras[i + 1]? = some y → x.2.2 < y.2.2 ∧ x.2.1 ≠ y.2.1
  sw : f.sw = true → 2 ≤ f.eras.length
theorem known_range {v : Int} (h : known v = true) : 1 ≤ v ∧ v ≤ 3 := by simpa [known] using h
theorem newFold_eras {v : Int} (h : known v = true) : ErasOk v (newFold v) := by
  have hv := known_range h
  refine ⟨rfl, fun i x hx => ?_, fun i x y hx hy => ?_, fun h => by simp [newFold] at h⟩
  · cases i with
    | zero => simp [newFold] at hx; subst hx; exact ⟨rfl, hv.1, hv.2, by simp [newFold]⟩
    | succ i => simp [newFold] at hx
  · simp [newFold] at hy
theorem ErasOk.pos {v : Int} {f : FoldS} (h : ErasOk v f) : 0 < f.eras.length := (List.getElem?_eq_some_iff.1 h.first).1
theorem ErasOk.now {v : Int} {f : FoldS} (h : ErasOk v f) : f.eras[f.eras.length - 1]? = some (nowP f.eras) := by
  have hp := h.pos
  exact nowP_at (m := f.eras.length - 1) (by omega)
theorem ErasOk.count {v : Int} {f : FoldS} (h : ErasOk v f) : ErasOk v { f with count := f.count + 1 } :=
  ⟨h.first, fun i x hx => ⟨(h.each i x hx).1, (h.each i x hx).2.1, (h.each i x hx).2.2.1, by have := (h.each i x hx).2.2.2; show _ ≤ f.count + 1; omega⟩, h.next, h.sw⟩
theorem ErasOk.book {v : Int} {f : FoldS} (h : ErasOk v f) (b : BookS) : ErasOk v { f with book := b } := ⟨h.first, h.each, h.next, h.sw⟩
/-- A new era behind a count. -/
theorem ErasOk.begin {v : Int} {f : FoldS} (h : ErasOk v f) (hl : f.eras.length ≤ 1000) {n : Int} (hn : 1 ≤ n ∧ n ≤ 3) (hne : n ≠ (nowP f.eras).2.1) (sw : Bool) : ErasOk v (beginEra { f with count := f.count + 1 } n sw) := by
  have hp := h.pos
  have hnow := h.now
  have he := (h.each _ _ hnow).1
  have hlast : ∀ (i : Nat) (x : EraD), (f.eras ++ [(((nowP f.eras).1 + 1) % 4294967296, n, f.count + 1)])[i]? = some x → (i < f.eras.length ∧ f.eras[i]? = some x) ∨ (i = f.eras.length ∧ x = (f.eras.length + 1, n, f.count + 1)) := fun i x hx => by
    by_cases hi : i < f.eras.length
    · left; rw [List.getElem?_append_left hi] at hx; exact ⟨hi, hx⟩
    · right
      rw [List.getElem?_append_right (by omega)] at hx
      have hi2 : i - f.eras.length = 0 := by
        have := (List.getElem?_eq_some_iff.1 hx).1
        simp at this; omega
      rw [hi2] at hx
      simp at hx
      refine ⟨by omega, ?_⟩
      rw [← hx]
      rw [show ((nowP f.eras).1 + 1) % 4294967296 = f.eras.length + 1 by omega]
  refine ⟨?_, fun i x hx => ?_, fun i x y hx hy => ?_, fun _ => ?_⟩
  · show (f.eras ++ _)[0]? = _
    rw [List.getElem?_append_left hp]; exact h.first
  · rcases hlast i x hx with ⟨hi, hx⟩ | ⟨rfl, rfl⟩
    · have := h.each i x hx
      exact ⟨this.1, this.2.1, this.2.2.1, by show _ ≤ f.count + 1; omega⟩
    · exact ⟨rfl, hn.1, hn.2, Int.le_refl _⟩
  · rcases hlast i x hx with ⟨hi, hx⟩ | ⟨rfl, rfl⟩
    · rcases hlast (i + 1) y hy with ⟨hi2, hy⟩ | ⟨hi2, rfl⟩
      · exact h.next i x y hx hy
      · have hi3 : i = f.eras.length - 1 := by omega
        rw [hi3, hnow] at hx
        cases hx
        have := (h.each _ _ hnow).2.2.2
        exact ⟨by show _ < f.count + 1; omega, fun e => hne e.symm⟩
    · rcases hlast (f.eras.length + 1) y hy with ⟨hi2, -⟩ | ⟨hi2, -⟩ <;> omega
  · simp [beginEra]; omega
theorem ahead_last (n : EraD) : ∀ (a : List EraD) (v : Int), (∀ x ∈ a, x ≠ n) → aheadP n (a ++ [n]) v = (a.getLast?.map (·.2.1)).getD v
  | [], v, _ => by simp [aheadP]
  | x :: a, v, h => by
    have ih := ahead_last n a x.2.1 (fun y hy => h y (List.mem_cons_of_mem _ hy))
    rw [List.cons_append, aheadP, if_neg (h x (List.mem_cons_self ..)), ih]
    cases a with
    | nil => rfl
    | cons y a => rw [List.getLast?_cons_cons]
                  cases hg : (y :: a).getLast? with
                  | none => simp at hg
                  | some z => rfl
/-- What a rollback goes back to. -/
theorem ErasOk.back {v : Int} {f : FoldS} (h : ErasOk v f) (hsw : f.sw = true) : (1 ≤ aheadP (nowP f.eras) f.eras 0 ∧ aheadP (nowP f.eras) f.eras 0 ≤ 3) ∧ aheadP (nowP f.eras) f.eras 0 ≠ (nowP f.eras).2.1 := by
  have h2 := h.sw hsw
  have hnow := h.now
  obtain ⟨y, hy⟩ : ∃ y, f.eras[f.eras.length - 2]? = some y := ⟨_, List.getElem?_eq_getElem (by omega)⟩
  have hsplit : f.eras = f.eras.take (f.eras.length - 1) ++ [nowP f.eras] := by
    have h1 := List.take_append_drop (f.eras.length - 1) f.eras
    have h3 : f.eras.drop (f.eras.length - 1) = [nowP f.eras] := by
      rw [List.drop_eq_getElem_cons (by omega), List.drop_eq_nil_of_le (by omega)]
      rw [List.getElem?_eq_getElem (by omega)] at hnow
      rw [Option.some.inj hnow]
    rw [h3] at h1; exact h1.symm
  have hdiff : ∀ x ∈ f.eras.take (f.eras.length - 1), x ≠ nowP f.eras := fun x hx e => by
    obtain ⟨i, hi, hxi⟩ := List.mem_iff_getElem.1 hx
    rw [List.length_take] at hi
    rw [List.getElem_take] at hxi
    have h1 := (h.each i x (by rw [List.getElem?_eq_getElem (by omega), hxi])).1
    have h3 := (h.each _ _ hnow).1
    rw [e] at h1
    omega
  have ha : aheadP (nowP f.eras) f.eras 0 = y.2.1 := by
    have h1 := ahead_last (nowP f.eras) _ 0 hdiff
    rw [← hsplit] at h1
    rw [h1]
    have hg : (f.eras.take (f.eras.length - 1)).getLast? = some y := by
      rw [List.getLast?_eq_getElem?, List.length_take, List.getElem?_take]
      rw [show min (f.eras.length - 1) f.eras.length - 1 = f.eras.length - 2 by omega, if_pos (by omega)]
      exact hy
    rw [hg]; rfl
  rw [ha]
  have h1 := h.each _ _ hy
  refine ⟨⟨h1.2.1, h1.2.2.1⟩, (h.next _ _ _ hy (by rw [show f.eras.length - 2 + 1 = f.eras.length - 1 by omega]; exact hnow)).2⟩
theorem apply_eras {v : Int} {f : FoldS} (h : ErasOk v f) (hl : f.eras.length ≤ 1000) (e : EntryD) : ErasOk v (applyP f e).1 := by
  have hc := h.count
  unfold applyP
  split
  · exact h
  · split
    · exact hc
    · split
      · exact hc.book _
      · split
        · split
          · exact hc
          · rename_i hck
            have hck' : checkE (nowP f.eras).2.1 e.ver = 0 := by
              rcases Decidable.em (checkE (nowP f.eras).2.1 e.ver = 0) with h | h
              · exact h
              · exact absurd h hck
            unfold checkE at hck'
            split at hck'
            · rename_i hkk
              split at hck'
              · simp at hck'
              · rename_i hab
                simp only [Bool.and_eq_true] at hkk
                exact h.begin hl (known_range hkk.2) (fun e => hab e.symm) _
            · simp at hck'
        · split
          · exact hc
          · rename_i hsw
            have hb := h.back (by simpa using hsw)
            exact h.begin hl hb.1 hb.2 _
theorem run_eras {v : Int} {f : FoldS} {k : Nat} (h : ErasOk v f) (hB : FoldB f k) : ∀ (es : List EntryD), k + es.length ≤ 900 → ErasOk v (runP f es) := by
  intro es
  induction es generalizing f k with
  | nil => intro _; exact h
  | cons e es ih =>
    intro hk
    simp at hk
    exact ih (apply_eras h (by have := hB.eras; omega) (cutE e)) (apply_b hB (cutE e)) (by omega)
end Go.Proofs.Ytlfledeldhhllaa
