/- HOW ARGUMENTS ARE OPENED: messages by value; slices of elements of so many cells each. No condition. -/
import Derived.Test.YtlfledeldhhllaaGreatDoorOpenM
namespace Go.Proofs.YtlfledeldhhllaaGreatDoor
open Go Go.RowKit Go.ChangeShapes Go.WideShapes Go.ChangeAt Go.Deep
set_option maxRecDepth 100000 in
theorem open_msgsV {H : Type} {enc : TypeId × Value → H} {w : World} {base : Nat} {held : Bool} {b0 : Nat} {v : Value} {d : DataW H} {p : List MemPlace} (hv : Value.okWide Tryz.prog w .any b0 22 v) (h : DataW.Trod enc Tryz.prog w base (fun _ => true) held 22 v d p) :
    ∃ l : List MsgD, MsgsIn w v l ∧ MsgsOk l := by
  obtain ⟨a, n, c, rfl⟩ := Go.WideShapes.okWide_slice Tryz.underlying22 hv
  obtain ⟨fuel, hf⟩ := h
  exact open_msgs hf

/-- Elements that came in, of n cells each. -/
def ElemsIn {α : Type} (w : World) (v : Value) (n : Nat) (cells : α → List Value) (l : List α) : Prop :=
  (v = .slice none 0 0 ∧ l = []) ∨ ∃ a cap, v = .slice (some a) l.length cap ∧ ∀ i p, l[i]? = some p → ∀ j, j < n → w.cell? (a.add (i * n + j)) = (cells p)[j]?
theorem open_elems {α H : Type} {enc : TypeId × Value → H} {P : Program} {w : World} {base : Nat} {held : Bool} {t e : TypeId} {n : Nat} (ht : P.underlying t = some (.slice e)) (hc : P.cellsOf e = n) {cells : α → List Value} {Q : α → Prop}
    (ho : ∀ (fuel : Nat) (cs : List Value) (x : DataW H × List MemPlace), DataW.trod enc P w base (fun _ => true) held fuel e cs = some x → ∃ y, cs = cells y ∧ Q y)
    {fuel : Nat} {v : Value} {x : DataW H × List MemPlace} (h : DataW.trod enc P w base (fun _ => true) held fuel t [v] = some x) :
    ∃ l : List α, ElemsIn w v n cells l ∧ (∀ y ∈ l, Q y) ∧ l.length ≤ 9223372036854775807 := by
  subst hc
  rcases open_slice ht h with ⟨h0, -⟩ | ⟨a, len, cap, m, n, D, Pl, hcs, hb, hl, hm, hmm, hx, hi⟩
  · simp at h0; subst h0
    exact ⟨[], .inl ⟨rfl, rfl⟩, by simp, by simp⟩
  · simp at hcs; subst hcs
    have hmc : m = cap := by rw [hmm]; simp
    subst hmc
    have hex : ∀ k, k ≤ len → ∃ l : List α, l.length = k ∧ (∀ i y, l[i]? = some y → ∀ j, j < P.cellsOf e → w.cell? (a.add (i * P.cellsOf e + j)) = (cells y)[j]?) ∧ ∀ y ∈ l, Q y := by
      intro k
      induction k with
      | zero => intro _; exact ⟨[], rfl, by simp, by simp⟩
      | succ k ih =>
        intro hk
        obtain ⟨l, h1, h2, h3⟩ := ih (by omega)
        obtain ⟨cs', hc, ht'⟩ := hi k (by omega)
        obtain ⟨y, rfl, hy⟩ := ho _ _ _ ht'
        obtain ⟨_, hcl, hat⟩ := World.cells?_some hc
        refine ⟨l ++ [y], by simp [h1], fun i z hz j hj => ?_, ?_⟩
        · by_cases hik : i < k
          · rw [List.getElem?_append_left (by omega)] at hz
            exact h2 i z hz j hj
          · rw [List.getElem?_append_right (by omega)] at hz
            have : i = k := by
              rcases Nat.lt_or_ge i (k + 1) with h | h
              · omega
              · rw [List.getElem?_eq_none (by simp; omega)] at hz; cases hz
            subst this
            simp [h1] at hz; subst hz
            rw [← Go.Deep.add_add]
            exact hat j hj
        · intro z hz
          rcases List.mem_append.1 hz with h | h
          · exact h3 z h
          · simp at h; rw [h]; exact hy
    obtain ⟨l, h1, h2, h3⟩ := hex len (Nat.le_refl _)
    subst h1
    exact ⟨l, .inr ⟨a, m, rfl, h2⟩, h3, by have : m ≤ maxLen := hm; unfold maxLen at this; omega⟩
theorem ElemsIn.shape {α : Type} {w : World} {v : Value} {n : Nat} {cells : α → List Value} {l : List α} (h : ElemsIn w v n cells l) (hn : 0 < n) (h0 : ∀ y, ∃ u, (cells y)[0]? = some u) :
    ∃ a cap, v = .slice a l.length cap ∧ ∀ i p, l[i]? = some p → ∃ b off, a = some ⟨b, off, none⟩ ∧ ∀ j, j < n → w.cell? ⟨b, off + (i * n + j), none⟩ = (cells p)[j]? := by
  rcases h with ⟨rfl, rfl⟩ | ⟨⟨b, off, spot⟩, cap, rfl, hc⟩
  · exact ⟨none, 0, rfl, fun i p hp => by simp at hp⟩
  · refine ⟨_, cap, rfl, fun i p hp => ?_⟩
    obtain ⟨p0, hp0⟩ : ∃ p0, l[0]? = some p0 := ⟨_, List.getElem?_eq_getElem (by have := (List.getElem?_eq_some_iff.1 hp).1; omega)⟩
    have h1 := hc 0 p0 hp0 0 hn
    obtain ⟨u, hu⟩ := h0 p0
    rw [hu] at h1
    have hspot : spot = none := by
      have := World.cell?_spot (w := w) (v := u) (a := (⟨b, off, spot⟩ : Addr).add (0 * n + 0)) h1
      simpa [Addr.add] using this
    subst hspot
    exact ⟨b, off, rfl, fun j hj => by rw [← addr_add]; exact hc i p hp j hj⟩
end Go.Proofs.YtlfledeldhhllaaGreatDoor
