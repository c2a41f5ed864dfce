/- A RANGE OVER A FUNCTION WHOSE VARIABLE LIES IN A BOX OF ITS OWN EACH ROUND, OR IN A SLOT: the law of XLib with the frame told by what changes in it. No condition. -/
import Derived.Test.YtlfledeldhhllaaGreatDoorRound
namespace Go.Proofs.YtlfledeldhhllaaGreatDoor
open Go Go.RowKit
variable {P : Program}

/-- The frame with the iterator's values laid in. -/
def laidIn (ps : Array Tmp) (vs : Array Value) (t : Array Value) : Array Value := (ps.zip vs).foldl (fun t (p, v) => t.setIfInBounds p v) t
theorem laidIn_one (p : Tmp) (v : Value) (t : Array Value) : laidIn #[p] #[v] t = t.setIfInBounds p v := by simp [laidIn]
theorem laidIn_two (p q : Tmp) (u v : Value) (t : Array Value) : laidIn #[p, q] #[u, v] t = (t.setIfInBounds p u).setIfInBounds q v := by simp [laidIn]
theorem laidIn_none (t : Array Value) : laidIn #[] #[] t = t := by simp [laidIn]

/-- THE VARIABLE IN A BOX. -/
theorem wp_rangeBox {α σ : Type} {g : Operand} {ps : Array Tmp} {assign body : Code} {Q : Exit → Act → World → Prop} {a : Act} {w : World}
    {gf : Nat} {lb : Array Value} (hg : a.eval g = .func (.func gf) #[] lb) (eg : ∀ args w, (callFunc gf args).run P w = .ok (.enter gf args) w)
    {encs : α → Array Value} {nx : σ → α → Prop} {st : σ → α → σ} {fin : σ → Prop} {Rd : σ → World → Prop} {s0 : σ} (hit : Iter Fence.wide 2 P gf lb encs nx st fin Rd s0) (hps : ∀ x, (encs x).size = ps.size)
    (I : σ → (Nat → Prop) → World → Prop) (Ix : Code → (Nat → Prop) → World → Prop) (hI : Stab I) (hIx : ∀ c, Stab fun (_ : Unit) => Ix c) (hRd : ∀ s X W, I s X W → Rd s W)
    (hX : ∀ s X W, I s X W → w.heap.size ≤ W.heap.size ∧ ∀ k, X k → k < W.heap.size) (h0 : I s0 (fun _ => False) w)
    (d : Tmp) (T : TypeId) (cells : α → Array Value)
    (hassign : ∀ (l : Nat) (x : α) (W : World) (K : Act → World → Prop), K { tmps := (laidIn ps (encs x) a.tmps).setIfInBounds d (.pointer (some ⟨W.heap.size, 0, none⟩)), defers := [] } (W.alloc (.cells (cells x) T)) →
      assign.wpIn (Fence.wide.inRound l) 1 P (Exit.then K (fun _ _ _ => False)) { tmps := laidIn ps (encs x) a.tmps, defers := [] } W)
    (hbody : ∀ (l : Nat) (s : σ) (x : α) (cb : Nat) (X X1 : Nat → Prop) (W1 W : World), I s X1 W1 → I s X W → nx s x → W1.heap.size ≤ cb → w.heap.size ≤ cb → ¬ X cb → Blk W cb (cells x) T → X l → (∃ r, W.heap[l]? = some (.loop r)) →
      body.wpIn (Fence.wide.inRound l) 1 P (rpost I Ix (st s x) X W) { tmps := (laidIn ps (encs x) a.tmps).setIfInBounds d (.pointer (some ⟨cb, 0, none⟩)), defers := [] } W)
    (hdone : ∀ (D : Nat) (s : σ) (X : Nat → Prop) (W : World), w.heap.size ≤ D → X D → fin s → I s X W → W.heap[D]? = some (.deferred (some [])) → Q .normal { a with defers := { target := .collected D, args := #[] } :: a.defers } W)
    (hstop : ∀ (D : Nat) (c : Code) (X : Nat → Prop) (W : World), w.heap.size ≤ D → X D → Ix c X W → W.heap[D]? = some (.deferred (some [])) → c.wp P Q { a with defers := { target := .collected D, args := #[] } :: a.defers } W) :
    (Code.rangeFunc g ps assign body).wp P Q a w := by
  refine wp_rangeA hg eg hit hps I Ix hI hIx hRd h0
    (fun s x a' X W => ∃ cb X1 W1, a' = { tmps := (laidIn ps (encs x) a.tmps).setIfInBounds d (.pointer (some ⟨cb, 0, none⟩)), defers := [] } ∧ I s X1 W1 ∧ I s X W ∧ nx s x ∧ W1.heap.size ≤ cb ∧ w.heap.size ≤ cb ∧ ¬ X cb ∧ Blk W cb (cells x) T)
    ?ax ?assign ?body hdone hstop
  case ax =>
    rintro s x a' u X X' W W' ⟨cb, X1, W1, ha, h1, h2, h3, h4, h5, h6, h7⟩ hm hx
    exact ⟨cb, X1, W1, ha, h1, hI _ _ _ _ _ h2 hm hx, h3, h4, h5, fun h => (hx cb h).elim h6 (fun h' => by have := h7.lt; omega), h7.mod hm h6⟩
  case assign =>
    intro l s x X W K h hn hK
    have hw := hX _ _ _ h
    have hnx : ¬ X W.heap.size := fun e => by have := hw.2 _ e; omega
    refine hassign l x W K (hK _ _ ⟨W.heap.size, X, W, rfl, h, ?_, hn, Nat.le_refl _, hw.1, hnx, Blk.new rfl⟩ (Saves.of_mod (Mod.alloc (fun _ => False) _ _) (fun _ _ _ h => h)))
    exact hI _ _ _ _ _ h (Mod.alloc _ _ _) (fun k hk => .inl hk)
  case body =>
    rintro l s x a' X W ⟨cb, X1, W1, rfl, h1, h2, h3, h4, h5, h6, h7⟩ hXl hr
    exact hbody l s x cb X X1 W1 W h1 h2 h3 h4 h5 h6 h7 hXl hr

/-- THE VARIABLE IN A SLOT (or none). -/
theorem wp_rangeVar {α σ : Type} {g : Operand} {ps : Array Tmp} {assign body : Code} {Q : Exit → Act → World → Prop} {a : Act} {w : World}
    {gf : Nat} {lb : Array Value} (hg : a.eval g = .func (.func gf) #[] lb) (eg : ∀ args w, (callFunc gf args).run P w = .ok (.enter gf args) w)
    {encs : α → Array Value} {nx : σ → α → Prop} {st : σ → α → σ} {fin : σ → Prop} {Rd : σ → World → Prop} {s0 : σ} (hit : Iter Fence.wide 2 P gf lb encs nx st fin Rd s0) (hps : ∀ x, (encs x).size = ps.size)
    (I : σ → (Nat → Prop) → World → Prop) (Ix : Code → (Nat → Prop) → World → Prop) (hI : Stab I) (hIx : ∀ c, Stab fun (_ : Unit) => Ix c) (hRd : ∀ s X W, I s X W → Rd s W) (h0 : I s0 (fun _ => False) w)
    (sets : α → List (Tmp × Value))
    (hassign : ∀ (l : Nat) (x : α) (W : World) (K : Act → World → Prop), K { tmps := (sets x).foldl (fun t p => t.setIfInBounds p.1 p.2) (laidIn ps (encs x) a.tmps), defers := [] } W →
      assign.wpIn (Fence.wide.inRound l) 1 P (Exit.then K (fun _ _ _ => False)) { tmps := laidIn ps (encs x) a.tmps, defers := [] } W)
    (hbody : ∀ (l : Nat) (s : σ) (x : α) (X : Nat → Prop) (W : World), I s X W → nx s x → X l → (∃ r, W.heap[l]? = some (.loop r)) →
      body.wpIn (Fence.wide.inRound l) 1 P (rpost I Ix (st s x) X W) { tmps := (sets x).foldl (fun t p => t.setIfInBounds p.1 p.2) (laidIn ps (encs x) a.tmps), defers := [] } W)
    (hdone : ∀ (D : Nat) (s : σ) (X : Nat → Prop) (W : World), w.heap.size ≤ D → X D → fin s → I s X W → W.heap[D]? = some (.deferred (some [])) → Q .normal { a with defers := { target := .collected D, args := #[] } :: a.defers } W)
    (hstop : ∀ (D : Nat) (c : Code) (X : Nat → Prop) (W : World), w.heap.size ≤ D → X D → Ix c X W → W.heap[D]? = some (.deferred (some [])) → c.wp P Q { a with defers := { target := .collected D, args := #[] } :: a.defers } W) :
    (Code.rangeFunc g ps assign body).wp P Q a w :=
  wp_range hg eg hit hps I Ix hI hIx hRd h0 (fun x => { tmps := (sets x).foldl (fun t p => t.setIfInBounds p.1 p.2) (laidIn ps (encs x) a.tmps), defers := [] })
    (fun l x W K hK => hassign l x W K hK) (fun l s x X W h hn hl hr => hbody l s x X W h hn hl hr) hdone hstop
end Go.Proofs.YtlfledeldhhllaaGreatDoor
