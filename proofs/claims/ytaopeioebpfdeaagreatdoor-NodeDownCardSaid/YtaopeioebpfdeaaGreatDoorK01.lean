/- PROVED HERE: THE FRAME RELATION AND THE LAW OF A RANGE OVER A FUNCTION, used by all walks of this seat. 'Mod X W W'': W' is W but for the blocks in X and for new blocks. 'Iter': what an iterator promises a loop's body, over whatever invariant does not mind the iterator's own blocks. 'wpIn_range': the loop's law. No condition. WHAT CLOSES A STATEMENT OF THE FORM 'the call returns true; each argument reads as it did' from a walk that turns nothing below the heap's old size: for parameters of whatever readable types. No condition beyond that. -/
import Derived.RangeFuncNested
import Derived.RangeFuncBound
import Derived.RangeFuncCalls
import Derived.RangeFuncLeaves
import Derived.Shelf.Abstract
import Derived.Shelf.RegionOpen
import Derived.WalkKit
import Derived.OwnWalkIn
import Derived.TacticsInMore
import Derived.LoopNIn
import Derived.LoopIn
import Derived.WalkSmall
import Derived.OpenVars
import Derived.ProofKit
import Derived.RowKitTokens
namespace Go.Proofs.YtaopeioebpfdeaaGreatDoor
open Go Go.RowKit

/-- W' is W but for the blocks in X, and for new blocks. -/
structure Mod (X : Nat → Prop) (W W' : World) : Prop where
  os : W'.os = W.os
  tape : W'.tape = W.tape
  output : W'.output = W.output
  size : W.heap.size ≤ W'.heap.size
  block : ∀ k, k < W.heap.size → ¬ X k → W'.heap[k]? = W.heap[k]?

theorem Mod.refl (X : Nat → Prop) (W : World) : Mod X W W := ⟨rfl, rfl, rfl, Nat.le_refl _, fun _ _ _ => rfl⟩
theorem Mod.trans {X Y Z : Nat → Prop} {A B C : World} (h : Mod X A B) (k : Mod Y B C) (hx : ∀ i, i < A.heap.size → X i → Z i) (hy : ∀ i, i < A.heap.size → Y i → Z i) : Mod Z A C :=
  ⟨k.os.trans h.os, k.tape.trans h.tape, k.output.trans h.output, Nat.le_trans h.size k.size,
    fun i hi hn => (k.block i (Nat.lt_of_lt_of_le hi h.size) (fun e => hn (hy i hi e))).trans (h.block i hi (fun e => hn (hx i hi e)))⟩
theorem Mod.mono {X Z : Nat → Prop} {A B : World} (h : Mod X A B) (hx : ∀ i, i < A.heap.size → X i → Z i) : Mod Z A B :=
  ⟨h.os, h.tape, h.output, h.size, fun i hi hn => h.block i hi (fun e => hn (hx i hi e))⟩
theorem Mod.of_below {W W' : World} (X : Nat → Prop) (h : Below W.heap.size W W') : Mod X W W' :=
  ⟨h.os, h.tape, h.output, h.size, fun k hk _ => h.block k hk⟩
theorem Mod.to_below {X : Nat → Prop} {B : Nat} {W W' : World} (h : Mod X W W') (hB : B ≤ W.heap.size) (hx : ∀ k, k < W.heap.size → X k → B ≤ k) : Below B W W' :=
  ⟨h.os, h.tape, h.output, h.size, fun k hk => h.block k (by omega) (fun e => by have := hx k (by omega) e; omega)⟩
theorem Mod.alloc (X : Nat → Prop) (W : World) (o : Obj) : Mod X W (W.alloc o) :=
  ⟨rfl, rfl, rfl, by simp, fun k hk _ => Below.heap_alloc W o k hk⟩
theorem Mod.setCell {X : Nat → Prop} (W : World) (a : Addr) (v : Value) (hx : X a.block) : Mod X W (W.setCell a v) :=
  ⟨rfl, rfl, rfl, by simp [World.setCell], fun k _ hn => Below.heap_setCell W a v k (fun e => hn (e ▸ hx))⟩
theorem Mod.drew (X : Nat → Prop) (W : World) : Mod X W W.drew := ⟨rfl, rfl, rfl, Nat.le_refl _, fun _ _ _ => rfl⟩
theorem Mod.putObj {X : Nat → Prop} (W : World) (r : Nat) (o : Obj) (hx : X r) : Mod X W (W.putObj r o) :=
  ⟨rfl, rfl, rfl, by simp, fun k _ hn => World.putObj_heap_other (fun e => hn (e ▸ hx))⟩
/- Chains. -/
theorem Mod.thenSet {X : Nat → Prop} {A W : World} (h : Mod X A W) {p : Addr} (hx : X p.block) (v : Value) : Mod X A (W.setCell p v) := h.trans (Mod.setCell W p v hx) (fun _ _ e => e) (fun _ _ e => e)
theorem Mod.thenAlloc {X : Nat → Prop} {A W : World} (h : Mod X A W) (o : Obj) : Mod X A (W.alloc o) := h.trans (Mod.alloc X W o) (fun _ _ e => e) (fun _ _ e => e)
theorem Mod.thenDrew {X : Nat → Prop} {A W : World} (h : Mod X A W) : Mod X A W.drew := h.trans (Mod.drew X W) (fun _ _ e => e) (fun _ _ e => e)
theorem Mod.thenCall {X : Nat → Prop} {A W W' : World} (h : Mod X A W) (hb : Below W.heap.size W W') : Mod X A W' := h.trans (Mod.of_below X hb) (fun _ _ e => e) (fun _ _ e => e)
theorem Mod.thenPut {X : Nat → Prop} {A W : World} (h : Mod X A W) {r : Nat} (hx : X r) (o : Obj) : Mod X A (W.putObj r o) := h.trans (Mod.putObj W r o hx) (fun _ _ e => e) (fun _ _ e => e)
theorem Mod.cell {X : Nat → Prop} {W W' : World} (h : Mod X W W') {p : Addr} (hp : p.block < W.heap.size) (hx : ¬ X p.block) : W'.cell? p = W.cell? p :=
  World.cell?_of_block (w := W) (h.block p.block hp hx)
theorem Mod.frozen {X : Nat → Prop} {W W' : World} (h : Mod X W W') {p : Addr} (hp : p.block < W.heap.size) (hx : ¬ X p.block) : W'.frozen? p = W.frozen? p :=
  World.frozen?_of_block (w := W) (h.block p.block hp hx)

theorem bcell {W w1 : World} (hb : Below W.heap.size W w1) : (∀ b o, b < W.heap.size → w1.cell? ⟨b, o, none⟩ = W.cell? ⟨b, o, none⟩) ∧ (∀ b o, b < W.heap.size → w1.frozen? ⟨b, o, none⟩ = W.frozen? ⟨b, o, none⟩) :=
  ⟨fun b o h => hb.cell (p := ⟨b, o, none⟩) h, fun b o h => hb.frozen (p := ⟨b, o, none⟩) h⟩

/- Chains of 'Below w.heap.size w W'. -/
theorem pb_trans {w W W' : World} (h : Below w.heap.size w W) (h2 : Below W.heap.size W W') : Below w.heap.size w W' := h.trans (h2.mono h.size)
theorem pb_alloc {w W : World} (h : Below w.heap.size w W) (o : Obj) : Below w.heap.size w (W.alloc o) := h.alloc h.size o
theorem pb_drew {w W : World} (h : Below w.heap.size w W) : Below w.heap.size w W.drew := h.drew
theorem pb_drewN {w W : World} (h : Below w.heap.size w W) (n : Nat) : Below w.heap.size w (W.drewN n) := below_drewN h n
theorem pb_set {w W : World} (h : Below w.heap.size w W) {p : Addr} (hp : w.heap.size ≤ p.block) (u : Value) : Below w.heap.size w (W.setCell p u) := h.setCell hp u

/-- Block b is a row of cells, no cell of it frozen. -/
def Blk (w : World) (b : Nat) (cs : Array Value) (t : TypeId) : Prop := w.heap[b]? = some (.cells cs t (0, 0))
theorem Blk.cell {w : World} {b : Nat} {cs : Array Value} {t : TypeId} (h : Blk w b cs t) (o : Nat) : w.cell? ⟨b, o, none⟩ = cs[o]? := by
  unfold Blk at h
  simp [World.cell?, h]
theorem Blk.frozen {w : World} {b : Nat} {cs : Array Value} {t : TypeId} (h : Blk w b cs t) (o : Nat) : w.frozen? ⟨b, o, none⟩ = false := by
  unfold Blk at h
  simp [World.frozen?, h]
theorem Blk.lt {w : World} {b : Nat} {cs : Array Value} {t : TypeId} (h : Blk w b cs t) : b < w.heap.size := (Array.getElem?_eq_some_iff.1 h).1
theorem Blk.kept {w w' : World} {b : Nat} {cs : Array Value} {t : TypeId} (h : Blk w b cs t) (hb : w'.heap[b]? = w.heap[b]?) : Blk w' b cs t := hb.trans h
theorem Blk.below {B : Nat} {w w' : World} {b : Nat} {cs : Array Value} {t : TypeId} (h : Blk w b cs t) (hb : Below B w w') (hB : b < B) : Blk w' b cs t := h.kept (hb.block b hB)
theorem Blk.call {w w' : World} {b : Nat} {cs : Array Value} {t : TypeId} (h : Blk w b cs t) (hb : Below w.heap.size w w') : Blk w' b cs t := h.below hb h.lt
theorem Blk.mod {X : Nat → Prop} {w w' : World} {b : Nat} {cs : Array Value} {t : TypeId} (h : Blk w b cs t) (hm : Mod X w w') (hx : ¬ X b) : Blk w' b cs t := h.kept (hm.block b h.lt hx)
theorem Blk.new {w : World} {b : Nat} {cs : Array Value} {t : TypeId} (hb : b = w.heap.size) : Blk (w.alloc (.cells cs t)) b cs t := by subst hb; exact World.alloc_heap_new w _
theorem Blk.alloc {w : World} {b : Nat} {cs : Array Value} {t : TypeId} (h : Blk w b cs t) (o : Obj) : Blk (w.alloc o) b cs t := h.kept (Below.heap_alloc w o b h.lt)
theorem Blk.drew {w : World} {b : Nat} {cs : Array Value} {t : TypeId} (h : Blk w b cs t) : Blk w.drew b cs t := h
theorem Blk.drewN {w : World} {b : Nat} {cs : Array Value} {t : TypeId} (h : Blk w b cs t) (n : Nat) : Blk (w.drewN n) b cs t := h
theorem Blk.other {w : World} {b : Nat} {cs : Array Value} {t : TypeId} (h : Blk w b cs t) {p : Addr} (hp : b ≠ p.block) (v : Value) : Blk (w.setCell p v) b cs t := h.kept (Below.heap_setCell w p v b hp)
theorem Blk.set {w : World} {b o : Nat} {cs : Array Value} {t : TypeId} (h : Blk w b cs t) (v : Value) : Blk (w.setCell ⟨b, o, none⟩ v) b (cs.setIfInBounds o v) t := by
  unfold Blk at h ⊢
  show (w.heap.modify b _)[b]? = _
  rw [Array.getElem?_modify, if_pos rfl, h]
  rfl
theorem Blk.putObj {w : World} {b r : Nat} {cs : Array Value} {t : TypeId} (h : Blk w b cs t) (hr : b ≠ r) (o : Obj) : Blk (w.putObj r o) b cs t := h.kept (World.putObj_heap_other hr)

/-- An invariant that does not mind what becomes of the blocks in X, nor new ones. -/
def Stab {σ : Type} (I : σ → (Nat → Prop) → World → Prop) : Prop :=
  ∀ s X X' W W', I s X W → Mod X W W' → (∀ k, X' k → X k ∨ (W.heap.size ≤ k ∧ k < W'.heap.size)) → I s X' W'
/-- The blocks in X are as they were. -/
def Saves (X : Nat → Prop) (W W' : World) : Prop := W.heap.size ≤ W'.heap.size ∧ ∀ k, X k → k < W.heap.size → W'.heap[k]? = W.heap[k]?
theorem Saves.refl (X : Nat → Prop) (W : World) : Saves X W W := ⟨Nat.le_refl _, fun _ _ _ => rfl⟩
theorem Saves.trans {X : Nat → Prop} {A B C : World} (h : Saves X A B) (k : Saves X B C) : Saves X A C :=
  ⟨Nat.le_trans h.1 k.1, fun i hx hi => (k.2 i hx (Nat.lt_of_lt_of_le hi h.1)).trans (h.2 i hx hi)⟩
theorem Saves.of_mod {X Y : Nat → Prop} {W W' : World} (h : Mod Y W W') (hd : ∀ k, k < W.heap.size → X k → ¬ Y k) : Saves X W W' :=
  ⟨h.size, fun k hx hk => h.block k hk (hd k hk hx)⟩
theorem Saves.cell {X : Nat → Prop} {W W' : World} (h : Saves X W W') {p : Addr} (hx : X p.block) (hp : p.block < W.heap.size) : W'.cell? p = W.cell? p :=
  World.cell?_of_block (w := W) (h.2 p.block hx hp)
theorem Saves.frozen {X : Nat → Prop} {W W' : World} (h : Saves X W W') {p : Addr} (hx : X p.block) (hp : p.block < W.heap.size) : W'.frozen? p = W.frozen? p :=
  World.frozen?_of_block (w := W) (h.2 p.block hx hp)

/-- All blocks in X are younger than W0; but for these, for new ones and for those in M all is as in W0. -/
def Fr (M : Nat → Prop) (W0 : World) (X : Nat → Prop) (W : World) : Prop := (∀ k, X k → W0.heap.size ≤ k ∧ k < W.heap.size) ∧ Mod M W0 W
theorem Fr.refl (M : Nat → Prop) (W : World) : Fr M W (fun _ => False) W := ⟨fun _ h => h.elim, Mod.refl M W⟩
theorem Fr.step {M X X' : Nat → Prop} {W0 W W' : World} (h : Fr M W0 X W) (hm : Mod X W W') (hx : ∀ k, X' k → X k ∨ (W.heap.size ≤ k ∧ k < W'.heap.size)) : Fr M W0 X' W' :=
  ⟨fun k hk => by
    have hs := hm.size
    rcases hx k hk with h1 | h1
    · have := h.1 k h1; omega
    · have := h.2.size; omega,
   h.2.trans hm (fun _ _ e => e) (fun i hi e => by have := h.1 i e; omega)⟩
/-- The next block is none of them. -/
theorem Fr.next {M X : Nat → Prop} {W0 W : World} (h : Fr M W0 X W) : ¬ X W.heap.size := fun e => by have := h.1 _ e; omega
theorem Fr.cell {M X : Nat → Prop} {W0 W W' : World} (h : Fr M W0 X W) (hm : Mod X W W') {p : Addr} (hp : p.block < W0.heap.size) : W'.cell? p = W.cell? p :=
  hm.cell (Nat.lt_of_lt_of_le hp h.2.size) (fun e => by have := h.1 _ e; omega)
theorem Fr.frozen {M X : Nat → Prop} {W0 W W' : World} (h : Fr M W0 X W) (hm : Mod X W W') {p : Addr} (hp : p.block < W0.heap.size) : W'.frozen? p = W.frozen? p :=
  hm.frozen (Nat.lt_of_lt_of_le hp h.2.size) (fun e => by have := h.1 _ e; omega)
theorem Fr.block {M X : Nat → Prop} {W0 W W' : World} (h : Fr M W0 X W) (hm : Mod X W W') {k : Nat} (hp : k < W0.heap.size) : W'.heap[k]? = W.heap[k]? :=
  hm.block k (Nat.lt_of_lt_of_le hp h.2.size) (fun e => by have := h.1 _ e; omega)

theorem Fr.mod {M X Y : Nat → Prop} {W0 W W' : World} (h : Fr M W0 X W) (hm : Mod Y W W') (hy : ∀ k, k < W0.heap.size → Y k → M k) : Fr M W0 X W' :=
  ⟨fun k hk => by have := h.1 k hk; have := hm.size; omega, h.2.trans hm (fun _ _ e => e) hy⟩
theorem heap_set {w : World} {D : Nat} {o : Obj} {p : Addr} (h : w.heap[D]? = some o) (hp : D ≠ p.block) (v : Value) : (w.setCell p v).heap[D]? = some o := (Below.heap_setCell w p v D hp).trans h
theorem Fr.wider {M M' X : Nat → Prop} {W0 W : World} (h : Fr M W0 X W) (hy : ∀ k, M k → M' k) : Fr M' W0 X W := ⟨h.1, h.2.mono (fun k _ e => hy k e)⟩
theorem Fr.below {M X : Nat → Prop} {W0 W : World} {B : Nat} (h : Fr M W0 X W) (hB : B ≤ W0.heap.size) (hM : ∀ k, M k → B ≤ k) : Below B W0 W := h.2.to_below hB (fun k _ e => hM k e)
theorem below_putObj {B : Nat} {a w : World} (h : Below B a w) {r : Nat} (hr : B ≤ r) (o : Obj) : Below B a (w.putObj r o) :=
  h.trans ⟨rfl, rfl, rfl, by simp, fun k hk => World.putObj_heap_other (by omega)⟩

/-- WHAT AN ITERATOR PROMISES. 's' says where it stands, 'nx s x' that x comes next, 'st s x' where it stands then, 'fin s' that it is at its end; 'Rd s W': what it reads. -/
def Iter (F : Fence) (n : Nat) (P : Program) (gf : Nat) (lb : Array Value) {α σ : Type} (encs : α → Array Value) (nx : σ → α → Prop) (st : σ → α → σ) (fin : σ → Prop) (Rd : σ → World → Prop) (s0 : σ) : Prop :=
  ∀ (l : Nat) (J : σ → (Nat → Prop) → World → Prop) (Jx : Unit → (Nat → Prop) → World → Prop) (W : World),
    Stab J → Stab Jx → (∀ s X W, J s X W → Rd s W) →
    (∀ s x X W, J s X W → nx s x → YieldAt F (n - 1) P l (encs x) W fun e W' =>
      (e = .returned (.bool true) ∧ J (st s x) X W' ∧ Saves X W W') ∨ (e = .returned (.bool false) ∧ Jx () X W')) →
    J s0 (fun _ => False) W →
    CallsIn F n P gf (#[.func (.yield l) #[] #[]] ++ lb) W fun e W' => (∃ v, e = .returned v) ∧
      ((∃ s X, fin s ∧ J s X W') ∨ (∃ X, Jx () X W'))

/-- HOW A ROUND MAY BE LEFT. -/
def rpost {σ : Type} (I : σ → (Nat → Prop) → World → Prop) (Ix : Code → (Nat → Prop) → World → Prop) (s' : σ) (X : Nat → Prop) (W : World) : Exit → Act → World → Prop
  | .normal, _, W' => I s' X W' ∧ Saves X W W'
  | .ret, _, W' => Ix .ret X W' ∧ Saves X W W'
  | .exit id, _, W' => Ix (.exit id) X W' ∧ Saves X W W'
  | .goto t, _, W' => Ix (.goto t) X W' ∧ Saves X W W'
  | .panic _, _, _ => False
  | .outgrown, _, _ => False

variable {F : Fence} {n : Nat} {P : Program}

/-- THE LAW. 'Ax': what holds behind the assignment to the loop's left sides. -/
theorem wpIn_rangeA {α σ : Type} {g : Operand} {ps : Array Tmp} {assign body : Code} {Q : Exit → Act → World → Prop} {a : Act} {w : World}
    (hro : F.round = none) (h1 : 1 ≤ n) {gf : Nat} {lb : Array Value} (hg : a.eval g = .func (.func gf) #[] lb) (hFg : F.fn gf) (eg : ∀ args w, (callFunc gf args).run P w = .ok (.enter gf args) w)
    {encs : α → Array Value} {nx : σ → α → Prop} {st : σ → α → σ} {fin : σ → Prop} {Rd : σ → World → Prop} {s0 : σ} (hit : Iter F (n - 1) P gf lb encs nx st fin Rd s0) (hps : ∀ x, (encs x).size = ps.size)
    (I : σ → (Nat → Prop) → World → Prop) (Ix : Code → (Nat → Prop) → World → Prop) (hI : Stab I) (hIx : ∀ c, Stab fun (_ : Unit) => Ix c) (hRd : ∀ s X W, I s X W → Rd s W) (h0 : I s0 (fun _ => False) w)
    (Ax : σ → α → Act → (Nat → Prop) → World → Prop) (hAx : ∀ s x a', Stab fun (_ : Unit) => Ax s x a')
    (hassign : ∀ (l : Nat) (s : σ) (x : α) (X : Nat → Prop) (W : World) (K : Act → World → Prop), I s X W → nx s x → (∀ a' W', Ax s x a' X W' → Saves X W W' → K a' W') →
      assign.wpIn (F.inRound l) (n - 1 - 1) P (Exit.then K (fun _ _ _ => False)) { tmps := (ps.zip (encs x)).foldl (fun t (p, v) => t.setIfInBounds p v) a.tmps, defers := [] } W)
    (hbody : ∀ (l : Nat) (s : σ) (x : α) (a' : Act) (X : Nat → Prop) (W : World), Ax s x a' X W → X l → (∃ r, W.heap[l]? = some (.loop r)) →
      body.wpIn (F.inRound l) (n - 1 - 1) P (rpost I Ix (st s x) X W) a' W)
    (hdone : ∀ (D : Nat) (s : σ) (X : Nat → Prop) (W : World), w.heap.size ≤ D → X D → fin s → I s X W → W.heap[D]? = some (.deferred (some [])) → Q .normal { a with defers := { target := .collected D, args := #[] } :: a.defers } W)
    (hstop : ∀ (D : Nat) (c : Code) (X : Nat → Prop) (W : World), w.heap.size ≤ D → X D → Ix c X W → W.heap[D]? = some (.deferred (some [])) → c.wpIn F n P Q { a with defers := { target := .collected D, args := #[] } :: a.defers } W) :
    (Code.rangeFunc g ps assign body).wpIn F n P Q a w := by
  refine wpIn_rangeFunc ?_
  intro fn hfn
  rw [hro]
  obtain ⟨rec, hrec⟩ : ∃ rec : LoopState → Option Code → Loop, rec = fun st pe => { state := st, pending := pe, fn, tmps := a.tmps, params := ps, assign, body, defers := w.heap.size } := ⟨_, rfl⟩
  obtain ⟨W1, hW1⟩ : ∃ W1, (w.alloc (.deferred (some []))).alloc (.loop (rec .ready none)) = W1 := ⟨_, rfl⟩
  have hL1 : W1.heap[w.heap.size + 1]? = some (.loop (rec .ready none)) := by
    rw [← hW1]; have := World.alloc_heap_new (w.alloc (.deferred (some []))) (.loop (rec .ready none)); rwa [World.size_alloc] at this
  have hK1 : W1.heap[w.heap.size]? = some (.deferred (some [])) := by
    rw [← hW1]; exact (Below.heap_alloc _ _ _ (by simp)).trans (World.alloc_heap_new w _)
  have hm1 : Mod (fun _ => False) w W1 := by
    rw [← hW1]; exact (Mod.alloc _ w _).trans (Mod.alloc (fun _ => False) _ _) (fun _ _ h => h) (fun _ _ h => h)
  -- THE BLOCKS THAT THE INVARIANT DOES NOT MIND: the iterator's, the record, the block for deferred calls
  obtain ⟨Y, hY⟩ : ∃ Y : (Nat → Prop) → Nat → Prop, Y = fun X k => X k ∨ k = w.heap.size ∨ k = w.heap.size + 1 := ⟨_, rfl⟩
  have hYd : ∀ X, Y X w.heap.size := fun X => by rw [hY]; exact .inr (.inl rfl)
  have hYl : ∀ X, Y X (w.heap.size + 1) := fun X => by rw [hY]; exact .inr (.inr rfl)
  have hI1 : I s0 (Y fun _ => False) W1 := by
    refine hI _ _ _ _ _ h0 hm1 (fun k hk => ?_)
    rw [hY] at hk
    rcases hk with h | h | h
    · exact .inl h
    · right; have := (Array.getElem?_eq_some_iff.1 hK1).1; omega
    · right; have := (Array.getElem?_eq_some_iff.1 hL1).1; omega
  refine ⟨w.heap.size + 1, [{ target := .collected w.heap.size, args := #[] }], W1, { target := .fn (.func gf) lb, args := #[.func (.yield (w.heap.size + 1)) #[] #[]] }, W1, gf,
    #[.func (.yield (w.heap.size + 1)) #[] #[]] ++ lb, W1, ?_, ?_, ?_, ?_, fun _ => h1, ?_⟩
  · rw [← hW1, hrec]; exact run_enterLoop_outer _ _ _ _ _
  · simp only [resolve, hg]
    simp [go_sem]
  · intro f' hf'; simp [Target.leads] at hf'; subst hf'; exact hFg
  · simp [invoke, go_sem, eg]
  · have hput : ∀ {σ' : Type} {I' : σ' → (Nat → Prop) → World → Prop} (_ : Stab I') (s : σ') (X : Nat → Prop) (W : World) (r : Nat) (o : Obj), Y X r → I' s (Y X) W → I' s (Y X) (W.putObj r o) :=
      fun hst s X W r o hr h => hst _ _ _ _ _ h (Mod.putObj W r o hr) (fun k hk => .inl hk)
    have hstab : ∀ {σ' : Type} (I' : σ' → (Nat → Prop) → World → Prop) (_ : Stab I') (ol : Obj),
        Stab (fun s X W => I' s (Y X) W ∧ ¬ X w.heap.size ∧ ¬ X (w.heap.size + 1) ∧ W.heap[w.heap.size + 1]? = some ol ∧ W.heap[w.heap.size]? = some (.deferred (some []))) := by
      intro σ' I' hst ol s X X' W W' ⟨hi, hd, hl, hol, hod⟩ hm hx
      have hlt := (Array.getElem?_eq_some_iff.1 hol).1
      refine ⟨hst _ _ _ _ _ hi (hm.mono (fun k _ h => by rw [hY]; exact .inl h)) (fun k hk => ?_), fun h => ?_, fun h => ?_, ?_, ?_⟩
      · rw [hY] at hk ⊢
        rcases hk with h | h | h
        · rcases hx k h with h | h
          · exact .inl (.inl h)
          · exact .inr h
        · exact .inl (.inr (.inl h))
        · exact .inl (.inr (.inr h))
      · rcases hx _ h with h | h
        · exact hd h
        · omega
      · rcases hx _ h with h | h
        · exact hl h
        · omega
      · rw [hm.block _ hlt hl]; exact hol
      · rw [hm.block _ (by omega) hd]; exact hod
    refine (hit (w.heap.size + 1)
      (fun s X W => I s (Y X) W ∧ ¬ X w.heap.size ∧ ¬ X (w.heap.size + 1) ∧ W.heap[w.heap.size + 1]? = some (.loop (rec .ready none)) ∧ W.heap[w.heap.size]? = some (.deferred (some [])))
      (fun _ X W => ∃ c, Ix c (Y X) W ∧ ¬ X w.heap.size ∧ ¬ X (w.heap.size + 1) ∧ W.heap[w.heap.size + 1]? = some (.loop (rec .done (some c))) ∧ W.heap[w.heap.size]? = some (.deferred (some [])))
      W1 (hstab I hI _)
      (fun s X X' W W' ⟨c, h⟩ hm hx => ⟨c, hstab (fun (_ : Unit) => Ix c) (hIx c) _ s X X' W W' h hm hx⟩)
      (fun s X W h => hRd s _ W h.1) ?_ ⟨hI1, fun h => h, fun h => h, hL1, hK1⟩).mono ?_
    · -- ONE ROUND
      rintro s x X W ⟨hi, hd, hl0, hl, hk⟩ hnx
      have hlt : w.heap.size + 1 < W.heap.size := (Array.getElem?_eq_some_iff.1 hl).1
      have hy := run_yield (P := P) (args := encs x) hl (by rw [hrec]; exact hps x)
      rw [hrec] at hy
      refine ⟨fn, _, assign, body, hy, roundIn_of_wpIn hfn (hassign _ s x (Y X) W _ hi hnx ?_)⟩
      intro a' Wa hax hsv
      have hla : Wa.heap[w.heap.size + 1]? = some (.loop (rec .ready none)) := (hsv.2 _ (hYl X) hlt).trans hl
      have hka : Wa.heap[w.heap.size]? = some (.deferred (some [])) := (hsv.2 _ (hYd X) (by omega)).trans hk
      have hlta : w.heap.size + 1 < Wa.heap.size := (Array.getElem?_eq_some_iff.1 hla).1
      refine ⟨_, run_beginRound hla (by rw [hrec]), ?_⟩
      obtain ⟨W2, hW2⟩ : ∃ W2, Wa.putObj (w.heap.size + 1) (.loop { rec .ready none with state := .busy }) = W2 := ⟨_, rfl⟩
      have hl2 : W2.heap[w.heap.size + 1]? = some (.loop { rec .ready none with state := .busy }) := by rw [← hW2]; exact World.putObj_heap_same hlta
      have hk2 : W2.heap[w.heap.size]? = some (.deferred (some [])) := by rw [← hW2]; exact (World.putObj_heap_other (by omega)).trans hka
      have hax2 : Ax s x a' (Y X) W2 := by rw [← hW2]; exact hput (hAx s x a') () X Wa _ _ (hYl X) hax
      have hsz2 : W2.heap.size = Wa.heap.size := by rw [← hW2]; simp
      rw [hW2]
      refine wpIn_mono (hbody _ s x a' (Y X) W2 hax2 (hYl X) ⟨_, hl2⟩) ?_
      have fin : ∀ (jump : Option Code) (W3 : World), Saves (Y X) W2 W3 →
          (Instr.endRound (w.heap.size + 1) jump).run P W3 = .ok (.bool jump.isNone) (W3.putObj (w.heap.size + 1) (.loop (rec (if jump.isNone then .ready else .done) jump))) ∧
          (W3.putObj (w.heap.size + 1) (.loop (rec (if jump.isNone then .ready else .done) jump))).heap[w.heap.size + 1]? = some (.loop (rec (if jump.isNone then .ready else .done) jump)) ∧
          (W3.putObj (w.heap.size + 1) (.loop (rec (if jump.isNone then .ready else .done) jump))).heap[w.heap.size]? = some (.deferred (some [])) ∧
          Saves X W (W3.putObj (w.heap.size + 1) (.loop (rec (if jump.isNone then .ready else .done) jump))) := fun jump W3 hk3 => by
        have hlt2 := (Array.getElem?_eq_some_iff.1 hl2).1
        have hl3 := (hk3.2 _ (hYl X) hlt2).trans hl2
        have hk3' := (hk3.2 _ (hYd X) (by omega)).trans hk2
        have := run_endRound (P := P) jump hl3
        rw [hrec] at this ⊢
        refine ⟨this, World.putObj_heap_same (Array.getElem?_eq_some_iff.1 hl3).1, (World.putObj_heap_other (by omega)).trans hk3', ?_, ?_⟩
        · have := hsv.1; have := hk3.1; simp; omega
        · intro k hx hk
          have hne : k ≠ w.heap.size + 1 := fun e => hl0 (e ▸ hx)
          rw [World.putObj_heap_other hne]
          have hYk : Y X k := by rw [hY]; exact .inl hx
          have h2 := hk3.2 k hYk (by have := hsv.1; omega)
          have h3 : W2.heap[k]? = Wa.heap[k]? := by rw [← hW2]; exact World.putObj_heap_other hne
          rw [h2, h3]
          exact hsv.2 k hYk hk
      rintro e a3 W3 hp
      cases e with
      | normal =>
        obtain ⟨hi3, hk3⟩ := hp
        obtain ⟨hr, hl4, hk4, hs4⟩ := fin none W3 hk3
        exact ⟨_, _, hr, .inl ⟨rfl, ⟨hput hI _ X W3 _ _ (hYl X) hi3, hd, hl0, hl4, hk4⟩, hs4⟩⟩
      | ret =>
        obtain ⟨hi3, hk3⟩ := hp
        obtain ⟨hr, hl4, hk4, hs4⟩ := fin (some .ret) W3 hk3
        exact ⟨_, _, hr, .inr ⟨rfl, .ret, hput (hIx _) () X W3 _ _ (hYl X) hi3, hd, hl0, hl4, hk4⟩⟩
      | exit id =>
        obtain ⟨hi3, hk3⟩ := hp
        obtain ⟨hr, hl4, hk4, hs4⟩ := fin (some (.exit id)) W3 hk3
        exact ⟨_, _, hr, .inr ⟨rfl, .exit id, hput (hIx _) () X W3 _ _ (hYl X) hi3, hd, hl0, hl4, hk4⟩⟩
      | goto t =>
        obtain ⟨hi3, hk3⟩ := hp
        obtain ⟨hr, hl4, hk4, hs4⟩ := fin (some (.goto t)) W3 hk3
        exact ⟨_, _, hr, .inr ⟨rfl, .goto t, hput (hIx _) () X W3 _ _ (hYl X) hi3, hd, hl0, hl4, hk4⟩⟩
      | panic ch => exact hp.elim
      | outgrown => exact hp.elim
    · -- BEHIND THE ITERATOR
      rintro e W2 ⟨⟨v, rfl⟩, (⟨s, X, hS, hi, hd, hl0, hl, hk⟩ | ⟨X, c, hi, hd, hl0, hl, hk⟩)⟩
      · exact ⟨none, _, by have := run_endLoop (P := P) hl (by rw [hrec]; simp); rw [hrec] at this; exact this, hdone _ s (Y X) _ (Nat.le_refl _) (hYd X) hS (hput hI _ X W2 _ _ (hYl X) hi) ((World.putObj_heap_other (by omega)).trans hk)⟩
      · exact ⟨some c, _, by have := run_endLoop (P := P) hl (by rw [hrec]; simp); rw [hrec] at this; exact this, hstop _ c (Y X) _ (Nat.le_refl _) (hYd X) (hput (hIx c) () X W2 _ _ (hYl X) hi) ((World.putObj_heap_other (by omega)).trans hk)⟩

/-- THE LAW, where the assignment to the loop's left sides makes no memory. -/
theorem wpIn_range {α σ : Type} {g : Operand} {ps : Array Tmp} {assign body : Code} {Q : Exit → Act → World → Prop} {a : Act} {w : World}
    (hro : F.round = none) (h1 : 1 ≤ n) {gf : Nat} {lb : Array Value} (hg : a.eval g = .func (.func gf) #[] lb) (hFg : F.fn gf) (eg : ∀ args w, (callFunc gf args).run P w = .ok (.enter gf args) w)
    {encs : α → Array Value} {nx : σ → α → Prop} {st : σ → α → σ} {fin : σ → Prop} {Rd : σ → World → Prop} {s0 : σ} (hit : Iter F (n - 1) P gf lb encs nx st fin Rd s0) (hps : ∀ x, (encs x).size = ps.size)
    (I : σ → (Nat → Prop) → World → Prop) (Ix : Code → (Nat → Prop) → World → Prop) (hI : Stab I) (hIx : ∀ c, Stab fun (_ : Unit) => Ix c) (hRd : ∀ s X W, I s X W → Rd s W) (h0 : I s0 (fun _ => False) w)
    (a₁ : α → Act)
    (hassign : ∀ (l : Nat) (x : α) (W : World) (K : Act → World → Prop), K (a₁ x) W →
      assign.wpIn (F.inRound l) (n - 1 - 1) P (Exit.then K (fun _ _ _ => False)) { tmps := (ps.zip (encs x)).foldl (fun t (p, v) => t.setIfInBounds p v) a.tmps, defers := [] } W)
    (hbody : ∀ (l : Nat) (s : σ) (x : α) (X : Nat → Prop) (W : World), I s X W → nx s x → X l → (∃ r, W.heap[l]? = some (.loop r)) →
      body.wpIn (F.inRound l) (n - 1 - 1) P (rpost I Ix (st s x) X W) (a₁ x) W)
    (hdone : ∀ (D : Nat) (s : σ) (X : Nat → Prop) (W : World), w.heap.size ≤ D → X D → fin s → I s X W → W.heap[D]? = some (.deferred (some [])) → Q .normal { a with defers := { target := .collected D, args := #[] } :: a.defers } W)
    (hstop : ∀ (D : Nat) (c : Code) (X : Nat → Prop) (W : World), w.heap.size ≤ D → X D → Ix c X W → W.heap[D]? = some (.deferred (some [])) → c.wpIn F n P Q { a with defers := { target := .collected D, args := #[] } :: a.defers } W) :
    (Code.rangeFunc g ps assign body).wpIn F n P Q a w :=
  wpIn_rangeA hro h1 hg hFg eg hit hps I Ix hI hIx hRd h0 (fun s x a' X W => a' = a₁ x ∧ nx s x ∧ I s X W)
    (fun s x a' _ X X' W W' h hm hx => ⟨h.1, h.2.1, hI _ _ _ _ _ h.2.2 hm hx⟩)
    (fun l s x X W K hi hn hK => hassign l x W K (hK _ W ⟨rfl, hn, hi⟩ (Saves.refl X W)))
    (fun l s x a' X W h hl hr => by obtain ⟨rfl, hn, hi⟩ := h; exact hbody l s x X W hi hn hl hr)
    hdone hstop

/-- WHERE ALL WAYS THROUGH A PIECE OF CODE COME TO ONE FRAME: walk the piece, let its ways end there, go on once. -/
theorem wpIn_same {c : Code} {Q : Exit → Act → World → Prop} {a A : Act} {w : World} {Wp : World → Prop} (h : c.wpIn F n P (fun e a' w' => e = .normal ∧ a' = A ∧ Wp w') a w) (h2 : ∀ w', Wp w' → Q .normal A w') : c.wpIn F n P Q a w :=
  wpIn_mono h (fun e a' w' ⟨he, ha, hw⟩ => by subst he; subst ha; exact h2 w' hw)
/-- A call's contract from its body's walk, where the body holds a range over a function. -/
theorem calls_of_wp_marks {f : FuncId} {fn : Func} {c : Code} {args : Array Value} {w : World} {R : Ending → World → Prop}
    (hf : P.funcs[f]? = some fn) (hb : fn.body = some c)
    (h : c.wp P (bodyPostM Fence.wide 3 P fn R) { tmps := args ++ Array.replicate (fn.ntmps - args.size) undef, defers := [] } w) : Calls P f args w R :=
  (callsIn_wide (n := 3)).1 (callsIn_of_wp_marks hf hb trivial (wpIn_wide.2 h) rfl)

/-- A contract goes into a round as it is. -/
theorem inRound {f : FuncId} {args : Array Value} {w : World} {R : Ending → World → Prop} (l m : Nat) (h : Calls P f args w R) : CallsIn (Fence.wide.inRound l) m P f args w R :=
  CallsIn.inRound l (callsIn_wide.2 h)

theorem wide_fn (f : FuncId) : Fence.wide.fn f = True := rfl
theorem wide_depth : Fence.wide.depth = none := rfl

/-- A function's end, no loop's mark met. -/
theorem end_mark0 {fn : Func} {R : Ending → World → Prop} {tmps : Array Value} {w : World} {v : Value} {m : Nat}
    (hr : (results fn tmps).run P w = .ok v w) (hR : R (.returned v) w) : bodyPostM Fence.wide m P fn R .ret { tmps, defers := [] } w := ⟨v, hr, hR⟩
/-- A function's end behind one loop. -/
theorem end_mark1 {fn : Func} {R : Ending → World → Prop} {tmps : Array Value} {w : World} {v : Value} {m D : Nat} (hD : w.heap[D]? = some (.deferred (some [])))
    (hr : (results fn tmps).run P (w.putObj D (.deferred none)) = .ok v (w.putObj D (.deferred none))) (hR : R (.returned v) (w.putObj D (.deferred none))) :
    bodyPostM Fence.wide m P fn R .ret { tmps, defers := [{ target := .collected D, args := #[] }] } w :=
  ⟨by simp, .inl ⟨D, _, rfl, run_takeDeferred hD, v, hr, hR⟩⟩
theorem end_mark1n {fn : Func} {R : Ending → World → Prop} {tmps : Array Value} {w : World} {v : Value} {m D : Nat} (hD : w.heap[D]? = some (.deferred (some [])))
    (hr : (results fn tmps).run P (w.putObj D (.deferred none)) = .ok v (w.putObj D (.deferred none))) (hR : R (.returned v) (w.putObj D (.deferred none))) :
    bodyPostM Fence.wide m P fn R .normal { tmps, defers := [{ target := .collected D, args := #[] }] } w :=
  ⟨by simp, .inl ⟨D, _, rfl, run_takeDeferred hD, v, hr, hR⟩⟩

/-- THE LAW outside a round, where the assignment makes memory. -/
theorem wp_rangeA {α σ : Type} {g : Operand} {ps : Array Tmp} {assign body : Code} {Q : Exit → Act → World → Prop} {a : Act} {w : World}
    {gf : Nat} {lb : Array Value} (hg : a.eval g = .func (.func gf) #[] lb) (eg : ∀ args w, (callFunc gf args).run P w = .ok (.enter gf args) w)
    {encs : α → Array Value} {nx : σ → α → Prop} {st : σ → α → σ} {fin : σ → Prop} {Rd : σ → World → Prop} {s0 : σ} (hit : Iter Fence.wide 2 P gf lb encs nx st fin Rd s0) (hps : ∀ x, (encs x).size = ps.size)
    (I : σ → (Nat → Prop) → World → Prop) (Ix : Code → (Nat → Prop) → World → Prop) (hI : Stab I) (hIx : ∀ c, Stab fun (_ : Unit) => Ix c) (hRd : ∀ s X W, I s X W → Rd s W) (h0 : I s0 (fun _ => False) w)
    (Ax : σ → α → Act → (Nat → Prop) → World → Prop) (hAx : ∀ s x a', Stab fun (_ : Unit) => Ax s x a')
    (hassign : ∀ (l : Nat) (s : σ) (x : α) (X : Nat → Prop) (W : World) (K : Act → World → Prop), I s X W → nx s x → (∀ a' W', Ax s x a' X W' → Saves X W W' → K a' W') →
      assign.wpIn (Fence.wide.inRound l) 1 P (Exit.then K (fun _ _ _ => False)) { tmps := (ps.zip (encs x)).foldl (fun t (p, v) => t.setIfInBounds p v) a.tmps, defers := [] } W)
    (hbody : ∀ (l : Nat) (s : σ) (x : α) (a' : Act) (X : Nat → Prop) (W : World), Ax s x a' X W → X l → (∃ r, W.heap[l]? = some (.loop r)) →
      body.wpIn (Fence.wide.inRound l) 1 P (rpost I Ix (st s x) X W) a' W)
    (hdone : ∀ (D : Nat) (s : σ) (X : Nat → Prop) (W : World), w.heap.size ≤ D → X D → fin s → I s X W → W.heap[D]? = some (.deferred (some [])) → Q .normal { a with defers := { target := .collected D, args := #[] } :: a.defers } W)
    (hstop : ∀ (D : Nat) (c : Code) (X : Nat → Prop) (W : World), w.heap.size ≤ D → X D → Ix c X W → W.heap[D]? = some (.deferred (some [])) → c.wp P Q { a with defers := { target := .collected D, args := #[] } :: a.defers } W) :
    (Code.rangeFunc g ps assign body).wp P Q a w :=
  (wpIn_wide (n := 3)).1 (wpIn_rangeA (F := Fence.wide) (n := 3) rfl (by omega) hg trivial eg hit hps I Ix hI hIx hRd h0 Ax hAx hassign hbody hdone
    (fun D c X W h1 h2 h3 h4 => wpIn_wide.2 (hstop D c X W h1 h2 h3 h4)))

/-- THE LAW outside a round, in the plain walk's form. -/
theorem wp_range {α σ : Type} {g : Operand} {ps : Array Tmp} {assign body : Code} {Q : Exit → Act → World → Prop} {a : Act} {w : World}
    {gf : Nat} {lb : Array Value} (hg : a.eval g = .func (.func gf) #[] lb) (eg : ∀ args w, (callFunc gf args).run P w = .ok (.enter gf args) w)
    {encs : α → Array Value} {nx : σ → α → Prop} {st : σ → α → σ} {fin : σ → Prop} {Rd : σ → World → Prop} {s0 : σ} (hit : Iter Fence.wide 2 P gf lb encs nx st fin Rd s0) (hps : ∀ x, (encs x).size = ps.size)
    (I : σ → (Nat → Prop) → World → Prop) (Ix : Code → (Nat → Prop) → World → Prop) (hI : Stab I) (hIx : ∀ c, Stab fun (_ : Unit) => Ix c) (hRd : ∀ s X W, I s X W → Rd s W) (h0 : I s0 (fun _ => False) w)
    (a₁ : α → Act)
    (hassign : ∀ (l : Nat) (x : α) (W : World) (K : Act → World → Prop), K (a₁ x) W →
      assign.wpIn (Fence.wide.inRound l) 1 P (Exit.then K (fun _ _ _ => False)) { tmps := (ps.zip (encs x)).foldl (fun t (p, v) => t.setIfInBounds p v) a.tmps, defers := [] } W)
    (hbody : ∀ (l : Nat) (s : σ) (x : α) (X : Nat → Prop) (W : World), I s X W → nx s x → X l → (∃ r, W.heap[l]? = some (.loop r)) →
      body.wpIn (Fence.wide.inRound l) 1 P (rpost I Ix (st s x) X W) (a₁ x) W)
    (hdone : ∀ (D : Nat) (s : σ) (X : Nat → Prop) (W : World), w.heap.size ≤ D → X D → fin s → I s X W → W.heap[D]? = some (.deferred (some [])) → Q .normal { a with defers := { target := .collected D, args := #[] } :: a.defers } W)
    (hstop : ∀ (D : Nat) (c : Code) (X : Nat → Prop) (W : World), w.heap.size ≤ D → X D → Ix c X W → W.heap[D]? = some (.deferred (some [])) → c.wp P Q { a with defers := { target := .collected D, args := #[] } :: a.defers } W) :
    (Code.rangeFunc g ps assign body).wp P Q a w :=
  (wpIn_wide (n := 3)).1 (wpIn_range (F := Fence.wide) (n := 3) rfl (by omega) hg trivial eg hit hps I Ix hI hIx hRd h0 a₁ hassign hbody hdone
    (fun D c X W h1 h2 h3 h4 => wpIn_wide.2 (hstop D c X W h1 h2 h3 h4)))
end Go.Proofs.YtaopeioebpfdeaaGreatDoor
namespace Go.Proofs.YtaopeioebpfdeaaGreatDoor
open Go Go.RowKit Go.ChangeShapes Go.WideShapes Go.ChangeAt

/-- Each of the types can be read and is a row of the table. -/
def typesRowed (P : Program) (ts : List TypeId) : Bool := ts.all fun t => P.readableRec t && decide (t < P.types.size)

theorem below_trodAll {H : Type} {enc : TypeId × Value → H} {P : Program} (hl : laidOutB P = true) {W W' : World} (hb : Below W.heap.size W W') :
    ∀ {ts : List TypeId} {vs : List Value} {ds : List (DataW H)} {ps : List MemPlace}, typesRowed P ts = true → (∀ x ∈ ps, x.block < W.heap.size) → DataW.TrodAll enc P W 0 (fun _ => true) true ts vs ds ps →
      DataW.TrodAll enc P W' 0 (fun b => decide (b < W.heap.size)) true ts vs ds ps
  | [], [], [], _, _, _, h => h
  | [], [], _ :: _, _, _, _, h => h.elim
  | [], _ :: _, _, _, _, _, h => h.elim
  | _ :: _, [], _, _, _, _, h => h.elim
  | _ :: _, _ :: _, [], _, _, _, h => h.elim
  | t :: ts, v :: vs, d :: ds, ps, ht, hlt, h => by
    obtain ⟨p, q, h1, h2, rfl⟩ := h
    simp only [typesRowed, List.all_cons, Bool.and_eq_true, decide_eq_true_eq] at ht
    exact ⟨p, q, Below.trod hl ht.1.1 ht.1.2 h1 hb (fun x hx => hlt x (by simp [hx])), below_trodAll hl hb (by simpa [typesRowed] using ht.2) (fun x hx => hlt x (by simp [hx])) h2, rfl⟩

/-- THE END OF A LAW's PROOF. -/
theorem law_post {H : Type} {enc : TypeId × Value → H} {P : Program} {f : Func} {s : ChangeSpec} {W W' : World} {args : Array Value} {ds gs : List (DataW H)} {before : List MemPlace} {tb : TypeId}
    (hl : laidOutB P = true) (hr : typesRowed P f.params.toList = true) (hvs : varsRowed P s.vars = true) (hrt : f.resultTypes = #[tb]) (htb : P.underlying tb = some .bool)
    (hfn : s.fn H (ds ++ gs) = { results := [.lit (.bool true)], args := ds, vars := gs })
    (hW : DataW.Whole enc P f.params.toList s.vars false W args.toList ds gs before) (hb : Below W.heap.size W W') :
    s.post enc P f false true false false W args (.bool true) W' := by
  have hlt := hW.lt
  have hW' := hW
  obtain ⟨p, q, hA, hV, rfl, _, _⟩ := hW
  refine ⟨ds, gs, p ++ q, [], p, q, hW', ?_, ?_, ?_, hb.frame _, fun h => by cases h⟩
  · rw [hfn, hrt]
    exact trodAll_mk1 (shut_bool htb true)
  · rw [hfn]
    exact below_trodAll hl hb hr (fun x hx => hlt x (by simp [hx])) hA
  · rw [hfn]
    exact Below.trodVars hl hb hvs hV
end Go.Proofs.YtaopeioebpfdeaaGreatDoor
