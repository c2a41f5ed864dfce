/- PROVED HERE: MODELS: what the functions of ids and epoch compute, in plain Lean: messages, books, entries, eras, folds. No program in sight. No condition. OBJECTS THAT CALLS OWN: whose a block is (a tag), what a call on one object leaves as it was, slices that are owned, what an append does to them. No condition. ONE FRAME BEHIND ALL WAYS THROUGH A PIECE OF CODE, in the form that a region with guards takes too. No condition. -/
import Derived.Maps.AppendAt
import Derived.Laws.OwnMore
import Derived.OwnWalk
import Derived.OwnWalkIn
import Derived.Test.YtaopeioebpfdeaaGreatDoorK01
import Derived.Test.YtaopeioebpfdeaaGreatDoorK02
import Derived.Test.YtaopeioebpfdeaaGreatDoorK03
namespace Go.Proofs.YtaopeioebpfdeaaGreatDoor
open Go

/-- A message: its origin, its count; its bytes. -/
abbrev MId := Int × Nat
abbrev MsgD := MId × List UInt8
/-- Is a message right? -/
def rightM (m : MsgD) : Bool := decide (0 ≤ m.1.1) && decide (m.1.1 < 16) && decide (m.2.length ≤ 1000) && decide (1 ≤ m.1.2) && decide (m.1.2 ≤ 4294967294)
/-- A message's bytes; a batch's. -/
def msgBytes (m : MsgD) : List UInt8 := [UInt8.ofNat (m.1.1 % 256).toNat] ++ le4 m.1.2 ++ le4 m.2.length ++ m.2
def packP (l : List MsgD) : List UInt8 × Int :=
  if 64 < l.length then ([], 101) else if l.all rightM then ([UInt8.ofNat (l.length % 256)] ++ l.flatMap msgBytes, 0) else ([], 100)

/-- A book: how many of each origin were taken, the log, what waits. -/
structure BookS where
  tk : List Nat
  log : List MsgD
  ws : List (MId × MsgD)
/-- The messages that come one behind the other, and what still waits. -/
def takeRow : Nat → List (MId × MsgD) → MsgD → List (MId × MsgD) × List MsgD
  | 0, ws, x => (del x.1 ws, [x])
  | n + 1, ws, x => match look (x.1.1, (x.1.2 + 1) % 4294967296) (del x.1 ws) with
    | none => (del x.1 ws, [x])
    | some y => ((takeRow n (del x.1 ws) y).1, x :: (takeRow n (del x.1 ws) y).2)
def isNodeP (i : Int) : Bool := decide (0 ≤ i) && decide (i < 16)
def nextP (b : BookS) (i : Int) : Nat := if isNodeP i then ((b.tk[i.toNat]?.getD 0) + 1) % 4294967296 else 0
def hasP (b : BookS) (k : MId) : Bool := isNodeP k.1 && decide (1 ≤ k.2) && ((look k b.ws).isSome || decide (k.2 ≤ b.tk[k.1.toNat]?.getD 0))
def setTk (tk : List Nat) (l : List MsgD) : List Nat := l.foldl (fun t x => t.set x.1.1.toNat x.1.2) tk
def takeP (b : BookS) (m : MsgD) : BookS × List MsgD × Int :=
  if rightM m = false then (b, [], 100)
  else if m.1.2 ≠ nextP b m.1.1 then ((if hasP b m.1 then b else { b with ws := put m.1 m b.ws }), [], 0)
  else ({ tk := setTk b.tk (takeRow b.ws.length b.ws m).2, log := b.log ++ (takeRow b.ws.length b.ws m).2, ws := (takeRow b.ws.length b.ws m).1 }, (takeRow b.ws.length b.ws m).2, 0)
/-- What always holds of a book that calls have made. -/
structure BookOk (b : BookS) : Prop where
  sixteen : b.tk.length = 16
  most : ∀ n ∈ b.tk, n ≤ 4294967294
  keys : ∀ p ∈ b.ws, p.2.1 = p.1 ∧ rightM p.2 = true
def newBook : BookS := { tk := List.replicate 16 0, log := [], ws := [] }
def deliverP (b : BookS) : List MsgD → BookS × List MsgD
  | [] => (b, [])
  | m :: l => ((deliverP (takeP b m).1 l).1, (takeP b m).2.1 ++ (deliverP (takeP b m).1 l).2)

/-- An entry: kind, epoch, version, messages. -/
structure EntryD where
  kind : Int
  epoch : Nat
  ver : Int
  msgs : List MsgD
def shapedP (e : EntryD) : Bool :=
  if e.kind = 1 then decide (e.ver = 0)
  else if e.kind = 2 then decide (e.msgs.length = 0) && decide (0 ≤ e.ver) && decide (e.ver ≤ 255)
  else if e.kind = 3 then decide (e.msgs.length = 0) && decide (e.ver = 0)
  else false
def encodeP (e : EntryD) : List UInt8 × Int :=
  if shapedP e = false then ([], 140)
  else if (packP e.msgs).2 ≠ 0 then ([], 140)
  else if 4000 < ([UInt8.ofNat (e.kind % 256).toNat] ++ le4 e.epoch ++ [UInt8.ofNat (e.ver % 256).toNat] ++ (packP e.msgs).1).length then ([], 140)
  else ([UInt8.ofNat (e.kind % 256).toNat] ++ le4 e.epoch ++ [UInt8.ofNat (e.ver % 256).toNat] ++ (packP e.msgs).1, 0)
def rightE (e : EntryD) : Bool := decide ((encodeP e).2 = 0)

/-- An era: epoch, version, start. -/
abbrev EraD := Nat × Int × Int
structure FoldS where
  book : BookS
  eras : List EraD
  count : Int
  sw : Bool
def nowP (l : List EraD) : EraD := l.getLast?.getD (0, 0, 0)
/-- The version ahead of the first era that is this one. -/
def aheadP (n : EraD) : List EraD → Int → Int
  | [], v => v
  | e :: l, v => if e = n then v else aheadP n l e.2.1
def beginEra (f : FoldS) (v : Int) (sw : Bool) : FoldS := { f with eras := f.eras ++ [(((nowP f.eras).1 + 1) % 4294967296, v, f.count)], sw := sw }
def applyP (f : FoldS) (e : EntryD) : FoldS × List MsgD × Bool × Int :=
  if rightE e = false then (f, [], false, 140)
  else if e.epoch ≠ (nowP f.eras).1 then ({ f with count := f.count + 1 }, [], false, 0)
  else if e.kind = 1 then ({ f with count := f.count + 1, book := (deliverP f.book e.msgs).1 }, (deliverP f.book e.msgs).2, false, 0)
  else if e.kind = 2 then
    if checkE (nowP f.eras).2.1 e.ver ≠ 0 then ({ f with count := f.count + 1 }, [], false, 0)
    else (beginEra { f with count := f.count + 1 } e.ver true, [], true, 0)
  else if f.sw = false then ({ f with count := f.count + 1 }, [], false, 0)
  else (beginEra { f with count := f.count + 1 } (aheadP (nowP f.eras) f.eras 0) false, [], true, 0)
def newFold (v : Int) : FoldS := { book := newBook, eras := [(1, v, 0)], count := 0, sw := false }
end Go.Proofs.YtaopeioebpfdeaaGreatDoor
namespace Go.Proofs.YtaopeioebpfdeaaGreatDoor
open Go Go.RowKit

/-- Whose each block is: a tag; the empty one: nobody's. -/
abbrev Own := Nat → List Nat
/-- Is a tag below another one? -/
def Sub (t u : List Nat) : Prop := t <+: u
theorem Sub.rfl' (t : List Nat) : Sub t t := List.prefix_refl t
theorem Sub.child (t : List Nat) (i : Nat) : Sub t (t ++ [i]) := List.prefix_append t [i]
theorem Sub.trans {a b c : List Nat} (h : Sub a b) (k : Sub b c) : Sub a c := List.IsPrefix.trans h k
theorem not_sub_nil {t : List Nat} (h : t ≠ []) : ¬ Sub t [] := fun e => h (List.prefix_nil.1 e)
/-- Neither is below the other. -/
def Apart (t u : List Nat) : Prop := ¬ Sub t u ∧ ¬ Sub u t
theorem Apart.sub {t u v : List Nat} (h : Apart t u) (hv : Sub u v) : ¬ Sub t v := fun e => by
  rcases List.prefix_or_prefix_of_prefix e hv with h1 | h1
  · exact h.1 h1
  · exact h.2 h1
theorem Apart.symm {t u : List Nat} (h : Apart t u) : Apart u t := ⟨h.2, h.1⟩
theorem apart_child (t : List Nat) {i j : Nat} (h : i ≠ j) : Apart (t ++ [i]) (t ++ [j]) := by
  constructor
  · intro e; have := (List.prefix_append_right_inj t).1 e; simp at this; exact h this
  · intro e; have := (List.prefix_append_right_inj t).1 e; simp at this; exact h this.symm
theorem not_child_sub (t : List Nat) (i : Nat) : ¬ Sub (t ++ [i]) t := fun e => by
  have := List.IsPrefix.length_le e
  rw [List.length_append, List.length_singleton] at this
  omega

/-- W' is W but for the blocks below the tag t, and for new ones; what was owned is owned by whom it was. -/
structure Step (t : List Nat) (ow : Own) (W : World) (ow' : Own) (W' : World) : Prop where
  mod : Mod (fun k => Sub t (ow k)) W W'
  agree : ∀ k, k < W.heap.size → ow' k = ow k
theorem Step.refl (t : List Nat) (ow : Own) (W : World) : Step t ow W ow W := ⟨Mod.refl _ _, fun _ _ => rfl⟩
theorem Step.trans {t : List Nat} {o1 o2 o3 : Own} {A B C : World} (h : Step t o1 A o2 B) (k : Step t o2 B o3 C) : Step t o1 A o3 C :=
  ⟨h.mod.trans k.mod (fun _ _ e => e) (fun i hi e => by rw [h.agree i hi] at e; exact e), fun i hi => (k.agree i (Nat.lt_of_lt_of_le hi h.mod.size)).trans (h.agree i hi)⟩
theorem Step.mono {t u : List Nat} {o1 o2 : Own} {A B : World} (h : Step u o1 A o2 B) (hs : Sub t u) : Step t o1 A o2 B :=
  ⟨h.mod.mono (fun _ _ e => hs.trans e), h.agree⟩
theorem Step.of_below (t : List Nat) (ow : Own) {W W' : World} (h : Below W.heap.size W W') : Step t ow W ow W' := ⟨Mod.of_below _ h, fun _ _ => rfl⟩
theorem Step.alloc (t : List Nat) (ow : Own) (W : World) (o : Obj) : Step t ow W ow (W.alloc o) := ⟨Mod.alloc _ W o, fun _ _ => rfl⟩
theorem Step.drew (t : List Nat) (ow : Own) (W : World) : Step t ow W ow W.drew := ⟨Mod.drew _ W, fun _ _ => rfl⟩
theorem Step.drewN (t : List Nat) (ow : Own) (W : World) (n : Nat) : Step t ow W ow (W.drewN n) := ⟨⟨rfl, rfl, rfl, Nat.le_refl _, fun _ _ _ => rfl⟩, fun _ _ => rfl⟩
theorem Step.setCell {t : List Nat} {ow : Own} (W : World) (a : Addr) (v : Value) (h : Sub t (ow a.block)) : Step t ow W ow (W.setCell a v) := ⟨Mod.setCell W a v h, fun _ _ => rfl⟩
theorem Step.setNew {t : List Nat} {ow o1 : Own} {W W1 : World} (h : Step t ow W o1 W1) (a : Addr) (v : Value) (ha : W.heap.size ≤ a.block) : Step t ow W o1 (W1.setCell a v) :=
  ⟨h.mod.trans (Mod.setCell (X := fun k => k = a.block) W1 a v rfl) (fun _ _ e => e) (fun i hi e => by omega), h.agree⟩
theorem Step.putObj {t : List Nat} {ow : Own} (W : World) (r : Nat) (o : Obj) (h : Sub t (ow r)) : Step t ow W ow (W.putObj r o) := ⟨Mod.putObj W r o h, fun _ _ => rfl⟩
theorem Step.putNew {t : List Nat} {ow o1 : Own} {W W1 : World} (h : Step t ow W o1 W1) (r : Nat) (o : Obj) (ha : W.heap.size ≤ r) : Step t ow W o1 (W1.putObj r o) :=
  ⟨h.mod.trans (Mod.putObj (X := fun k => k = r) W1 r o rfl) (fun _ _ e => e) (fun i hi e => by omega), h.agree⟩
theorem Step.grown {t : List Nat} {ow : Own} {W W' : World} {row : Option Nat} (h : W.grownBy W' row) (hr : ∀ k, row = some k → Sub t (ow k)) : Step t ow W ow W' :=
  ⟨⟨h.os, h.tape, h.output, h.size, fun k hk hn => h.block k hk (fun e => hn (hr k e.symm))⟩, fun _ _ => rfl⟩
theorem Step.own {t : List Nat} {ow o1 o2 : Own} {W W1 : World} (h : Step t ow W o1 W1) (h2 : ∀ k, k < W.heap.size → o2 k = o1 k) : Step t ow W o2 W1 :=
  ⟨h.mod, fun k hk => (h2 k hk).trans (h.agree k hk)⟩
theorem Step.size {t : List Nat} {ow ow' : Own} {W W' : World} (h : Step t ow W ow' W') : W.heap.size ≤ W'.heap.size := h.mod.size
/-- A block that is not below the tag is as it was. -/
theorem Step.block {t : List Nat} {ow ow' : Own} {W W' : World} (h : Step t ow W ow' W') {k : Nat} (hk : k < W.heap.size) (hn : ¬ Sub t (ow k)) : W'.heap[k]? = W.heap[k]? := h.mod.block k hk hn
theorem Step.cell {t : List Nat} {ow ow' : Own} {W W' : World} (h : Step t ow W ow' W') {p : Addr} (hk : p.block < W.heap.size) (hn : ¬ Sub t (ow p.block)) : W'.cell? p = W.cell? p := h.mod.cell hk hn
theorem Step.below {t : List Nat} {ow ow' : Own} {W W' : World} {B : Nat} (h : Step t ow W ow' W') (hB : B ≤ W.heap.size) (hn : ∀ k, k < B → ¬ Sub t (ow k)) : Below B W W' :=
  ⟨h.mod.os, h.mod.tape, h.mod.output, h.mod.size, fun k hk => h.mod.block k (by omega) (hn k hk)⟩

/-- WHAT IS SAID OF THE BLOCKS BELOW A TAG ALONE. -/
def Local (t : List Nat) (A : Own → World → Prop) : Prop :=
  ∀ ow ow' W W', A ow W → W.heap.size ≤ W'.heap.size → (∀ k, k < W.heap.size → Sub t (ow k) → ow' k = ow k ∧ W'.heap[k]? = W.heap[k]?) → A ow' W'
theorem Local.step {t u : List Nat} {A : Own → World → Prop} (hA : Local t A) {ow ow' : Own} {W W' : World} (h : A ow W) (hs : Step u ow W ow' W') (hd : Apart u t) : A ow' W' :=
  hA _ _ _ _ h hs.size (fun k hk hk2 => ⟨hs.agree k hk, hs.block hk (hd.sub hk2)⟩)
theorem Local.below {t : List Nat} {A : Own → World → Prop} (hA : Local t A) {ow : Own} {W W' : World} (h : A ow W) (hs : Below W.heap.size W W') : A ow W' :=
  hA _ _ _ _ h hs.size (fun k hk _ => ⟨rfl, hs.block k hk⟩)
theorem Local.own {t : List Nat} {A : Own → World → Prop} (hA : Local t A) {ow ow' : Own} {W : World} (h : A ow W) (hs : ∀ k, k < W.heap.size → Sub t (ow k) → ow' k = ow k) : A ow' W :=
  hA _ _ _ _ h (Nat.le_refl _) (fun k hk h2 => ⟨hs k hk h2, rfl⟩)

/-- New blocks from n on that are in S become t's; other new ones nobody's. -/
noncomputable def Own.ext (ow : Own) (n : Nat) (S : Nat → Prop) (t : List Nat) : Own := fun k => if k < n then ow k else (open Classical in if S k then t else [])
theorem Own.ext_old {ow : Own} {n : Nat} {S : Nat → Prop} {t : List Nat} {k : Nat} (h : k < n) : ow.ext n S t k = ow k := if_pos h
theorem Own.ext_new {ow : Own} {n : Nat} {S : Nat → Prop} {t : List Nat} {k : Nat} (h : n ≤ k) (hs : S k) : ow.ext n S t k = t := by
  unfold Own.ext; rw [if_neg (by omega), if_pos hs]
theorem Own.ext_none {ow : Own} {n : Nat} {S : Nat → Prop} {t : List Nat} {k : Nat} (h : n ≤ k) (hs : ¬ S k) : ow.ext n S t k = [] := by
  unfold Own.ext; rw [if_neg (by omega), if_neg hs]

/-- New blocks are nobody's. -/
noncomputable abbrev Own.cut (ow : Own) (w : World) : Own := ow.ext w.heap.size (fun _ => False) []
theorem Own.cut_old {ow : Own} {w : World} {k : Nat} (h : k < w.heap.size) : ow.cut w k = ow k := Own.ext_old h
theorem Own.cut_new {ow : Own} {w : World} {k : Nat} (h : w.heap.size ≤ k) : ow.cut w k = [] := Own.ext_none h (fun h => h)
theorem Local.cut {t : List Nat} {A : Own → World → Prop} (hA : Local t A) {ow : Own} {w W : World} (h : A ow w) (hb : Below w.heap.size w W) : A (ow.cut w) W :=
  hA _ _ _ _ h hb.size (fun k hk _ => ⟨Own.cut_old hk, hb.block k hk⟩)
theorem Step.wrap {t : List Nat} {ow ow2 : Own} {w W w2 : World} (hb : Below w.heap.size w W) (h : Step t (ow.cut w) W ow2 w2) : Step t ow w ow2 w2 :=
  ⟨(Mod.of_below (fun k => Sub t (ow k)) hb).trans h.mod (fun _ _ e => e) (fun k hk e => by rwa [Own.cut_old hk] at e), fun k hk => (h.agree k (Nat.lt_of_lt_of_le hk hb.size)).trans (Own.cut_old hk)⟩
/-- What is nobody's stays as it is. -/
theorem Step.free {t : List Nat} (ht : t ≠ []) {ow ow2 : Own} {w W w2 : World} (h : Step t (ow.cut w) W ow2 w2) {k : Nat} (hk : w.heap.size ≤ k) (hk2 : k < W.heap.size) : w2.heap[k]? = W.heap[k]? ∧ ow2 k = [] :=
  ⟨h.block hk2 (by rw [Own.cut_new hk]; exact not_sub_nil ht), (h.agree k hk2).trans (Own.cut_new hk)⟩
theorem Local.put {t : List Nat} (ht : t ≠ []) {A : Own → World → Prop} (hA : Local t A) {ow : Own} {w : World} (h : A ow w) {D : Nat} (hD : ow D = []) (o : Obj) : A ow (w.putObj D o) :=
  hA _ _ _ _ h (by simp) (fun k hk hs => ⟨rfl, World.putObj_heap_other (fun e => by subst e; rw [hD] at hs; exact not_sub_nil ht hs)⟩)

/-- The slice v of n elements of e, each of so many cells, holds xs, at the head of a row of its own. -/
abbrev Row (w : World) (e : TypeId) (size : Nat) (v : Value) (n : Nat) (xs : List Value) : Prop := w.ownsRow 0 e size v n xs
theorem row_nil (w : World) (e : TypeId) (size : Nat) : Row w e size (.slice none 0 0) 0 [] := World.ownsRow_nil w 0 e size
theorem Row.lt {w : World} {e : TypeId} {size : Nat} {v : Value} {n : Nat} {xs : List Value} (h : Row w e size v n xs) {g : Nat} (hg : v.ownBlock = some g) : g < w.heap.size := by
  rcases h.2 with ⟨rfl, _⟩ | ⟨g', cap, cur, rfl, _, hgg, _⟩
  · cases hg
  · cases hg; exact (Array.getElem?_eq_some_iff.1 hgg).1
theorem Row.kept {w w' : World} {e : TypeId} {size : Nat} {v : Value} {n : Nat} {xs : List Value} (h : Row w e size v n xs) (hb : ∀ g, v.ownBlock = some g → w'.heap[g]? = w.heap[g]?) : Row w' e size v n xs := by
  rcases h with ⟨h1, h2⟩
  refine ⟨h1, ?_⟩
  rcases h2 with h2 | ⟨g, cap, cur, rfl, hb0, hg, r⟩
  · exact .inl h2
  · exact .inr ⟨g, cap, cur, rfl, hb0, (hb g rfl).trans hg, r⟩
theorem Row.below {w w' : World} {e : TypeId} {size : Nat} {v : Value} {n : Nat} {xs : List Value} (h : Row w e size v n xs) (hb : Below w.heap.size w w') : Row w' e size v n xs :=
  h.kept (fun g hg => hb.block g (h.lt hg))
theorem Row.mod {X : Nat → Prop} {w w' : World} {e : TypeId} {size : Nat} {v : Value} {n : Nat} {xs : List Value} (h : Row w e size v n xs) (hm : Mod X w w') (hx : ∀ g, v.ownBlock = some g → ¬ X g) : Row w' e size v n xs :=
  h.kept (fun g hg => hm.block g (h.lt hg) (hx g hg))
theorem Row.step {t : List Nat} {ow ow' : Own} {w w' : World} {e : TypeId} {size : Nat} {v : Value} {n : Nat} {xs : List Value} (h : Row w e size v n xs) (hs : Step t ow w ow' w') (hx : ∀ g, v.ownBlock = some g → ¬ Sub t (ow g)) : Row w' e size v n xs :=
  h.mod hs.mod hx
/-- The block of a row bears its element's type. -/
theorem Row.type {w : World} {e : TypeId} {size : Nat} {v : Value} {n : Nat} {xs : List Value} (h : Row w e size v n xs) {g : Nat} (hg : v.ownBlock = some g) : ∃ cur, w.heap[g]? = some (.cells cur e (0, 0)) := by
  rcases h.2 with ⟨rfl, _⟩ | ⟨g', cap, cur, rfl, _, hgg, _⟩
  · cases hg
  · cases hg; exact ⟨cur, hgg⟩
theorem Row.form {w : World} {e : TypeId} {size : Nat} {v : Value} {n : Nat} {xs : List Value} (h : Row w e size v n xs) : (v = .slice none 0 0 ∧ n = 0 ∧ xs = []) ∨ ∃ g cap, v = .slice (some ⟨g, 0, none⟩) n cap ∧ n ≤ cap ∧ cap ≤ maxLen := by
  rcases h.2 with ⟨rfl, h0⟩ | ⟨g, cap, cur, rfl, _, _, hc, hm, _⟩
  · subst h0; exact .inl ⟨rfl, rfl, List.eq_nil_of_length_eq_zero (by simpa using h.1)⟩
  · exact .inr ⟨g, cap, rfl, hc, hm⟩

theorem Blk.ne_map {w : World} {B mb : Nat} {cs : Array Value} {T : TypeId} {K : Type} {enc : K → Value} {l : List (K × Value)} (h : Blk w B cs T) (hM : MapAt w mb enc l) : B ≠ mb := by
  rintro rfl
  obtain ⟨es, c, hb, _⟩ := hM
  exact absurd (h.symm.trans hb) (by simp)
theorem Row.ne_map {w : World} {e : TypeId} {size : Nat} {v : Value} {n : Nat} {xs : List Value} {mb : Nat} {K : Type} {enc : K → Value} {l : List (K × Value)} (h : Row w e size v n xs) (hM : MapAt w mb enc l) {g : Nat} (hg : v.ownBlock = some g) : g ≠ mb := by
  rintro rfl
  obtain ⟨cur, hc⟩ := h.type hg
  obtain ⟨es, c, hb, _⟩ := hM
  exact absurd (hc.symm.trans hb) (by simp)
/-- A row and a block of cells of another type are two. -/
theorem Row.ne_blk {w : World} {e : TypeId} {size : Nat} {v : Value} {n : Nat} {xs : List Value} {B : Nat} {cs : Array Value} {T : TypeId} (h : Row w e size v n xs) (hB : Blk w B cs T) (hT : e ≠ T) {g : Nat} (hg : v.ownBlock = some g) : g ≠ B := by
  rintro rfl
  obtain ⟨cur, hc⟩ := h.type hg
  have := hc.symm.trans hB
  simp at this
  exact hT this.2

/-- WHAT CAN BE READ through a slice: n elements of so many cells each. -/
def Src (w : World) (v : Value) (size n : Nat) (xs : List Value) : Prop :=
  xs.length = n * size ∧ ((v = .slice none 0 0 ∧ n = 0) ∨ ∃ b off cap, v = .slice (some ⟨b, off, none⟩) n cap ∧ n ≤ cap ∧ ∀ j u, xs[j]? = some u → w.cell? ⟨b, off + j, none⟩ = some u)
theorem Row.src {w : World} {e : TypeId} {size : Nat} {v : Value} {n : Nat} {xs : List Value} (h : Row w e size v n xs) : Src w v size n xs := by
  refine ⟨h.1, ?_⟩
  rcases h.2 with h0 | ⟨g, cap, cur, rfl, _, hg, hc, _, _, ht⟩
  · exact .inl h0
  · refine .inr ⟨g, 0, cap, rfl, hc, fun j u hu => ?_⟩
    have hlt : j < n * size := by rw [← h.1]; exact (List.getElem?_eq_some_iff.1 hu).1
    rw [Nat.zero_add, h.cellAt j hlt, hu]
theorem src_nil (w : World) (size : Nat) : Src w (.slice none 0 0) size 0 [] := ⟨by simp, .inl ⟨rfl, rfl⟩⟩
theorem Src.kept {w w' : World} {v : Value} {size n : Nat} {xs : List Value} (h : Src w v size n xs) (hb : ∀ a l c, v = .slice (some a) l c → w'.heap[a.block]? = w.heap[a.block]?) : Src w' v size n xs := by
  refine ⟨h.1, ?_⟩
  rcases h.2 with h0 | ⟨b, off, cap, rfl, hc, hr⟩
  · exact .inl h0
  · exact .inr ⟨b, off, cap, rfl, hc, fun j u hu => (World.cell?_of_block (w := w) (w' := w') (a := ⟨b, off + j, none⟩) (show w'.heap[b]? = w.heap[b]? from hb ⟨b, off, none⟩ _ _ rfl)).trans (hr j u hu)⟩

theorem cell_lt {w : World} {p : Addr} {u : Value} (h : w.cell? p = some u) : p.block < w.heap.size := by
  rcases Nat.lt_or_ge p.block w.heap.size with h' | h'
  · exact h'
  · simp [World.cell?, Array.getElem?_eq_none h'] at h
theorem Src.below {w w' : World} {v : Value} {size n : Nat} {xs : List Value} (h : Src w v size n xs) (hb : Below w.heap.size w w') : Src w' v size n xs := by
  refine ⟨h.1, ?_⟩
  rcases h.2 with h0 | ⟨b, off, cap, rfl, hc, hr⟩
  · exact .inl h0
  · exact .inr ⟨b, off, cap, rfl, hc, fun j u hu => (hb.cell (cell_lt (hr j u hu))).trans (hr j u hu)⟩
theorem Src.step {t : List Nat} {ow ow' : Own} {w w' : World} {v : Value} {size n : Nat} {xs : List Value} (h : Src w v size n xs) (hs : Step t ow w ow' w') (hn : ∀ a l c, v = .slice (some a) l c → ¬ Sub t (ow a.block)) : Src w' v size n xs := by
  refine ⟨h.1, ?_⟩
  rcases h.2 with h0 | ⟨b, off, cap, rfl, hc, hr⟩
  · exact .inl h0
  · exact .inr ⟨b, off, cap, rfl, hc, fun j u hu => (hs.cell (p := ⟨b, off + j, none⟩) (cell_lt (hr j u hu)) (show ¬ Sub t (ow b) from hn ⟨b, off, none⟩ _ _ rfl)).trans (hr j u hu)⟩

theorem src_blk {w : World} {b : Nat} {cs : Array Value} {t : TypeId} {n size cap : Nat} (h : Blk w b cs t) (hs : cs.size = n * size) (hc : n ≤ cap) : Src w (.slice (some ⟨b, 0, none⟩) n cap) size n cs.toList :=
  ⟨by simpa using hs, .inr ⟨b, 0, cap, rfl, hc, fun j u hu => by rw [Nat.zero_add, h.cell j]; simpa using hu⟩⟩

theorem Row.shape {w : World} {e : TypeId} {size : Nat} {v : Value} {n : Nat} {xs : List Value} (h : Row w e size v n xs) : ∃ a m c, v = .slice a m c := by
  rcases h.form with ⟨h, -⟩ | ⟨g, cap, h, -⟩
  · exact ⟨_, _, _, h⟩
  · exact ⟨_, _, _, h⟩
theorem Mod.grown {X : Nat → Prop} {W W' : World} {row : Option Nat} (h : W.grownBy W' row) (hr : ∀ k, row = some k → X k) : Mod X W W' := ⟨h.os, h.tape, h.output, h.size, fun k hk hn => h.block k hk (fun e => hn (hr k e.symm))⟩

theorem cell_alloc {w : World} {p : Addr} {v : Value} (h : w.cell? p = some v) (o : Obj) : (w.alloc o).cell? p = some v := (((Below.refl w.heap.size w).alloc (Nat.le_refl _) o).cell (cell_lt h)).trans h

/-- A slice type, its elements. -/
structure ElemT (P : Program) (t e : TypeId) (size bytes : Nat) (z : Value) : Prop where
  under : P.underlying t = some (.slice e)
  info : (P.info? e).map (fun i => (i.zero, i.size, i.bytes)) = some (some z, size, bytes)
  cells : z.cells.size = size
  pos : 0 < size
  small : bytes ≤ 4096

/-- APPEND onto a slice that is owned, of what can be read. -/
theorem row_append {P : Program} {t e : TypeId} {size bytes : Nat} {z : Value} (T : ElemT P t e size bytes z) {w : World} {v src : Value} {n m : Nat} {xs news : List Value}
    (hv : Row w e size v n xs) (hs : Src w src size m news) (h1 : ∀ u ∈ news, u.oneCell' = true) (hb : n + m ≤ 1073741824) (ty : TypeId) :
    ∃ v' w', (Builtin.append_ #[t, t] ty #[v, src]).run P w = .ok v' w' ∧ Row w' e size v' (n + m) (xs ++ news) ∧ w.grownBy w' v.ownBlock ∧ (v'.ownBlock = v.ownBlock ∨ v'.ownBlock = some w.heap.size) := by
  obtain ⟨i, hi, hz0, hz1, hz2⟩ := info_parts T.info
  rcases hs.2 with ⟨rfl, rfl⟩ | ⟨b, off, cap, rfl, _, hr⟩
  · have hn : news = [] := List.eq_nil_of_length_eq_zero (by simpa using hs.1)
    subst hn
    exact ⟨v, w, run_append_owned_none (w := w) 0 t ty e i size T.under hi v n xs hv, by simpa using hv, ⟨rfl, rfl, rfl, Nat.le_refl _, fun _ _ _ => rfl⟩, .inl rfl⟩
  · have hadd : ∀ j, (⟨b, off, none⟩ : Addr).add j = ⟨b, off + j, none⟩ := fun j => by unfold Addr.add; split <;> simp_all
    have hbytes : (n + m) * bytes ≤ 140737488355328 := by
      have := Nat.mul_le_mul hb T.small
      omega
    obtain ⟨v', w', h2, h3, h4, _, h5⟩ := run_append_own_at (P := P) w 0 t ty e i z size bytes T.under hi hz0 hz1 hz2 T.cells T.pos v n xs hv ⟨b, off, none⟩ m cap news hs.1
      (fun j u hu => by rw [hadd]; exact hr j u hu) h1 (by unfold maxLen; omega) hbytes (Nat.zero_le _)
    exact ⟨v', w', h2, h3, h4, h5⟩
/-- The same at an operation of the walk. -/
theorem wpList_append_by {P : Program} {w : World} {ops : Array Oper} {rest : List Oper} {o : Oper} {a : Act} {Q : Exit → Act → World → Prop} (hgd : o.guard = none) (s x : Operand) (t : TypeId)
    (ho : o.op = .call { callee := .builtin .append, args := #[s, x], argTypes := #[t, t] }) {v src : Value} (hs : a.eval s = v) (hx : a.eval x = src)
    {v' : Value} {w' : World} (hr : (Builtin.append_ #[t, t] o.type #[v, src]).run P w = .ok v' w') (h : wpList P ops Q rest (a.put o.dst v') w') : wpList P ops Q (o :: rest) a w := by
  refine wpList_plain hgd fun K hK => ?_
  unfold Oper.wp execOp
  simp only [ho, resolve, invoke, builtin, Sem.run_bind, Sem.run_pure, Result.andThen_ok, List.map_toArray, List.map_cons, List.map_nil, hs, hx, hr]
  exact hK _ _ h
/-- The same at an operation of a region that draws. -/
theorem step_append_by {P : Program} {w : World} {o : Oper} {a : Act} {K : Act → World → Prop} {Q : Exit → Act → World → Prop} (s x : Operand) (t : TypeId)
    (ho : o.op = .call { callee := .builtin .append, args := #[s, x], argTypes := #[t, t] }) {v src : Value} (hs : a.eval s = v) (hx : a.eval x = src)
    {v' : Value} {w' : World} (hr : (Builtin.append_ #[t, t] o.type #[v, src]).run P w = .ok v' w') (h : K (a.put o.dst v') w') : o.wp P a w K Q := by
  unfold Oper.wp execOp
  simp only [ho, resolve, invoke, builtin, Sem.run_bind, Sem.run_pure, Result.andThen_ok, List.map_toArray, List.map_cons, List.map_nil, hs, hx, hr]
  exact h
/-- A deletion from a map, at an operation of the walk. -/
theorem wpList_delete_by {P : Program} {w : World} {ops : Array Oper} {rest : List Oper} {o : Oper} {a : Act} {Q : Exit → Act → World → Prop} (hgd : o.guard = none) (s x : Operand) (t1 t2 : TypeId)
    (ho : o.op = .call { callee := .builtin .delete, args := #[s, x], argTypes := #[t1, t2] }) {v k : Value} (hs : a.eval s = v) (hx : a.eval x = k)
    {v' : Value} {w' : World} (hr : (Builtin.delete_ #[t1, t2] o.type #[v, k]).run P w = .ok v' w') (h : wpList P ops Q rest (a.put o.dst v') w') : wpList P ops Q (o :: rest) a w := by
  refine wpList_plain hgd fun K hK => ?_
  unfold Oper.wp execOp
  simp only [ho, resolve, invoke, builtin, Sem.run_bind, Sem.run_pure, Result.andThen_ok, List.map_toArray, List.map_cons, List.map_nil, hs, hx, hr]
  exact hK _ _ h
theorem wpListIn_append_by {F : Fence} {k : Nat} {P : Program} {w : World} {ops : Array Oper} {rest : List Oper} {o : Oper} {a : Act} {Q : Exit → Act → World → Prop} (hgd : o.guard = none) (s x : Operand) (t : TypeId)
    (ho : o.op = .call { callee := .builtin .append, args := #[s, x], argTypes := #[t, t] }) {v src : Value} (hs : a.eval s = v) (hx : a.eval x = src)
    {v' : Value} {w' : World} (hr : (Builtin.append_ #[t, t] o.type #[v, src]).run P w = .ok v' w') (h : wpListIn F k P ops Q rest (a.put o.dst v') w') : wpListIn F k P ops Q (o :: rest) a w := by
  refine wpListIn_plain hgd fun K hK => ?_
  unfold Oper.wpIn
  refine ⟨?_, ?_⟩
  · simp [Oper.about, ho, resolve, Target.leads, Sem.run_pure]
  · rw [Oper.semAt_plain F _ _ (by rw [ho]; intro c hc'; cases hc')]
    simp [execOp, ho, resolve, invoke, builtin, hs, hx, hr, Result.andThen]
    exact hK _ _ h
theorem Stab.alloc {σ : Type} {I : σ → (Nat → Prop) → World → Prop} (h : Stab I) {s : σ} {X : Nat → Prop} {W : World} (o : Obj) (hi : I s X W) : I s (fun k => X k ∨ k = W.heap.size) (W.alloc o) :=
  h _ _ _ _ _ hi (Mod.alloc _ W o) (fun k hk => by rcases hk with h | h; exact .inl h; exact .inr (by subst h; simp))
end Go.Proofs.YtaopeioebpfdeaaGreatDoor
namespace Go.Proofs.YtaopeioebpfdeaaGreatDoor
open Go Go.RowKit
/-- The piece ends normally, in this frame, in such a world. -/
def SameAt (A : Act) (Wp : World → Prop) : Exit → Act → World → Prop
  | .normal, a, w => a = A ∧ Wp w
  | _, _, _ => False
theorem sameAt {A : Act} {Wp : World → Prop} {w : World} (h : Wp w) : SameAt A Wp .normal A w := ⟨rfl, h⟩
variable {F : Fence} {n : Nat} {P : Program}
theorem wp_one {c : Code} {Q : Exit → Act → World → Prop} {a A : Act} {w : World} {Wp : World → Prop} (h : c.wp P (SameAt A Wp) a w) (h2 : ∀ w', Wp w' → Q .normal A w') : c.wp P Q a w :=
  wp_mono h (fun e a' w' hs => by
    cases e with
    | normal => obtain ⟨rfl, hw⟩ := hs; exact h2 w' hw
    | _ => exact hs.elim)
end Go.Proofs.YtaopeioebpfdeaaGreatDoor
