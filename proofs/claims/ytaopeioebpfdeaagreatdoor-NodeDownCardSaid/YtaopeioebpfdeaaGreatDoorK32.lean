/- PROVED HERE: WHAT THE NODE's STATEMENTS SHOW FIRST, in plain Lean. No program in sight. A NODE in memory: what it is, what a call on a part of it leaves. WALKS: node's isNil, ready, IsDown, Accepted, Decided, Local, Crash, Cut. Condition: the node is one that calls have made, with no bad versions. WALKS: node's keeper, offer. Condition: the node is one that calls have made, with no bad versions. -/
import Derived.WalkSmall
import Derived.Test.YtaopeioebpfdeaaGreatDoorK21
import Derived.Test.YtaopeioebpfdeaaGreatDoorK24
import Derived.Test.YtaopeioebpfdeaaGreatDoorK28
import Derived.Test.YtaopeioebpfdeaaGreatDoorK30
import Derived.Test.YtaopeioebpfdeaaGreatDoorK31
namespace Go.Proofs.YtaopeioebpfdeaaGreatDoor
open Go

def nS0 : NodeS := newN 3 1 100000 [] (1, 0, [])
def nS1 : NodeS := (broadcastN nS0 [120]).1
def nS2 : NodeS := (crashN nS1).1
def nS3 : NodeS := recoverN nS2 (1, 0, [])
theorem nF1 : (broadcastN nS0 [120]).2 = (((3, 1), [120]), 0) := by kernel_rfl
theorem nF2 : (crashN nS1).2 = 0 ∧ (broadcastN nS2 [121]).2.2 = 170 := by constructor <;> kernel_rfl
end Go.Proofs.YtaopeioebpfdeaaGreatDoor
namespace Go.Proofs.YtaopeioebpfdeaaGreatDoor
open Go Go.RowKit Go.Shelf Go.Extern.Stop Go.Stop Go.Extern
attribute [local go_sem] Oper.semAt_some wide_fn wide_depth

def nodeCells (px sb lb pb : Nat) (av : Value) (n : NodeS) : Array Value :=
  #[.pointer (some ⟨px, 0, none⟩), .int .i64 n.id, .int .i64 n.version, .slice none 0 0, .pointer (some ⟨sb, 0, none⟩), .pointer (some ⟨lb, 0, none⟩), .pointer (some ⟨pb, 0, none⟩), av, .int .i64 (n.offered : Nat), .int .i64 (n.applied : Nat), .int .i64 n.wanted, .bool n.down]
structure NodeIs (B px sb lb pb : Nat) (av : Value) (n : NodeS) (t : List Nat) (ow : Own) (W : World) : Prop where
  blk : Blk W B (nodeCells px sb lb pb av n) 78
  pax : PaxAt px n.pax (t ++ [0]) ow W
  st : StoreAt sb n.store (t ++ [1]) ow W
  lo : LocalAt lb n.loc (t ++ [2]) ow W
  pool : PoolAt pb n.pool (t ++ [3]) ow W
  row : Row W 34 3 av n.acc.length (n.acc.flatMap msgCells)
  own : ow B = t
  rown : ∀ g, av.ownBlock = some g → ow g = t ++ [4]
  bad : n.bad = []
theorem NodeIs.loc (B px sb lb pb : Nat) (av : Value) (n : NodeS) (t : List Nat) : Local t (NodeIs B px sb lb pb av n t) := by
  intro ow ow' W W' h hs hk
  have kB := hk B h.blk.lt (by rw [h.own]; exact Sub.rfl' t)
  have kR : ∀ g, av.ownBlock = some g → ow' g = ow g ∧ W'.heap[g]? = W.heap[g]? := fun g hg => hk g (h.row.lt hg) (by rw [h.rown g hg]; exact Sub.child t 4)
  exact ⟨h.blk.kept kB.2, PaxAt.loc px n.pax (t ++ [0]) _ _ _ _ h.pax hs (fun k a b => hk k a ((Sub.child t 0).trans b)), StoreAt.loc sb n.store (t ++ [1]) _ _ _ _ h.st hs (fun k a b => hk k a ((Sub.child t 1).trans b)),
    LocalAt.loc lb n.loc (t ++ [2]) _ _ _ _ h.lo hs (fun k a b => hk k a ((Sub.child t 2).trans b)), PoolAt.loc pb n.pool (t ++ [3]) _ _ _ _ h.pool hs (fun k a b => hk k a ((Sub.child t 3).trans b)),
    h.row.kept (fun g hg => (kR g hg).2), kB.1.trans h.own, fun g hg => (kR g hg).1.trans (h.rown g hg), h.bad⟩
def NodeAt (B : Nat) (n : NodeS) (t : List Nat) (ow : Own) (W : World) : Prop := ∃ px sb lb pb av, NodeIs B px sb lb pb av n t ow W
theorem NodeAt.loc (B : Nat) (n : NodeS) (t : List Nat) : Local t (NodeAt B n t) := by
  rintro ow ow' W W' ⟨px, sb, lb, pb, av, h⟩ hs hk
  exact ⟨px, sb, lb, pb, av, NodeIs.loc B px sb lb pb av n t _ _ _ _ h hs hk⟩
theorem child_apart (t : List Nat) {i j : Nat} (h : i ≠ j) {u : List Nat} (hu : u = t ++ [j]) : ¬ Sub (t ++ [i]) u := by subst hu; exact (apart_child t h).1
theorem child_own (t : List Nat) (i : Nat) {u : List Nat} (hu : u = t) : ¬ Sub (t ++ [i]) u := by subst hu; exact not_child_sub _ i
variable {B px sb lb pb : Nat} {av : Value} {n : NodeS} {t : List Nat} {ow ow' : Own} {W W' : World}
/-- A step below a child leaves the node's own cells, and the accepted ones. -/
theorem NodeIs.blkS (h : NodeIs B px sb lb pb av n t ow W) {i : Nat} (hs : Step (t ++ [i]) ow W ow' W') : Blk W' B (nodeCells px sb lb pb av n) 78 := h.blk.kept (hs.block h.blk.lt (child_own t i h.own))
theorem NodeIs.rowS (h : NodeIs B px sb lb pb av n t ow W) {i : Nat} (hi : i ≠ 4) (hs : Step (t ++ [i]) ow W ow' W') : Row W' 34 3 av n.acc.length (n.acc.flatMap msgCells) := h.row.kept (fun g hg => hs.block (h.row.lt hg) (child_apart t hi (h.rown g hg)))
theorem NodeIs.ownS (h : NodeIs B px sb lb pb av n t ow W) {i : Nat} (hs : Step (t ++ [i]) ow W ow' W') : ow' B = t := (hs.agree B h.blk.lt).trans h.own
theorem NodeIs.rownS (h : NodeIs B px sb lb pb av n t ow W) {i : Nat} (hs : Step (t ++ [i]) ow W ow' W') : ∀ g, av.ownBlock = some g → ow' g = t ++ [4] := fun g hg => (hs.agree g (h.row.lt hg)).trans (h.rown g hg)
theorem NodeIs.setPax (h : NodeIs B px sb lb pb av n t ow W) (p : PaxS) (hs : Step (t ++ [0]) ow W ow' W') (hp : PaxAt px p (t ++ [0]) ow' W') : NodeIs B px sb lb pb av { n with pax := p } t ow' W' :=
  ⟨h.blkS hs, hp, (StoreAt.loc _ _ _).step h.st hs (apart_child t (by decide)), (LocalAt.loc _ _ _).step h.lo hs (apart_child t (by decide)), (PoolAt.loc _ _ _).step h.pool hs (apart_child t (by decide)), h.rowS (by decide) hs, h.ownS hs, h.rownS hs, h.bad⟩
theorem NodeIs.setStore (h : NodeIs B px sb lb pb av n t ow W) (s : StoreS) (hs : Step (t ++ [1]) ow W ow' W') (hp : StoreAt sb s (t ++ [1]) ow' W') : NodeIs B px sb lb pb av { n with store := s } t ow' W' :=
  ⟨h.blkS hs, (PaxAt.loc _ _ _).step h.pax hs (apart_child t (by decide)), hp, (LocalAt.loc _ _ _).step h.lo hs (apart_child t (by decide)), (PoolAt.loc _ _ _).step h.pool hs (apart_child t (by decide)), h.rowS (by decide) hs, h.ownS hs, h.rownS hs, h.bad⟩
theorem NodeIs.setLocal (h : NodeIs B px sb lb pb av n t ow W) (L : LocalS) (hs : Step (t ++ [2]) ow W ow' W') (hp : LocalAt lb L (t ++ [2]) ow' W') : NodeIs B px sb lb pb av { n with loc := L } t ow' W' :=
  ⟨h.blkS hs, (PaxAt.loc _ _ _).step h.pax hs (apart_child t (by decide)), (StoreAt.loc _ _ _).step h.st hs (apart_child t (by decide)), hp, (PoolAt.loc _ _ _).step h.pool hs (apart_child t (by decide)), h.rowS (by decide) hs, h.ownS hs, h.rownS hs, h.bad⟩
theorem NodeIs.setPool (h : NodeIs B px sb lb pb av n t ow W) (p : PoolS) (hs : Step (t ++ [3]) ow W ow' W') (hp : PoolAt pb p (t ++ [3]) ow' W') : NodeIs B px sb lb pb av { n with pool := p } t ow' W' :=
  ⟨h.blkS hs, (PaxAt.loc _ _ _).step h.pax hs (apart_child t (by decide)), (StoreAt.loc _ _ _).step h.st hs (apart_child t (by decide)), (LocalAt.loc _ _ _).step h.lo hs (apart_child t (by decide)), hp, h.rowS (by decide) hs, h.ownS hs, h.rownS hs, h.bad⟩
/-- The node's own cells, written. -/
theorem NodeIs.setOwn (h : NodeIs B px sb lb pb av n t ow W) (m : NodeS) (hM : Mod (fun k => k = B) W W') (hB : Blk W' B (nodeCells px sb lb pb av m) 78) (e1 : m.pax = n.pax) (e2 : m.store = n.store) (e3 : m.loc = n.loc) (e4 : m.pool = n.pool) (e5 : m.acc = n.acc) (e6 : m.bad = n.bad) :
    Step t ow W ow W' ∧ NodeIs B px sb lb pb av m t ow W' := by
  have hk : ∀ (i : Nat) (k : Nat), k < W.heap.size → Sub (t ++ [i]) (ow k) → ow k = ow k ∧ W'.heap[k]? = W.heap[k]? := fun i k hk hs => ⟨rfl, hM.block k hk (fun e => by subst e; rw [h.own] at hs; exact not_child_sub t i hs)⟩
  refine ⟨⟨hM.mono (fun k _ e => by subst e; rw [h.own]; exact Sub.rfl' _), fun _ _ => rfl⟩, hB, ?_, ?_, ?_, ?_, ?_, h.own, h.rown, e6.trans h.bad⟩
  · rw [e1]; exact PaxAt.loc _ _ _ _ _ _ _ h.pax hM.size (hk 0)
  · rw [e2]; exact StoreAt.loc _ _ _ _ _ _ _ h.st hM.size (hk 1)
  · rw [e3]; exact LocalAt.loc _ _ _ _ _ _ _ h.lo hM.size (hk 2)
  · rw [e4]; exact PoolAt.loc _ _ _ _ _ _ _ h.pool hM.size (hk 3)
  · rw [e5]; exact h.row.mod hM (fun g hg e => h.row.ne_blk h.blk (by decide) hg e)
/-- What a call on a node comes to. -/
def NodePost (B : Nat) (n : NodeS) (t : List Nat) (ow : Own) (w : World) (v : Value) (e : Ending) (w' : World) : Prop :=
  e = .returned v ∧ ∃ ow', Step t ow w ow' w' ∧ NodeAt B n t ow' w'

theorem storePtr_nil_no (a : Addr) (w : World) : (binOp .eql 69 (.pointer (some a)) (.pointer none)).run Tryz.prog w = .ok (.bool false) w := by kernel_rfl
set_option maxRecDepth 8000 in
theorem nNil_none (w : World) : Calls Tryz.prog 46 #[.pointer none] w fun e w' => e = .returned (.bool true) ∧ w' = w := by
  go_enter Tryz.func46, Tryz.ntmps46
  go_wp2
  go_ret
  exact ⟨rfl, rfl⟩
set_option maxRecDepth 8000 in
theorem nNil_any (w : World) (hB : Blk w B (nodeCells px sb lb pb av n) 78) : Calls Tryz.prog 46 #[.pointer (some ⟨B, 0, none⟩)] w fun e w' => e = .returned (.bool false) ∧ w' = w := by
  unfold nodeCells at hB
  have e0 := hB.cell
  have h0 := storePtr_nil_no ⟨sb, 0, none⟩ w
  go_enter Tryz.func46, Tryz.ntmps46
  go_wp2
  go_ret
  exact ⟨rfl, rfl⟩
set_option maxRecDepth 8000 in
theorem nReady_none (w : World) : Calls Tryz.prog 32 #[.pointer none] w fun e w' => e = .returned (.int .i64 1) ∧ w' = w := by
  go_enter Tryz.func32, Tryz.ntmps32
  go_wp2_with (go_at_call 46; refine (nNil_none _).mono ?_; rintro e w1 ⟨rfl, hw1⟩; obtain rfl := hw1.symm)
  go_ret
  exact ⟨rfl, rfl⟩
set_option maxRecDepth 8000 in
theorem nReady_any (w : World) (hB : Blk w B (nodeCells px sb lb pb av n) 78) : Calls Tryz.prog 32 #[.pointer (some ⟨B, 0, none⟩)] w fun e w' => e = .returned (.int .i64 (readyN n)) ∧ w' = w := by
  have hn := nNil_any w hB
  unfold nodeCells at hB
  have e0 := hB.cell
  unfold readyN
  replace hn : Hid (Calls _ _ _ _ _) := hn
  cases hd : n.down
  · rw [hd] at e0
    replace hd : Hid (_ = _) := hd
    replace hB : Hid (Blk _ _ _ _) := hB
    go_enter Tryz.func32, Tryz.ntmps32
    go_wp2_with (go_at_call 46; refine hn.out.mono ?_; rintro e w1 ⟨rfl, hw1⟩; obtain rfl := hw1.symm)
    go_ret
    exact ⟨rfl, rfl⟩
  · rw [hd] at e0
    replace hd : Hid (_ = _) := hd
    replace hB : Hid (Blk _ _ _ _) := hB
    go_enter Tryz.func32, Tryz.ntmps32
    go_wp2_with (go_at_call 46; refine hn.out.mono ?_; rintro e w1 ⟨rfl, hw1⟩; obtain rfl := hw1.symm)
    go_ret
    exact ⟨rfl, rfl⟩
set_option maxRecDepth 8000 in
theorem nIsDown_none (w : World) : Calls Tryz.prog 26 #[.pointer none] w fun e w' => e = .returned (.bool true) ∧ w' = w := by
  go_enter Tryz.func26, Tryz.ntmps26
  go_wp2_with (go_at_call 32; refine (nReady_none _).mono ?_; rintro e w1 ⟨rfl, hw1⟩; obtain rfl := hw1.symm)
  go_ret
  exact ⟨rfl, rfl⟩
set_option maxRecDepth 8000 in
theorem nAccepted_none (w : World) : Calls Tryz.prog 19 #[.pointer none] w fun e w' => e = .returned (.slice none 0 0) ∧ w' = w := by
  go_enter Tryz.func19, Tryz.ntmps19
  go_wp2_with (go_at_call 46; refine (nNil_none _).mono ?_; rintro e w1 ⟨rfl, hw1⟩; obtain rfl := hw1.symm)
  go_ret
  exact ⟨rfl, rfl⟩
set_option maxRecDepth 8000 in
theorem nAccepted_any (w : World) (h : NodeIs B px sb lb pb av n t ow w) (hl : n.acc.length ≤ 1073741824) : Calls Tryz.prog 19 #[.pointer (some ⟨B, 0, none⟩)] w fun e w' =>
    ∃ v', e = .returned v' ∧ Row w' 34 3 v' n.acc.length (n.acc.flatMap msgCells) ∧ Below w.heap.size w w' ∧ (∀ g, v'.ownBlock = some g → w.heap.size ≤ g) := by
  have hB := h.blk
  have hn := nNil_any w hB
  have hc := clone_any av n.acc w h.row.src hl
  unfold nodeCells at hB
  have e0 := hB.cell
  replace hn : Hid (Calls _ _ _ _ _) := hn
  replace hc : Hid (Calls _ _ _ _ _) := hc
  clear h hB
  go_enter Tryz.func19, Tryz.ntmps19
  go_wp2_with (first
    | (go_at_call 46; refine hn.out.mono ?_; rintro e w1 ⟨rfl, hw1⟩; obtain rfl := hw1.symm)
    | (go_at_call 49; refine hc.out.mono ?_; rintro e w2 ⟨v', rfl, h1, h2, h3⟩; replace h3 : Hid (∀ _, _) := h3))
  go_ret
  exact ⟨_, rfl, h1, h2, h3.out⟩
set_option maxRecDepth 8000 in
theorem nDecided_none (i : Int) (w : World) : Calls Tryz.prog 24 #[.pointer none, .int .i64 i] w fun e w' => e = .returned (.tuple #[.string ⟨#[]⟩, .bool false]) ∧ w' = w := by
  go_enter Tryz.func24, Tryz.ntmps24
  go_wp2_with (go_at_call 46; refine (nNil_none _).mono ?_; rintro e w1 ⟨rfl, hw1⟩; obtain rfl := hw1.symm)
  go_ret2
  exact ⟨rfl, rfl⟩
set_option maxRecDepth 8000 in
theorem nLocal_none (w : World) : Calls Tryz.prog 21 #[.pointer none] w fun e w' => e = .returned (.pointer none) ∧ w' = w := by
  go_enter Tryz.func21, Tryz.ntmps21
  go_wp2_with (go_at_call 46; refine (nNil_none _).mono ?_; rintro e w1 ⟨rfl, hw1⟩; obtain rfl := hw1.symm)
  go_ret
  exact ⟨rfl, rfl⟩
set_option maxRecDepth 8000 in
theorem nLocal_any (w : World) (hB : Blk w B (nodeCells px sb lb pb av n) 78) : Calls Tryz.prog 21 #[.pointer (some ⟨B, 0, none⟩)] w fun e w' => e = .returned (.pointer (some ⟨lb, 0, none⟩)) ∧ w' = w := by
  have hn := nNil_any w hB
  unfold nodeCells at hB
  have e0 := hB.cell
  replace hn : Hid (Calls _ _ _ _ _) := hn
  replace hB : Hid (Blk _ _ _ _) := hB
  go_enter Tryz.func21, Tryz.ntmps21
  go_wp2_with (go_at_call 46; refine hn.out.mono ?_; rintro e w1 ⟨rfl, hw1⟩; obtain rfl := hw1.symm)
  go_ret
  exact ⟨rfl, rfl⟩
set_option maxRecDepth 8000 in
theorem nCrash_any (w : World) (h : NodeIs B px sb lb pb av n t ow w) : Calls Tryz.prog 11 #[.pointer (some ⟨B, 0, none⟩)] w (NodePost B (crashN n).1 t ow w (.int .i64 (crashN n).2)) := by
  have hB := h.blk
  have hr := nReady_any w hB
  have hw := fun m W' => h.setOwn (W' := W') m
  have h0 : NodeAt B n t ow w := ⟨_, _, _, _, _, h⟩
  unfold nodeCells at hB hw
  have e0 := hB.cell
  have f0 := hB.frozen
  have l0 := hB.lt
  unfold crashN readyN at *
  replace hB : Hid (Blk _ _ _ _) := hB
  replace h0 : Hid (NodeAt _ _ _ _ _) := h0
  replace hw : Hid (∀ _, _) := hw
  cases hd : n.down
  · rw [hd] at hr
    replace hr : Hid (Calls _ _ _ _ _) := hr
    clear h
    rw [if_neg (by simp)]
    replace hd : Hid (_ = _) := hd
    go_enter Tryz.func11, Tryz.ntmps11
    go_wp2_with (go_at_call 32; refine hr.out.mono ?_; rintro e w1 ⟨rfl, hw1⟩; obtain rfl := hw1.symm)
    go_ret
    have hq := hw.out { n with down := true } (w.setCell ⟨B, 11, none⟩ (.bool true)) ((Mod.refl (fun k => k = B) w).thenSet (p := ⟨B, 11, none⟩) rfl _) (hB.out.set (o := 11) _) rfl rfl rfl rfl rfl rfl
    exact ⟨rfl, ow, hq.1, _, _, _, _, _, hq.2⟩
  · rw [hd] at hr
    replace hr : Hid (Calls _ _ _ _ _) := hr
    clear h
    rw [if_pos rfl]
    replace hd : Hid (_ = _) := hd
    go_enter Tryz.func11, Tryz.ntmps11
    go_wp2_with (go_at_call 32; refine hr.out.mono ?_; rintro e w1 ⟨rfl, hw1⟩; obtain rfl := hw1.symm)
    go_ret
    exact ⟨rfl, ow, Step.refl _ _ _, h0.out⟩
set_option maxRecDepth 8000 in
theorem nCut_any (k : Int) (w : World) (h : NodeIs B px sb lb pb av n t ow w) : Calls Tryz.prog 25 #[.pointer (some ⟨B, 0, none⟩), .int .i64 k] w (NodePost B (cutN n k).1 t ow w (.int .i64 (cutN n k).2)) := by
  have hB := h.blk
  have hr := nReady_any w hB
  have hc := stCut_any sb n.store (t ++ [1]) ow k w h.st
  have h0 : NodeAt B n t ow w := ⟨_, _, _, _, _, h⟩
  unfold nodeCells at hB
  have e0 := hB.cell
  unfold cutN
  unfold readyN at hr
  replace hB : Hid (Blk _ _ _ _) := hB
  replace h0 : Hid (NodeAt _ _ _ _ _) := h0
  replace hc : Hid (Calls _ _ _ _ _) := hc
  by_cases hd : n.down = false
  · rw [hd] at hr
    replace hr : Hid (Calls _ _ _ _ _) := hr
    rw [if_neg (by simp [hd])]
    replace hd : Hid (_ = _) := hd
    go_enter Tryz.func25, Tryz.ntmps25
    go_wp2_with fail
    refine hr.out.mono ?_
    rintro e w1 ⟨rfl, hw1⟩
    obtain rfl := hw1.symm
    go_wp2_with fail
    refine hc.out.mono ?_
    rintro e w2 ⟨rfl, ow2, hs2, h2⟩
    go_wp2
    go_ret
    exact ⟨rfl, ow2, hs2.mono (Sub.child t 1), _, _, _, _, _, h.setStore _ hs2 h2⟩
  · have hd : n.down = true := by simpa using hd
    rw [hd] at hr
    replace hr : Hid (Calls _ _ _ _ _) := hr
    rw [if_pos hd]
    replace hd : Hid (_ = _) := hd
    go_enter Tryz.func25, Tryz.ntmps25
    go_wp2_with fail
    refine hr.out.mono ?_
    rintro e w1 ⟨rfl, hw1⟩
    obtain rfl := hw1.symm
    go_wp2
    go_ret
    exact ⟨rfl, ow, Step.refl _ _ _, h0.out⟩
end Go.Proofs.YtaopeioebpfdeaaGreatDoor
namespace Go.Proofs.YtaopeioebpfdeaaGreatDoor
open Go Go.RowKit Go.Shelf Go.Extern.Stop Go.Stop Go.Extern
attribute [local go_sem] Oper.semAt_some wide_fn wide_depth

theorem keeper_any (B : Nat) (b : Bool) (w : World) : Calls Tryz.prog 35 #[.pointer (some ⟨B, 0, none⟩), .bool b] w fun e w' =>
    e = .returned (.func (.func 64) #[] #[.pointer (some ⟨w.heap.size, 0, none⟩), .pointer (some ⟨w.heap.size + 1, 0, none⟩)]) ∧ w' = (w.alloc (.cells #[.pointer (some ⟨B, 0, none⟩)] 26)).alloc (.cells #[.bool b] 4) := by
  go_enter Tryz.func35, Tryz.ntmps35
  go_wp2
  go_ret
  exact ⟨rfl, rfl⟩
theorem join_nil : ∀ (l : List (List UInt8)), Lib.join l [] = l.flatten
  | [] => by simp [Lib.join, List.intercalate]
  | [x] => by simp [Lib.join, List.intercalate]
  | x :: y :: l => by
    have ih := join_nil (y :: l)
    simp only [Lib.join, List.intercalate, List.intersperse_cons_cons, List.flatten_cons, List.nil_append] at *
    rw [ih]
theorem sJoin_any (v : Value) (ts : List (List UInt8)) (w : World) (hv : Src w v 1 ts.length (texts ts)) (h0 : 0 < ts.length) (hn : ts.length ≤ 1000) (hl : ts.flatten.length ≤ 1073741824) :
    Calls Tryz.prog 66 #[v, .string ⟨#[]⟩] w fun e w' => e = .returned (.string (bs ts.flatten)) ∧ Below w.heap.size w w' := by
  rcases hv.2 with ⟨rfl, hz⟩ | ⟨b, off, cap, rfl, hc, hr⟩
  · omega
  · have hb : b < w.heap.size := cell_lt (hr 0 _ (by simp [texts]; exact ⟨_, List.getElem?_eq_getElem h0, rfl⟩))
    have hm : (ts.map bs).map (fun s : ByteArray => s.data.toList) = ts := by rw [List.map_map]; exact (List.map_congr_left (fun x _ => bs_data x)).trans (List.map_id _)
    have hj := Tryz.strings_Join b off cap (ts.map bs) ⟨#[]⟩ w (fun j t hz => by
      obtain ⟨x, hx, rfl⟩ : ∃ x, ts[j]? = some x ∧ bs x = t := by simpa using hz
      exact hr j _ (by simp [texts, hx])) hb (by simp; omega) (by simpa using hc) (by
        rw [hm]; show (Lib.join ts []).length ≤ _; rw [join_nil]; omega)
    rw [hm, show Lib.join ts (ByteArray.mk #[]).data.toList = ts.flatten from join_nil ts, List.length_map] at hj
    exact hj
set_option maxRecDepth 8000 in
set_option maxHeartbeats 1000000 in
theorem keep_any (B : Nat) (n : NodeS) (t : List Nat) (ow : Own) (b : Bool) (kb kc : Nat) (v : Value) (ts : List (List UInt8)) (w : World) (h : NodeAt B n t ow w) (hcap : CapOk n.store) (k0 : Blk w kb #[.pointer (some ⟨B, 0, none⟩)] 26) (k1 : Blk w kc #[.bool b] 4)
    (ho0 : ow kb = []) (ho1 : ow kc = []) (hv : Src w v 1 ts.length (texts ts)) (h0 : 0 < ts.length) (hn : ts.length ≤ 1000) (hl : ts.flatten.length ≤ 1073741000) :
    Calls Tryz.prog 64 #[v, .pointer (some ⟨kb, 0, none⟩), .pointer (some ⟨kc, 0, none⟩)] w (NodePost B (keepN n b ts.flatten).1 t ow w (.int .i64 (keepN n b ts.flatten).2)) := by
  obtain ⟨px, sb, lb, pb, av, hN⟩ := h
  have hjoin := fun W hW => sJoin_any v ts W hW h0 hn (by omega)
  have hwr := fun W hW => stWrite_any sb n.store (t ++ [1]) ow ts.flatten W hW hcap hl
  have hB := hN.blk
  have hkn : keepN n b ts.flatten = ({ n with store := (writeP n.store ts.flatten).1, down := n.down || decide ((writeP n.store ts.flatten).2 = 31) || (b && decide ((writeP n.store ts.flatten).2 ≠ 0)) }, (writeP n.store ts.flatten).2) := rfl
  generalize ts.flatten = d at *
  obtain ⟨⟨s', er⟩, hw⟩ : ∃ x, writeP n.store d = x := ⟨_, rfl⟩
  rw [hw] at hwr hkn
  simp only at hwr hkn
  rw [hkn]
  simp only
  obtain ⟨va, vn, vc, rfl⟩ : ∃ a n c, v = .slice a n c := by
    rcases hv.2 with ⟨rfl, -⟩ | ⟨b, off, cap, rfl, -⟩
    · exact ⟨_, _, _, rfl⟩
    · exact ⟨_, _, _, rfl⟩
  unfold nodeCells at hB
  replace hjoin : Hid (∀ _, _) := hjoin
  replace hwr : Hid (∀ _, _) := hwr
  replace hkn : Hid (_ = _) := hkn
  replace hw : Hid (_ = _) := hw
  by_cases h31 : er = 31
  · have t1 : (er == 31) = true := by simp [h31]
    rw [show (n.down || decide (er = 31) || (b && decide (er ≠ 0))) = true by simp [h31]]
    replace h31 : Hid (_ = _) := h31
    go_enter Tryz.func64, Tryz.ntmps64
    go_wp2_with fail
    refine wp_region_sched [(0, true), (1, true), (2, true), (3, true), (4, true), (5, false), (6, false), (7, true)] none (fun w' => Blk w' kb #[.pointer (some ⟨B, 0, none⟩)] 26 ∧ Blk w' B #[.pointer (some ⟨px, 0, none⟩), .int .i64 n.id, .int .i64 n.version, .slice none 0 0, .pointer (some ⟨sb, 0, none⟩), .pointer (some ⟨lb, 0, none⟩), .pointer (some ⟨pb, 0, none⟩), av, .int .i64 (n.offered : Nat), .int .i64 (n.applied : Nat), .int .i64 n.wanted, .bool n.down] 78 ∧ True) (by kernel_rfl) (by kernel_rfl) ⟨k0.drew, hB.drew, trivial⟩ ?_
    (repeat (refine wpSched_quiet (v := ?_) rfl rfl (fun w' hS => ?_) (fun K hK => ?_); rotate_left; (focus ((try have e1 := hS.1.cell); (try have e2 := hS.2.1.cell); (try have e3 := hS.2.2.1.cell); (try have e4 := hS.2.2.2.1.cell); (try have f1 := hS.1); (try have f2 := hS.2.1); (try have f3 := hS.2.2.1); (try have f4 := hS.2.2.2.1); (try have f5 := hS.2.2.2.2.1); clear hS; go_simp; (try with_reducible rfl))); (go_simp; refine hK _ ?_; clear hK K)))
    refine wpSched_loud rfl (fun K hK => ?_)
    go_wp2_with fail
    refine (hjoin.out _ (hv.below (by (repeat (first | exact Below.refl _ _ | with_reducible assumption | refine pb_alloc ?_ _ | refine pb_drew ?_ | refine pb_drewN ?_ _ | refine pb_set ?_ (by simp; try omega) _ | refine pb_trans ?_ (by with_reducible assumption)))))).mono ?_
    rintro e w1 ⟨rfl, hb1⟩
    have hbw1 : Below w.heap.size w w1 := by (repeat (first | exact Below.refl _ _ | with_reducible assumption | refine pb_alloc ?_ _ | refine pb_drew ?_ | refine pb_drewN ?_ _ | refine pb_set ?_ (by simp; try omega) _ | refine pb_trans ?_ (by with_reducible assumption)))
    have k01 := k0.call hbw1
    have kB1 := hB.call hbw1
    go_wp2
    refine hK.out _ _ (fun _ => ⟨k01, kB1, trivial⟩) ?_
    clear hK K
    have hN1 := (NodeIs.loc B px sb lb pb av n t).below hN hbw1
    have hk01 := k0.lt
    have hk11 := k1.lt
    refine wpSched_loud rfl (fun K hK => ?_)
    go_wp2_with fail
    refine (hwr.out _ hN1.st).mono ?_
    rintro e w2 ⟨rfl, ow2, hs2, h2⟩
    have hz1 := hbw1.size
    have hn0 : ¬ Sub (t ++ [1]) (ow kb) := by rw [ho0]; exact not_sub_nil (by simp)
    have hn1 : ¬ Sub (t ++ [1]) (ow kc) := by rw [ho1]; exact not_sub_nil (by simp)
    have k02 := k01.kept (hs2.block k01.lt hn0)
    have k12 := (k1.call hbw1).kept (hs2.block (k1.call hbw1).lt hn1)
    have kB2 := hN1.blkS hs2
    have hN2 := hN1.setStore s' hs2 h2
    have hstep2 : Step t ow w ow2 w2 := (Step.of_below t ow hbw1).trans (hs2.mono (Sub.child t 1))
    unfold nodeCells at kB2
    go_wp2
    refine hK.out _ _ (fun _ => ⟨k02, kB2, trivial⟩) ?_
    clear hK K
    (repeat (refine wpSched_quiet (v := ?_) rfl rfl (fun w' hS => ?_) (fun K hK => ?_); rotate_left; (focus ((try have e1 := hS.1.cell); (try have e2 := hS.2.1.cell); (try have e3 := hS.2.2.1.cell); (try have e4 := hS.2.2.2.1.cell); (try have f1 := hS.1); (try have f2 := hS.2.1); (try have f3 := hS.2.2.1); (try have f4 := hS.2.2.2.1); (try have f5 := hS.2.2.2.2.1); clear hS; go_simp; (try with_reducible rfl))); (go_simp; refine hK _ ?_; clear hK K)))
    refine wpSched_nil ?_
    have c02 := k02.cell
    have c12 := k12.cell
    have cB2 := kB2.cell
    have fB2 := kB2.frozen
    have lB2 := kB2.lt
    go_wp2
    go_ret
    have hq := hN2.setOwn (W' := w2.setCell ⟨B, 11, none⟩ (.bool true)) { n with store := s', down := true } ((Mod.refl (fun k => k = B) w2).thenSet (p := ⟨B, 11, none⟩) rfl _) (kB2.set (o := 11) _) rfl rfl rfl rfl rfl rfl
    exact ⟨rfl, ow2, hstep2.trans hq.1, _, _, _, _, _, hq.2⟩
  · have t1 : (er == 31) = false := by simp [h31]
    rw [show decide (er = 31) = false by simpa using h31, Bool.or_false]
    replace h31 : Hid (_ → _) := h31
    cases b
    · rw [Bool.false_and, Bool.or_false]
      go_enter Tryz.func64, Tryz.ntmps64
      go_wp2_with fail
      refine wp_region_sched [(0, true), (1, true), (2, true), (3, true), (4, true), (5, false), (6, false), (7, true)] none (fun w' => Blk w' kb #[.pointer (some ⟨B, 0, none⟩)] 26 ∧ Blk w' B #[.pointer (some ⟨px, 0, none⟩), .int .i64 n.id, .int .i64 n.version, .slice none 0 0, .pointer (some ⟨sb, 0, none⟩), .pointer (some ⟨lb, 0, none⟩), .pointer (some ⟨pb, 0, none⟩), av, .int .i64 (n.offered : Nat), .int .i64 (n.applied : Nat), .int .i64 n.wanted, .bool n.down] 78 ∧ True) (by kernel_rfl) (by kernel_rfl) ⟨k0.drew, hB.drew, trivial⟩ ?_
      (repeat (refine wpSched_quiet (v := ?_) rfl rfl (fun w' hS => ?_) (fun K hK => ?_); rotate_left; (focus ((try have e1 := hS.1.cell); (try have e2 := hS.2.1.cell); (try have e3 := hS.2.2.1.cell); (try have e4 := hS.2.2.2.1.cell); (try have f1 := hS.1); (try have f2 := hS.2.1); (try have f3 := hS.2.2.1); (try have f4 := hS.2.2.2.1); (try have f5 := hS.2.2.2.2.1); clear hS; go_simp; (try with_reducible rfl))); (go_simp; refine hK _ ?_; clear hK K)))
      refine wpSched_loud rfl (fun K hK => ?_)
      go_wp2_with fail
      refine (hjoin.out _ (hv.below (by (repeat (first | exact Below.refl _ _ | with_reducible assumption | refine pb_alloc ?_ _ | refine pb_drew ?_ | refine pb_drewN ?_ _ | refine pb_set ?_ (by simp; try omega) _ | refine pb_trans ?_ (by with_reducible assumption)))))).mono ?_
      rintro e w1 ⟨rfl, hb1⟩
      have hbw1 : Below w.heap.size w w1 := by (repeat (first | exact Below.refl _ _ | with_reducible assumption | refine pb_alloc ?_ _ | refine pb_drew ?_ | refine pb_drewN ?_ _ | refine pb_set ?_ (by simp; try omega) _ | refine pb_trans ?_ (by with_reducible assumption)))
      have k01 := k0.call hbw1
      have kB1 := hB.call hbw1
      go_wp2
      refine hK.out _ _ (fun _ => ⟨k01, kB1, trivial⟩) ?_
      clear hK K
      have hN1 := (NodeIs.loc B px sb lb pb av n t).below hN hbw1
      have hk01 := k0.lt
      have hk11 := k1.lt
      refine wpSched_loud rfl (fun K hK => ?_)
      go_wp2_with fail
      refine (hwr.out _ hN1.st).mono ?_
      rintro e w2 ⟨rfl, ow2, hs2, h2⟩
      have hz1 := hbw1.size
      have hn0 : ¬ Sub (t ++ [1]) (ow kb) := by rw [ho0]; exact not_sub_nil (by simp)
      have hn1 : ¬ Sub (t ++ [1]) (ow kc) := by rw [ho1]; exact not_sub_nil (by simp)
      have k02 := k01.kept (hs2.block k01.lt hn0)
      have k12 := (k1.call hbw1).kept (hs2.block (k1.call hbw1).lt hn1)
      have kB2 := hN1.blkS hs2
      have hN2 := hN1.setStore s' hs2 h2
      have hstep2 : Step t ow w ow2 w2 := (Step.of_below t ow hbw1).trans (hs2.mono (Sub.child t 1))
      unfold nodeCells at kB2
      go_wp2
      refine hK.out _ _ (fun _ => ⟨k02, kB2, trivial⟩) ?_
      clear hK K
      (repeat (refine wpSched_quiet (v := ?_) rfl rfl (fun w' hS => ?_) (fun K hK => ?_); rotate_left; (focus ((try have e1 := hS.1.cell); (try have e2 := hS.2.1.cell); (try have e3 := hS.2.2.1.cell); (try have e4 := hS.2.2.2.1.cell); (try have f1 := hS.1); (try have f2 := hS.2.1); (try have f3 := hS.2.2.1); (try have f4 := hS.2.2.2.1); (try have f5 := hS.2.2.2.2.1); clear hS; go_simp; (try with_reducible rfl))); (go_simp; refine hK _ ?_; clear hK K)))
      refine wpSched_nil ?_
      have c02 := k02.cell
      have c12 := k12.cell
      have cB2 := kB2.cell
      have fB2 := kB2.frozen
      have lB2 := kB2.lt
      go_wp2
      go_ret
      exact ⟨rfl, ow2, hstep2, _, _, _, _, _, hN2⟩
    · rw [Bool.true_and]
      by_cases he : er = 0
      · have t2 : (er != 0) = false := by simp [he]
        rw [show decide (er ≠ 0) = false by simp [he], Bool.or_false]
        replace he : Hid (_ = _) := he
        go_enter Tryz.func64, Tryz.ntmps64
        go_wp2_with fail
        refine wp_region_sched [(0, true), (1, true), (2, true), (3, true), (4, true), (5, false), (6, false), (7, true)] none (fun w' => Blk w' kb #[.pointer (some ⟨B, 0, none⟩)] 26 ∧ Blk w' B #[.pointer (some ⟨px, 0, none⟩), .int .i64 n.id, .int .i64 n.version, .slice none 0 0, .pointer (some ⟨sb, 0, none⟩), .pointer (some ⟨lb, 0, none⟩), .pointer (some ⟨pb, 0, none⟩), av, .int .i64 (n.offered : Nat), .int .i64 (n.applied : Nat), .int .i64 n.wanted, .bool n.down] 78 ∧ True) (by kernel_rfl) (by kernel_rfl) ⟨k0.drew, hB.drew, trivial⟩ ?_
        (repeat (refine wpSched_quiet (v := ?_) rfl rfl (fun w' hS => ?_) (fun K hK => ?_); rotate_left; (focus ((try have e1 := hS.1.cell); (try have e2 := hS.2.1.cell); (try have e3 := hS.2.2.1.cell); (try have e4 := hS.2.2.2.1.cell); (try have f1 := hS.1); (try have f2 := hS.2.1); (try have f3 := hS.2.2.1); (try have f4 := hS.2.2.2.1); (try have f5 := hS.2.2.2.2.1); clear hS; go_simp; (try with_reducible rfl))); (go_simp; refine hK _ ?_; clear hK K)))
        refine wpSched_loud rfl (fun K hK => ?_)
        go_wp2_with fail
        refine (hjoin.out _ (hv.below (by (repeat (first | exact Below.refl _ _ | with_reducible assumption | refine pb_alloc ?_ _ | refine pb_drew ?_ | refine pb_drewN ?_ _ | refine pb_set ?_ (by simp; try omega) _ | refine pb_trans ?_ (by with_reducible assumption)))))).mono ?_
        rintro e w1 ⟨rfl, hb1⟩
        have hbw1 : Below w.heap.size w w1 := by (repeat (first | exact Below.refl _ _ | with_reducible assumption | refine pb_alloc ?_ _ | refine pb_drew ?_ | refine pb_drewN ?_ _ | refine pb_set ?_ (by simp; try omega) _ | refine pb_trans ?_ (by with_reducible assumption)))
        have k01 := k0.call hbw1
        have kB1 := hB.call hbw1
        go_wp2
        refine hK.out _ _ (fun _ => ⟨k01, kB1, trivial⟩) ?_
        clear hK K
        have hN1 := (NodeIs.loc B px sb lb pb av n t).below hN hbw1
        have hk01 := k0.lt
        have hk11 := k1.lt
        refine wpSched_loud rfl (fun K hK => ?_)
        go_wp2_with fail
        refine (hwr.out _ hN1.st).mono ?_
        rintro e w2 ⟨rfl, ow2, hs2, h2⟩
        have hz1 := hbw1.size
        have hn0 : ¬ Sub (t ++ [1]) (ow kb) := by rw [ho0]; exact not_sub_nil (by simp)
        have hn1 : ¬ Sub (t ++ [1]) (ow kc) := by rw [ho1]; exact not_sub_nil (by simp)
        have k02 := k01.kept (hs2.block k01.lt hn0)
        have k12 := (k1.call hbw1).kept (hs2.block (k1.call hbw1).lt hn1)
        have kB2 := hN1.blkS hs2
        have hN2 := hN1.setStore s' hs2 h2
        have hstep2 : Step t ow w ow2 w2 := (Step.of_below t ow hbw1).trans (hs2.mono (Sub.child t 1))
        unfold nodeCells at kB2
        go_wp2
        refine hK.out _ _ (fun _ => ⟨k02, kB2, trivial⟩) ?_
        clear hK K
        (repeat (refine wpSched_quiet (v := ?_) rfl rfl (fun w' hS => ?_) (fun K hK => ?_); rotate_left; (focus ((try have e1 := hS.1.cell); (try have e2 := hS.2.1.cell); (try have e3 := hS.2.2.1.cell); (try have e4 := hS.2.2.2.1.cell); (try have f1 := hS.1); (try have f2 := hS.2.1); (try have f3 := hS.2.2.1); (try have f4 := hS.2.2.2.1); (try have f5 := hS.2.2.2.2.1); clear hS; go_simp; (try with_reducible rfl))); (go_simp; refine hK _ ?_; clear hK K)))
        refine wpSched_nil ?_
        have c02 := k02.cell
        have c12 := k12.cell
        have cB2 := kB2.cell
        have fB2 := kB2.frozen
        have lB2 := kB2.lt
        go_wp2
        go_ret
        exact ⟨rfl, ow2, hstep2, _, _, _, _, _, hN2⟩
      · have t2 : (er != 0) = true := by simpa using he
        rw [show decide (er ≠ 0) = true by simp [he], Bool.or_true]
        replace he : Hid (_ → _) := he
        go_enter Tryz.func64, Tryz.ntmps64
        go_wp2_with fail
        refine wp_region_sched [(0, true), (1, true), (2, true), (3, true), (4, true), (5, false), (6, false), (7, true)] none (fun w' => Blk w' kb #[.pointer (some ⟨B, 0, none⟩)] 26 ∧ Blk w' B #[.pointer (some ⟨px, 0, none⟩), .int .i64 n.id, .int .i64 n.version, .slice none 0 0, .pointer (some ⟨sb, 0, none⟩), .pointer (some ⟨lb, 0, none⟩), .pointer (some ⟨pb, 0, none⟩), av, .int .i64 (n.offered : Nat), .int .i64 (n.applied : Nat), .int .i64 n.wanted, .bool n.down] 78 ∧ True) (by kernel_rfl) (by kernel_rfl) ⟨k0.drew, hB.drew, trivial⟩ ?_
        (repeat (refine wpSched_quiet (v := ?_) rfl rfl (fun w' hS => ?_) (fun K hK => ?_); rotate_left; (focus ((try have e1 := hS.1.cell); (try have e2 := hS.2.1.cell); (try have e3 := hS.2.2.1.cell); (try have e4 := hS.2.2.2.1.cell); (try have f1 := hS.1); (try have f2 := hS.2.1); (try have f3 := hS.2.2.1); (try have f4 := hS.2.2.2.1); (try have f5 := hS.2.2.2.2.1); clear hS; go_simp; (try with_reducible rfl))); (go_simp; refine hK _ ?_; clear hK K)))
        refine wpSched_loud rfl (fun K hK => ?_)
        go_wp2_with fail
        refine (hjoin.out _ (hv.below (by (repeat (first | exact Below.refl _ _ | with_reducible assumption | refine pb_alloc ?_ _ | refine pb_drew ?_ | refine pb_drewN ?_ _ | refine pb_set ?_ (by simp; try omega) _ | refine pb_trans ?_ (by with_reducible assumption)))))).mono ?_
        rintro e w1 ⟨rfl, hb1⟩
        have hbw1 : Below w.heap.size w w1 := by (repeat (first | exact Below.refl _ _ | with_reducible assumption | refine pb_alloc ?_ _ | refine pb_drew ?_ | refine pb_drewN ?_ _ | refine pb_set ?_ (by simp; try omega) _ | refine pb_trans ?_ (by with_reducible assumption)))
        have k01 := k0.call hbw1
        have kB1 := hB.call hbw1
        go_wp2
        refine hK.out _ _ (fun _ => ⟨k01, kB1, trivial⟩) ?_
        clear hK K
        have hN1 := (NodeIs.loc B px sb lb pb av n t).below hN hbw1
        have hk01 := k0.lt
        have hk11 := k1.lt
        refine wpSched_loud rfl (fun K hK => ?_)
        go_wp2_with fail
        refine (hwr.out _ hN1.st).mono ?_
        rintro e w2 ⟨rfl, ow2, hs2, h2⟩
        have hz1 := hbw1.size
        have hn0 : ¬ Sub (t ++ [1]) (ow kb) := by rw [ho0]; exact not_sub_nil (by simp)
        have hn1 : ¬ Sub (t ++ [1]) (ow kc) := by rw [ho1]; exact not_sub_nil (by simp)
        have k02 := k01.kept (hs2.block k01.lt hn0)
        have k12 := (k1.call hbw1).kept (hs2.block (k1.call hbw1).lt hn1)
        have kB2 := hN1.blkS hs2
        have hN2 := hN1.setStore s' hs2 h2
        have hstep2 : Step t ow w ow2 w2 := (Step.of_below t ow hbw1).trans (hs2.mono (Sub.child t 1))
        unfold nodeCells at kB2
        go_wp2
        refine hK.out _ _ (fun _ => ⟨k02, kB2, trivial⟩) ?_
        clear hK K
        (repeat (refine wpSched_quiet (v := ?_) rfl rfl (fun w' hS => ?_) (fun K hK => ?_); rotate_left; (focus ((try have e1 := hS.1.cell); (try have e2 := hS.2.1.cell); (try have e3 := hS.2.2.1.cell); (try have e4 := hS.2.2.2.1.cell); (try have f1 := hS.1); (try have f2 := hS.2.1); (try have f3 := hS.2.2.1); (try have f4 := hS.2.2.2.1); (try have f5 := hS.2.2.2.2.1); clear hS; go_simp; (try with_reducible rfl))); (go_simp; refine hK _ ?_; clear hK K)))
        refine wpSched_nil ?_
        have c02 := k02.cell
        have c12 := k12.cell
        have cB2 := kB2.cell
        have fB2 := kB2.frozen
        have lB2 := kB2.lt
        go_wp2
        go_ret
        have hq := hN2.setOwn (W' := w2.setCell ⟨B, 11, none⟩ (.bool true)) { n with store := s', down := true } ((Mod.refl (fun k => k = B) w2).thenSet (p := ⟨B, 11, none⟩) rfl _) (kB2.set (o := 11) _) rfl rfl rfl rfl rfl rfl
        exact ⟨rfl, ow2, hstep2.trans hq.1, _, _, _, _, _, hq.2⟩
end Go.Proofs.YtaopeioebpfdeaaGreatDoor
