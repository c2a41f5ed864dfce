/- PROVED HERE: WALKS: node's apply, Next, Learn. Condition: the node is one that calls have made, with no bad versions. -/
import Derived.Test.YtaopeioebpfdeaaGreatDoorK20
import Derived.Test.YtaopeioebpfdeaaGreatDoorK36
namespace Go.Proofs.YtaopeioebpfdeaaGreatDoor
open Go Go.RowKit Go.Shelf Go.Extern.Stop Go.Stop Go.Extern
attribute [local go_sem] Oper.semAt_some wide_fn wide_depth

/-- What stands while a loop runs on a node: the node, and the loop's own blocks, which are nobody's. -/
structure OnNode (B : Nat) (t : List Nat) (ow : Own) (w W0 : World) (m : NodeS) (ow' : Own) (X : Nat → Prop) (W : World) : Prop where
  node : NodeAt B m t ow' W
  st : Step t ow w ow' W
  sz : W0.heap.size ≤ W.heap.size
  free : ∀ k, w.heap.size ≤ k → k < W0.heap.size → ow' k = []
  xs : ∀ k, X k → W0.heap.size ≤ k ∧ k < W.heap.size ∧ ow' k = []
theorem OnNode.stab {B : Nat} {t : List Nat} (ht : t ≠ []) {ow : Own} {w W0 : World} (hw : w.heap.size ≤ W0.heap.size) {m : NodeS} {ow' : Own} {X X' : Nat → Prop} {W W' : World} (h : OnNode B t ow w W0 m ow' X W) (hm : Mod X W W') (hx : ∀ k, X' k → X k ∨ (W.heap.size ≤ k ∧ k < W'.heap.size)) :
    OnNode B t ow w W0 m (ow'.cut W) X' W' where
  node := NodeAt.loc B m t _ _ _ _ h.node hm.size (fun k hk hs => ⟨Own.cut_old hk, hm.block k hk (fun hX => by rw [(h.xs k hX).2.2] at hs; exact not_sub_nil ht hs)⟩)
  st := ⟨h.st.mod.trans hm (fun _ _ e => e) (fun k hk e => by have := (h.xs k e).1; omega), fun k hk => (Own.cut_old (by have := h.st.size; omega)).trans (h.st.agree k hk)⟩
  sz := Nat.le_trans h.sz hm.size
  free := fun k h1 h2 => by rw [Own.cut_old (by have := h.sz; omega)]; exact h.free k h1 h2
  xs := fun k hk => by
    have hs := hm.size
    rcases hx k hk with h1 | h1
    · have h2 := h.xs k h1
      exact ⟨h2.1, by omega, by rw [Own.cut_old h2.2.1]; exact h2.2.2⟩
    · exact ⟨by have := h.sz; omega, by omega, Own.cut_new h1.1⟩
theorem OnNode.blk {B : Nat} {t : List Nat} {ow : Own} {w W0 : World} {m : NodeS} {ow' : Own} {X : Nat → Prop} {W W' : World} (h : OnNode B t ow w W0 m ow' X W) (hm : Mod X W W') {k : Nat} (hk : k < W0.heap.size) : W'.heap[k]? = W.heap[k]? :=
  hm.block k (by have := h.sz; omega) (fun e => by have := (h.xs k e).1; omega)
/-- A step on the node in a round. -/
theorem OnNode.step {B : Nat} {t : List Nat} {ow : Own} {w W0 : World} {m m' : NodeS} {ow1 ow2 : Own} {X : Nat → Prop} {W W' : World} (h : OnNode B t ow w W0 m ow1 X W) (hs : Step t ow1 W ow2 W') (hn : NodeAt B m' t ow2 W') : OnNode B t ow w W0 m' ow2 X W' where
  node := hn
  st := h.st.trans hs
  sz := Nat.le_trans h.sz hs.size
  free := fun k h1 h2 => by rw [hs.agree k (by have := h.sz; omega)]; exact h.free k h1 h2
  xs := fun k hk => by
    have h2 := h.xs k hk
    exact ⟨h2.1, by have := hs.size; omega, by rw [hs.agree k h2.2.1]; exact h2.2.2⟩
theorem OnNode.saves {B : Nat} {t : List Nat} (ht : t ≠ []) {ow : Own} {w W0 : World} {m : NodeS} {ow1 ow2 : Own} {X : Nat → Prop} {W W' : World} (h : OnNode B t ow w W0 m ow1 X W) (hs : Step t ow1 W ow2 W') : Saves X W W' :=
  ⟨hs.size, fun k hX hk => hs.block hk (by rw [(h.xs k hX).2.2]; exact not_sub_nil ht)⟩
/-- The loop's own cells, written. -/
theorem OnNode.set {B : Nat} {t : List Nat} {ow : Own} {w W0 : World} {m : NodeS} {ow1 : Own} {X : Nat → Prop} {W : World} (ht : t ≠ []) (h : OnNode B t ow w W0 m ow1 X W) {p : Addr} (hp : w.heap.size ≤ p.block) (hp2 : ow1 p.block = []) (v : Value) : OnNode B t ow w W0 m ow1 X (W.setCell p v) where
  node := NodeAt.loc B m t _ _ _ _ h.node (by simp) (fun k hk hs => ⟨rfl, Below.heap_setCell _ _ _ _ (fun e => by subst e; rw [hp2] at hs; exact not_sub_nil ht hs)⟩)
  st := h.st.setNew p v hp
  sz := by have := h.sz; simpa using this
  free := h.free
  xs := fun k hk => by simpa using h.xs k hk
/-- What apply's loop keeps: the node so far, the messages so far. -/
structure ApAt (B : Nat) (t : List Nat) (ow : Own) (w W0 : World) (kb : Nat) (ms : List MsgD) (v : Value) (ow' : Own) (X : Nat → Prop) (W : World) : Prop where
  kS : Blk W kb #[v] 42
  row : Row W 34 3 v ms.length (ms.flatMap msgCells)
  new : ∀ g, v.ownBlock = some g → w.heap.size ≤ g ∧ ow' g = [] ∧ ¬ X g
theorem ApAt.stab {B : Nat} {t : List Nat} {ow : Own} {w W0 : World} {kb : Nat} {m : NodeS} {ms : List MsgD} {v : Value} {ow' : Own} {X X' : Nat → Prop} {W W' : World} (hN : OnNode B t ow w W0 m ow' X W) (h : ApAt B t ow w W0 kb ms v ow' X W) (hk : kb < W0.heap.size) (hm : Mod X W W') (hx : ∀ k, X' k → X k ∨ (W.heap.size ≤ k ∧ k < W'.heap.size)) :
    ApAt B t ow w W0 kb ms v (ow'.cut W) X' W' where
  kS := h.kS.kept (hN.blk hm hk)
  row := h.row.mod hm (fun g hg => (h.new g hg).2.2)
  new := fun g hg => ⟨(h.new g hg).1, by rw [Own.cut_old (h.row.lt hg)]; exact (h.new g hg).2.1, fun hX => by
    rcases hx g hX with h1 | h1
    · exact (h.new g hg).2.2 h1
    · have := h.row.lt hg; omega⟩
theorem OnNode.grown {B : Nat} {t : List Nat} (ht : t ≠ []) {ow : Own} {w W0 : World} {m : NodeS} {ow1 : Own} {X : Nat → Prop} {W W' : World} {v : Value} (h : OnNode B t ow w W0 m ow1 X W) (hg : W.grownBy W' v.ownBlock) (hv : ∀ g, v.ownBlock = some g → w.heap.size ≤ g ∧ ow1 g = [] ∧ ¬ X g) : OnNode B t ow w W0 m (ow1.cut W) X W' where
  node := NodeAt.loc B m t _ _ _ _ h.node hg.size (fun k hk hs => ⟨Own.cut_old hk, hg.block k hk (fun e => by rw [(hv k e.symm).2.1] at hs; exact not_sub_nil ht hs)⟩)
  st := ⟨h.st.mod.trans (Mod.grown (X := fun k => v.ownBlock = some k) hg (fun k h => h)) (fun _ _ e => e) (fun k hk e => by have := (hv k e).1; omega), fun k hk => (Own.cut_old (by have := h.st.size; omega)).trans (h.st.agree k hk)⟩
  sz := Nat.le_trans h.sz hg.size
  free := fun k h1 h2 => by rw [Own.cut_old (by have := h.sz; omega)]; exact h.free k h1 h2
  xs := fun k hk => by
    have h2 := h.xs k hk
    exact ⟨h2.1, by have := hg.size; omega, by rw [Own.cut_old h2.2.1]; exact h2.2.2⟩
theorem applyL_all (L : LocalS) (e : EntryD) (f : Bool) : (applyL L e f).1.log = L.log ++ (applyL L e f).2.1 := by
  unfold applyL
  split
  · simp
  · unfold releaseL
    split
    · unfold holdL; simp [(midL_same L _ f).2]
    · unfold holdL; simp [(midL_same L _ f).2, (midL_same L _ f).1]
theorem unpack_few (s : List UInt8) : (unpackP s).1.length ≤ 64 := by
  unfold unpackP
  split
  · simp
  · rename_i b r
    split
    · simp
    · rename_i hb
      split
      · simp
      · rename_i l hl
        rw [unpackN_len _ _ _ hl]; omega
theorem decode_few (s : List UInt8) : (decodeP s).1.msgs.length ≤ 64 := by
  unfold decodeP
  split
  · simp
  · split
    · simp
    · split
      · exact unpack_few _
      · simp
/-- How far apply is. -/
structure ApFar (n : NodeS) (k : Nat) (m : NodeS) (ms : List MsgD) : Prop where
  app : m.applied + 1 = k
  pax : m.pax = n.pax
  acc : m.acc = n.acc
  bad : m.bad = n.bad
  few : LocalB m.loc m.applied
  log : m.loc.log = n.loc.log ++ ms
  far : ∃ f, f + k = 10001 + (n.applied + 1) ∧ applyN 10001 n = ((applyN f m).1, ms ++ (applyN f m).2)
theorem ApFar.bad1 {n m : NodeS} {k : Nat} {ms : List MsgD} (h : ApFar n k m ms) {x : List UInt8} (hx : look (k : Int) n.pax.known = some x) (hk : k ≤ 10000) (hd : (decodeP x).2 ≠ 0) : ApFar n (k + 1) { m with applied := m.applied + 1 } ms := by
  obtain ⟨f, hf, hf2⟩ := h.far
  obtain ⟨f', rfl⟩ : ∃ f', f = f' + 1 := ⟨f - 1, by omega⟩
  refine ⟨by show m.applied + 1 + 1 = _; rw [h.app], h.pax, h.acc, h.bad, h.few.mono (by simp), h.log, f', by omega, ?_⟩
  rw [hf2, applyN, h.pax, show (m.applied : Int) + 1 = (k : Int) by have := h.app; omega, hx]
  simp only
  rw [if_pos hd]
theorem ApFar.ok1 {n m : NodeS} {k : Nat} {ms : List MsgD} (h : ApFar n k m ms) {x : List UInt8} (hx : look (k : Int) n.pax.known = some x) (hk : k ≤ 10000) (hd : (decodeP x).2 = 0) :
    ApFar n (k + 1) (enterN { m with applied := m.applied + 1 } (decodeP x).1).1 (ms ++ (enterN { m with applied := m.applied + 1 } (decodeP x).1).2) := by
  obtain ⟨f, hf, hf2⟩ := h.far
  obtain ⟨f', rfl⟩ : ∃ f', f = f' + 1 := ⟨f - 1, by omega⟩
  obtain ⟨hs, hl, ha⟩ := enter_same { m with applied := m.applied + 1 } (decodeP x).1
  have hq : (enterN { m with applied := m.applied + 1 } (decodeP x).1).2 = (applyL m.loc (decodeP x).1 (m.bad.contains (aheadN { m with applied := m.applied + 1 } (decodeP x).1))).2.1 := rfl
  have hl' : (enterN { m with applied := m.applied + 1 } (decodeP x).1).1.loc = (applyL m.loc (decodeP x).1 (m.bad.contains (aheadN { m with applied := m.applied + 1 } (decodeP x).1))).1 := hl
  refine ⟨by rw [ha]; show m.applied + 1 + 1 = _; rw [h.app], hs.pax.trans h.pax, hs.acc.trans h.acc, hs.bad.trans h.bad, ?_, ?_, f', by omega, ?_⟩
  · rw [ha, hl']; exact applyL_b h.few _ _
  · rw [hl', hq, applyL_all, h.log, List.append_assoc]
  · rw [hf2, applyN, h.pax, show (m.applied : Int) + 1 = (k : Int) by have := h.app; omega, hx]
    simp only
    rw [if_neg (by simpa using hd), List.append_assoc]
theorem ApFar.few2 {n m : NodeS} {k : Nat} {ms : List MsgD} (h : ApFar n k m ms) : ms.length ≤ 64 * k := by
  have h1 := h.few.len
  have h2 := congrArg List.length h.log
  have h3 := h.app
  rw [List.length_append] at h2
  omega
theorem ApFar.fin {n m : NodeS} {k : Nat} {ms : List MsgD} (h : ApFar n k m ms) (hx : look (k : Int) n.pax.known = none) : applyN 10001 n = (m, ms) := by
  obtain ⟨f, hf, hf2⟩ := h.far
  rw [hf2]
  cases f with
  | zero => simp [applyN]
  | succ f =>
    rw [applyN, h.pax, show (m.applied : Int) + 1 = (k : Int) by have := h.app; omega, hx]
    simp
theorem OnNode.own {B : Nat} {t : List Nat} (ht : t ≠ []) {ow : Own} {w W0 : World} {m : NodeS} {ow1 ow2 : Own} {X : Nat → Prop} {W W' : World} (h : OnNode B t ow w W0 m ow1 X W) (hs : Step t ow1 W ow2 W') {k : Nat} (hk : w.heap.size ≤ k) (hk2 : k < W0.heap.size) : W'.heap[k]? = W.heap[k]? :=
  hs.block (by have := h.sz; omega) (by rw [h.free k hk hk2]; exact not_sub_nil ht)
theorem ApAt.step {B : Nat} {t : List Nat} (ht : t ≠ []) {ow : Own} {w W0 : World} {kb : Nat} {m : NodeS} {ms : List MsgD} {v : Value} {ow1 ow2 : Own} {X : Nat → Prop} {W W' : World} (hN : OnNode B t ow w W0 m ow1 X W) (h : ApAt B t ow w W0 kb ms v ow1 X W) (hk : w.heap.size ≤ kb) (hk2 : kb < W0.heap.size) (hs : Step t ow1 W ow2 W') : ApAt B t ow w W0 kb ms v ow2 X W' where
  kS := h.kS.kept (hN.own ht hs hk hk2)
  row := h.row.step hs (fun g hg => by rw [(h.new g hg).2.1]; exact not_sub_nil ht)
  new := fun g hg => ⟨(h.new g hg).1, by rw [hs.agree g (h.row.lt hg)]; exact (h.new g hg).2.1, (h.new g hg).2.2⟩
set_option maxRecDepth 8000 in
set_option maxHeartbeats 2000000 in
theorem nApply_any (a : Addr) (B : Nat) (n : NodeS) (t : List Nat) (ht : t ≠ []) (ow : Own) (w : World) (hN : NodeAt B n t ow w) (he : ErrAt w a) (hge : ow 0 = [])
    (hb : LocalB n.loc n.applied) (hap : n.applied ≤ 10000) (hacc : n.acc.length ≤ 200000) (hkn : KnownOk n.pax.known) (hbad : n.bad = []) :
    Calls Tryz.prog 39 #[.pointer (some ⟨B, 0, none⟩)] w (EnterPost B t ow w (applyN 10001 n)) := by
  obtain ⟨px, sb, lb, pb, av, hI⟩ := hN
  have hB := hI.blk
  unfold nodeCells at hB
  have cB := hB.cell
  have lB := hB.lt
  have hwa : IntKind.i64.wrap ((n.applied : Int) + 1) = (n.applied : Int) + 1 := by rw [IntKind.wrap_i64]; omega
  refine calls_of_wp_marks Tryz.func39 rfl ?_
  simp only [Tryz.ntmps39, List.size_toArray, List.length_cons, List.length_nil, Nat.reduceAdd, Nat.reduceSub, Array.replicate_succ, Array.replicate_zero, List.push_toArray, List.append_toArray, List.nil_append, List.cons_append]
  go_wp2
  go_step3
  go_wp2
  go_step3
  obtain ⟨Wa, hWa⟩ : ∃ Wa, Wa = (w.alloc (.cells #[.pointer (some ⟨B, 0, none⟩)] 26)).alloc (.cells #[.slice none 0 0] 42) := ⟨_, rfl⟩
  have hba : Below w.heap.size w Wa := by rw [hWa]; (repeat (first | exact Below.refl _ _ | with_reducible assumption | refine pb_alloc ?_ _ | refine pb_drew ?_ | refine pb_drewN ?_ _ | refine pb_set ?_ (by simp; try omega) _ | refine pb_trans ?_ (by with_reducible assumption)))
  have kNa : Blk Wa w.heap.size #[.pointer (some ⟨B, 0, none⟩)] 26 := by rw [hWa]; (repeat (first | with_reducible assumption | (refine Blk.new ?_; simp; done) | refine Blk.alloc ?_ _ | refine Blk.drew ?_ | refine Blk.drewN ?_ _ | refine Blk.call ?_ (by with_reducible assumption)))
  have kSa : Blk Wa (w.heap.size + 1) #[.slice none 0 0] 42 := by rw [hWa]; (repeat (first | with_reducible assumption | (refine Blk.new ?_; simp; done) | refine Blk.alloc ?_ _ | refine Blk.drew ?_ | refine Blk.drewN ?_ _ | refine Blk.call ?_ (by with_reducible assumption)))
  have hza : Wa.heap.size = w.heap.size + 2 := by rw [hWa]; simp
  have hBa := hB.call hba
  go_wp2_with fail
  rw [← hWa]
  clear hWa cB lB
  refine wp_region_sched [(0, true), (1, true), (2, true), (3, true), (4, true), (5, true), (6, true), (7, true), (8, false)] none (fun w' => Blk w' B #[.pointer (some ⟨px, 0, none⟩), .int .i64 n.id, .int .i64 n.version, .slice none 0 0, .pointer (some ⟨sb, 0, none⟩), .pointer (some ⟨lb, 0, none⟩), .pointer (some ⟨pb, 0, none⟩), av, .int .i64 (n.offered : Nat), .int .i64 (n.applied : Nat), .int .i64 n.wanted, .bool n.down] 78 ∧ Blk w' w.heap.size #[.pointer (some ⟨B, 0, none⟩)] 26 ∧ True) (by kernel_rfl) (by kernel_rfl) ⟨hBa.drew, kNa.drew, trivial⟩ ?_
  (repeat (refine wpSched_quiet (v := ?_) rfl rfl (fun w' hS => ?_) (fun K hK => ?_); rotate_left; (focus ((try have e1 := hS.1.cell); (try have e2 := hS.2.1.cell); (try have e3 := hS.2.2.1.cell); (try have e4 := hS.2.2.2.1.cell); (try have f1 := hS.1); (try have f2 := hS.2.1); (try have f3 := hS.2.2.1); (try have f4 := hS.2.2.2.1); (try have f5 := hS.2.2.2.2.1); clear hS; go_simp; (try with_reducible rfl))); (go_simp; refine hK _ ?_; clear hK K)))
  refine wpSched_loud rfl (fun K hK => ?_)
  go_wp2_with fail
  refine (learned_any B _ _).mono ?_
  rintro r w1 ⟨rfl, rfl⟩
  obtain ⟨W0, hW0⟩ : ∃ W0, W0 = ((Wa.alloc (.cells #[.pointer (some ⟨B, 0, none⟩)] 156)).alloc (.cells #[.int .i64 ((n.applied : Int) + 1)] 3)).drew := ⟨_, rfl⟩
  have hb0 : Below Wa.heap.size Wa W0 := by rw [hW0]; (repeat (first | exact Below.refl _ _ | with_reducible assumption | refine pb_alloc ?_ _ | refine pb_drew ?_ | refine pb_drewN ?_ _ | refine pb_set ?_ (by simp; try omega) _ | refine pb_trans ?_ (by with_reducible assumption)))
  have kQ0 : Blk W0 Wa.heap.size #[.pointer (some ⟨B, 0, none⟩)] 156 := by rw [hW0]; (repeat (first | with_reducible assumption | (refine Blk.new ?_; simp; done) | refine Blk.alloc ?_ _ | refine Blk.drew ?_ | refine Blk.drewN ?_ _ | refine Blk.call ?_ (by with_reducible assumption)))
  have kI0 : Blk W0 (Wa.heap.size + 1) #[.int .i64 ((n.applied : Int) + 1)] 3 := by rw [hW0]; (repeat (first | with_reducible assumption | (refine Blk.new ?_; simp; done) | refine Blk.alloc ?_ _ | refine Blk.drew ?_ | refine Blk.drewN ?_ _ | refine Blk.call ?_ (by with_reducible assumption)))
  have hz0 : W0.heap.size = w.heap.size + 4 := by rw [hW0]; simp [hza]
  have hB0 := hBa.call hb0
  have kN0 := kNa.call hb0
  have kS0 := kSa.call hb0
  go_wp2
  rw [hza] at kQ0 kI0
  rw [← hW0]
  refine hK.out _ _ (fun _ => ⟨hB0, kN0, trivial⟩) ?_
  clear hK K hW0
  refine wpSched_nil ?_
  have hb00 : Below w.heap.size w W0 := hba.trans (hb0.mono (by omega))
  have hI0 := (NodeIs.loc B px sb lb pb av n t).cut hI hb00
  clear hB hBa kNa kSa hI hB0 hb0 hba
  replace hwa : Hid (_ = _) := hwa
  go_wp2_with fail
  refine wp_rangeVar (gf := 88) (lb := #[.pointer (some ⟨w.heap.size + 2 + 1, 0, none⟩), .pointer (some ⟨w.heap.size + 2, 0, none⟩)]) rfl (enters_of Tryz.func88 (by kernel_rfl) rfl)
      (learned_iter (w.heap.size + 2 + 1) (w.heap.size + 2) B n.pax (t ++ [0]) (n.applied + 1) (by omega) hkn) (fun _ => rfl)
      (fun k X W => ∃ m ms v ow', OnNode B t ow w W0 m ow' X W ∧ ApAt B t ow w W0 (w.heap.size + 1) ms v ow' X W ∧ ApFar n k m ms ∧ Blk W w.heap.size #[.pointer (some ⟨B, 0, none⟩)] 26 ∧ Blk W (w.heap.size + 2) #[.pointer (some ⟨B, 0, none⟩)] 156 ∧ Blk W (w.heap.size + 2 + 1) #[.int .i64 ((n.applied : Int) + 1)] 3)
      (fun _ _ _ => False)
      (fun k X X' W W' h hm hx => by
        obtain ⟨m, ms, v, ow', h1, h2, h3, h4, h5, h6⟩ := h
        exact ⟨m, ms, v, _, h1.stab ht (by omega) hm hx, h2.stab h1 (by omega) hm hx, h3, h4.kept (h1.blk hm (by omega)), h5.kept (h1.blk hm (by omega)), h6.kept (h1.blk hm (by omega))⟩)
      (fun _ _ X X' W W' h hm hx => h)
      (fun k X W h => by
        obtain ⟨m, ms, v, ow', h1, h2, h3, h4, h5, h6⟩ := h
        obtain ⟨px', sb', lb', pb', av', hn⟩ := h1.node
        refine ⟨by rw [show ((n.applied + 1 : Nat) : Int) = (n.applied : Int) + 1 by omega]; exact h6, h5, px', ow', ?_⟩
        exact ⟨hn.blk.cell 0, by rw [← h3.pax]; exact hn.pax⟩)
      ⟨n, [], .slice none 0 0, ow.cut w, ⟨⟨_, _, _, _, _, hI0⟩, Step.wrap hb00 (Step.refl _ _ _), Nat.le_refl _, fun k h1 _ => Own.cut_new h1, fun k h => h.elim⟩, ⟨kS0, row_nil _ _ _, by simp [Value.ownBlock]⟩, ⟨rfl, rfl, rfl, rfl, hb, by simp, 10001, rfl, by simp⟩, kN0, kQ0, kI0⟩
      (fun x => [(4, .string (bs x))]) ?assign ?body ?done ?stop
  case assign =>
    intro l' x W K hK
    rw [laidIn_one] at hK ⊢
    gi_wp2
    exact hK
  case stop => rintro D c X W hD hXD h; exact h.elim
  case body =>
    rintro l' k x X W ⟨m, ms, v, ow', h1, h2, h3, h4, h5, h6⟩ hnx hXl _
    rw [laidIn_one]
    have hk4 := hkn _ _ hnx
    have hkm := h3.app
    obtain ⟨px1, sb1, lb1, pb1, av1, hI1⟩ := h1.node
    have hB1 := hI1.blk
    have hwm : IntKind.i64.wrap ((m.applied : Int) + 1) = (m.applied : Int) + 1 := by rw [IntKind.wrap_i64]; omega
    have hbm : m.bad = [] := h3.bad.trans hbad
    unfold nodeCells at hB1
    have hM1 : Mod (fun k => k = B) W (W.setCell ⟨B, 9, none⟩ (.int .i64 ((m.applied : Int) + 1))) := (Mod.refl (fun k => k = B) W).thenSet (p := ⟨B, 9, none⟩) rfl _
    obtain ⟨hs1, hI2⟩ := hI1.setOwn { m with applied := m.applied + 1 } hM1 (hB1.set (o := 9) (.int .i64 ((m.applied : Int) + 1))) rfl rfl rfl rfl rfl rfl
    have hO1 := h1.step hs1 ⟨_, _, _, _, _, hI2⟩
    have hA1 := h2.step ht h1 (by omega) (by omega) hs1
    have kN1 := h4.kept (h1.own ht hs1 (Nat.le_refl _) (by omega))
    have kQ1 := h5.kept (h1.own ht hs1 (by omega) (by omega))
    have kI1 := h6.kept (h1.own ht hs1 (by omega) (by omega))
    have hsv1 := h1.saves ht hs1
    have eN := h4.cell
    have lN := h4.lt
    have cB1 := hB1.cell
    have fB1 := hB1.frozen
    have lB1 := hB1.lt
    have hdec := fun W => decode_any x W
    have hf0 := fun hd => h3.bad1 hnx (by omega) hd
    have hf1 := fun hd => h3.ok1 hnx (by omega) hd
    obtain ⟨⟨⟨ek, ee, ev, em⟩, er⟩, hde⟩ : ∃ q, decodeP x = q := ⟨_, rfl⟩
    rw [hde] at hdec hf0 hf1
    unfold DecodePost entV at hdec
    simp only at hdec hf0 hf1
    replace hdec : Hid (∀ _, _) := hdec
    replace hde : Hid (_ = _) := hde
    replace hf0 : Hid (∀ _, _) := hf0
    replace hf1 : Hid (∀ _, _) := hf1
    replace hnx : Hid (_ = _) := hnx
    obtain ⟨W1, hW1⟩ : ∃ W1, W1 = W.setCell ⟨B, 9, none⟩ (.int .i64 ((m.applied : Int) + 1)) := ⟨_, rfl⟩
    gi_wp2_with fail
    rw [← hW1] at hs1 hI2 hO1 hA1 kN1 kQ1 kI1 hsv1 ⊢
    clear hW1 hM1 h1 h2 h4 h5 h6 eN lN cB1 fB1 lB1 hB1 hI1
    refine (inRound _ _ (hdec.out _)).mono ?_
    rintro r w2 ⟨mv, rfl, hb2, hrow2, hnew2⟩
    obtain ⟨ma, mn, mc, rfl⟩ := hrow2.shape
    have hb3 : Below W1.heap.size W1 (w2.alloc (.cells #[.int .i64 ek, .int .u32 ee, .int .i64 ev, .slice ma mn mc] 65)) := by (repeat (first | exact Below.refl _ _ | with_reducible assumption | refine pb_alloc ?_ _ | refine pb_drew ?_ | refine pb_drewN ?_ _ | refine pb_set ?_ (by simp; try omega) _ | refine pb_trans ?_ (by with_reducible assumption)))
    have hst3 := Step.of_below t ow' hb3
    have hz1 := hO1.sz
    by_cases her : er = 0
    · subst her
      have hf1' := hf1.out rfl
      have kE : Blk (w2.alloc (.cells #[.int .i64 ek, .int .u32 ee, .int .i64 ev, .slice ma mn mc] 65)) w2.heap.size #[.int .i64 ek, .int .u32 ee, .int .i64 ev, .slice ma mn mc] 65 := Blk.new (by simp)
      have hzE := hb2.size
      gi_wp2_with fail
      obtain ⟨W3, hW3⟩ : ∃ W3, W3 = (w2.alloc (.cells #[.int .i64 ek, .int .u32 ee, .int .i64 ev, .slice ma mn mc] 65)).drew := ⟨_, rfl⟩
      have hb13 : Below W1.heap.size W1 W3 := by rw [hW3]; exact pb_drew hb3
      have hb23 : Below w2.heap.size w2 W3 := by rw [hW3]; (repeat (first | exact Below.refl _ _ | with_reducible assumption | refine pb_alloc ?_ _ | refine pb_drew ?_ | refine pb_drewN ?_ _ | refine pb_set ?_ (by simp; try omega) _ | refine pb_trans ?_ (by with_reducible assumption)))
      have kE3 : Blk W3 w2.heap.size #[.int .i64 ek, .int .u32 ee, .int .i64 ev, .slice ma mn mc] 65 := by rw [hW3]; exact kE.drew
      have hS3 : Step t ow' W1 ow' W3 := Step.of_below t ow' hb13
      have kN3 := kN1.call hb13
      have kS3 := hA1.kS.call hb13
      refine wpIn_region_sched [(0, true), (1, true), (2, true), (3, false), (4, false), (5, false)] (some 5) (fun w' => Blk w' (w.heap.size + 1) #[v] 42 ∧ Blk w' w.heap.size #[.pointer (some ⟨B, 0, none⟩)] 26 ∧ Blk w' w2.heap.size #[.int .i64 ek, .int .u32 ee, .int .i64 ev, .slice ma mn mc] 65 ∧ True) (by kernel_rfl) (by kernel_rfl) (by rw [← hW3]; exact ⟨kS3, kN3, kE3, trivial⟩) ?_
      rw [← hW3]
      clear hW3 kE hb3 hst3
      have hO3 := hO1.step hS3 ((NodeAt.loc B _ t).below hO1.node hb13)
      have hA3 := hA1.step ht hO1 (by omega) (by omega) hS3
      have hI3 := (NodeIs.loc B px1 sb1 lb1 pb1 av1 _ t).cut hI2 hb13
      have her3 := he.step ht hO3.st hge
      have hel := he.lt
      have hge3 : (ow'.cut W1) 0 = [] := by rw [Own.cut_old (by have := hO1.st.size; omega), hO1.st.agree _ hel]; exact hge
      have hent := nEnter_any a B { m with applied := m.applied + 1 } t ht (ow'.cut W1) ⟨ek, ee, ev, em⟩ (.slice ma mn mc) W3 hI3 her3 hge3 (Src.below hrow2.src hb23) (fun b l c hv => Own.cut_new (by cases hv; exact hnew2 _ rfl)) (by have := decode_few x; rw [hde.out] at this; exact Nat.le_trans this (by omega)) h3.few (by omega) (by show m.acc.length ≤ _; rw [h3.acc]; exact hacc)
      have hcount := hf1'.few2
      obtain ⟨⟨m4, ms4⟩, hen⟩ : ∃ q, enterN { m with applied := m.applied + 1 } ⟨ek, ee, ev, em⟩ = q := ⟨_, rfl⟩
      rw [hen] at hent hf1' hcount
      unfold EnterPost entV at hent
      simp only at hent hf1' hcount
      rw [List.length_append] at hcount
      replace hent : Hid (Calls _ _ _ _ _) := hent
      replace hen : Hid (_ = _) := hen
      replace hf1' : Hid (ApFar _ _ _ _) := hf1'
      (repeat (refine wpSched_quiet (v := ?_) rfl rfl (fun w' hS => ?_) (fun K hK => ?_); rotate_left; (focus ((try have e1 := hS.1.cell); (try have e2 := hS.2.1.cell); (try have e3 := hS.2.2.1.cell); (try have e4 := hS.2.2.2.1.cell); (try have f1 := hS.1); (try have f2 := hS.2.1); (try have f3 := hS.2.2.1); (try have f4 := hS.2.2.2.1); (try have f5 := hS.2.2.2.2.1); clear hS; go_simp; (try with_reducible rfl))); (go_simp; refine hK _ ?_; clear hK K)))
      refine wpSched_loud rfl (fun K hK => ?_)
      go_wp2_with fail
      refine hent.out.mono ?_
      rintro r w4 ⟨v4, ow4, rfl, hs4, hN4, hrow4, hnew4⟩
      have hsA : Step t ow' W1 ow4 w4 := Step.wrap hb13 hs4
      have hO4 := hO1.step hsA hN4
      have hA4 := hA1.step ht hO1 (by omega) (by omega) hsA
      have kN4 := kN1.kept (hO1.own ht hsA (Nat.le_refl _) (by omega))
      have kQ4 := kQ1.kept (hO1.own ht hsA (by omega) (by omega))
      have kI4 := kI1.kept (hO1.own ht hsA (by omega) (by omega))
      have kE4 := kE3.kept (hs4.free ht hzE kE3.lt).1
      have hsv4 := hO1.saves ht hsA
      go_wp2
      refine hK.out _ _ (fun _ => ⟨hA4.kS, kN4, kE4, trivial⟩) ?_
      clear hK K
      obtain ⟨v6, w6, hrun, hrow6, hgr, hown⟩ := row_append msgT hA4.row hrow4.src (msgCells_one ms4) (by omega) 42
      obtain ⟨va, vn, vc, rfl⟩ := hrow6.shape
      have hne4 : ∀ g, v.ownBlock = some g → g ≠ w.heap.size + 1 ∧ g ≠ w.heap.size ∧ g ≠ w.heap.size + 2 ∧ g ≠ w.heap.size + 2 + 1 := fun g hg => ⟨hA4.row.ne_blk hA4.kS (by decide) hg, hA4.row.ne_blk kN4 (by decide) hg, hA4.row.ne_blk kQ4 (by decide) hg, hA4.row.ne_blk kI4 (by decide) hg⟩
      have kS6 := hA4.kS.kept (w' := w6) (hgr.block _ hA4.kS.lt (fun e => (hne4 _ e.symm).1 rfl))
      have kN6 := kN4.kept (w' := w6) (hgr.block _ kN4.lt (fun e => (hne4 _ e.symm).2.1 rfl))
      have kQ6 := kQ4.kept (w' := w6) (hgr.block _ kQ4.lt (fun e => (hne4 _ e.symm).2.2.1 rfl))
      have kI6 := kI4.kept (w' := w6) (hgr.block _ kI4.lt (fun e => (hne4 _ e.symm).2.2.2 rfl))
      have kE6 := kE4.kept (w' := w6) (hgr.block _ kE4.lt (fun e => hA4.row.ne_blk kE4 (by decide) e.symm rfl))
      have hO6 := hO4.grown ht hgr hA4.new
      have hsv6 : Saves X w4 w6 := ⟨hgr.size, fun k hX hk => hgr.block k hk (fun e => (hA4.new k e.symm).2.2 hX)⟩
      have hnewv : ∀ g, (Value.slice va vn vc).ownBlock = some g → w.heap.size ≤ g ∧ (ow4.cut w4) g = [] ∧ ¬ X g ∧ g ≠ w.heap.size + 1 := fun g hg => by
        rw [hg] at hown
        have hz4 := hO4.sz
        rcases hown with h | h
        · exact ⟨(hA4.new g h.symm).1, by rw [Own.cut_old (hA4.row.lt h.symm)]; exact (hA4.new g h.symm).2.1, (hA4.new g h.symm).2.2, (hne4 g h.symm).1⟩
        · have hge4 : g = w4.heap.size := by simpa using h
          subst hge4
          exact ⟨by omega, Own.cut_new (Nat.le_refl _), fun hX => by have := (hO4.xs _ hX).2.1; omega, by omega⟩
      have hO7 := hO6.set ht (p := ⟨w.heap.size + 1, 0, none⟩) (by show w.heap.size ≤ w.heap.size + 1; omega) (hO6.free (w.heap.size + 1) (by omega) (by omega)) (.slice va vn vc)
      have hrow7 : Row (w6.setCell ⟨w.heap.size + 1, 0, none⟩ (.slice va vn vc)) 34 3 (.slice va vn vc) (ms ++ ms4).length ((ms ++ ms4).flatMap msgCells) := by
        rw [List.length_append, List.flatMap_append]
        exact Row.kept (w := w6) hrow6 (fun g hg => Below.heap_setCell _ _ _ _ (show g ≠ w.heap.size + 1 from (hnewv g hg).2.2.2))
      have hsv7 : Saves X w6 (w6.setCell ⟨w.heap.size + 1, 0, none⟩ (.slice va vn vc)) := ⟨by simp, fun k hX hk => Below.heap_setCell _ _ _ _ (show k ≠ w.heap.size + 1 from fun e => by have := (hO4.xs k hX).1; omega)⟩
      have hfin : (∃ m ms v ow', OnNode B t ow w W0 m ow' X (w6.setCell ⟨w.heap.size + 1, 0, none⟩ (.slice va vn vc)) ∧ ApAt B t ow w W0 (w.heap.size + 1) ms v ow' X (w6.setCell ⟨w.heap.size + 1, 0, none⟩ (.slice va vn vc)) ∧ ApFar n (k + 1) m ms ∧ Blk (w6.setCell ⟨w.heap.size + 1, 0, none⟩ (.slice va vn vc)) w.heap.size #[.pointer (some ⟨B, 0, none⟩)] 26 ∧ Blk (w6.setCell ⟨w.heap.size + 1, 0, none⟩ (.slice va vn vc)) (w.heap.size + 2) #[.pointer (some ⟨B, 0, none⟩)] 156 ∧ Blk (w6.setCell ⟨w.heap.size + 1, 0, none⟩ (.slice va vn vc)) (w.heap.size + 2 + 1) #[.int .i64 ((n.applied : Int) + 1)] 3) ∧ Saves X W (w6.setCell ⟨w.heap.size + 1, 0, none⟩ (.slice va vn vc)) :=
        ⟨⟨m4, ms ++ ms4, .slice va vn vc, _, hO7, ⟨kS6.set (o := 0) _, hrow7, fun g hg => ⟨(hnewv g hg).1, (hnewv g hg).2.1, (hnewv g hg).2.2.1⟩⟩, hf1'.out, kN6.other (p := ⟨w.heap.size + 1, 0, none⟩) (by show w.heap.size ≠ w.heap.size + 1; omega) _, kQ6.other (p := ⟨w.heap.size + 1, 0, none⟩) (by show w.heap.size + 2 ≠ w.heap.size + 1; omega) _, kI6.other (p := ⟨w.heap.size + 1, 0, none⟩) (by show w.heap.size + 2 + 1 ≠ w.heap.size + 1; omega) _⟩, ((hsv1.trans hsv4).trans hsv6).trans hsv7⟩
      have cS6 := kS6.cell
      have fS6 := kS6.frozen
      have lS6 := kS6.lt
      have kSx := kS6
      replace hfin : Hid (_ ∧ _) := hfin
      replace hrun : Hid (_ = _) := hrun
      replace hown : Hid (_ ∨ _) := hown
      replace hne4 : Hid (∀ _, _) := hne4
      replace hnewv : Hid (∀ _, _) := hnewv
      refine wpSched_loud rfl (fun K hK => ?_)
      refine wpList_append_by rfl _ _ _ rfl rfl rfl hrun.out ?_
      unfold wpList
      refine hK.out _ _ (fun _ => ⟨kS6, kN6, kE6, trivial⟩) ?_
      clear hK K
      refine wpSched_loud rfl (fun K hK => ?_)
      go_wp2
      refine hK.out _ _ (fun hh => absurd rfl hh) ?_
      clear hK K
      refine wpSched_nil ?_
      gi_wp2
      exact hfin.out
    · have t1 : (er != 0) = true := by simpa using her
      have hf0' := hf0.out her
      have hO3 := hO1.step hst3 ((NodeAt.loc B _ t).below hO1.node hb3)
      have hA3 := hA1.step ht hO1 (by omega) (by omega) hst3
      have hsv3 := hO1.saves ht hst3
      have kN3 := kN1.kept (hO1.own ht hst3 (Nat.le_refl _) (by omega))
      have kQ3 := kQ1.kept (hO1.own ht hst3 (by omega) (by omega))
      have kI3 := kI1.kept (hO1.own ht hst3 (by omega) (by omega))
      replace her : Hid (_ → _) := her
      gi_wp2
      exact ⟨⟨_, ms, v, ow', hO3, hA3, hf0', kN3, kQ3, kI3⟩, hsv1.trans hsv3⟩
  case done =>
    rintro D k X W hD hXD hfin ⟨m, ms, v, ow', h1, h2, h3, h4, h5, h6⟩ hdef
    have hfn := h3.fin hfin
    replace hfn : Hid (_ = _) := hfn
    have hxD := h1.xs D hXD
    have hrow := h2.row
    have hnew := h2.new
    have hDne : ∀ g, v.ownBlock = some g → g ≠ D := fun g hg e => (hnew g hg).2.2 (e ▸ hXD)
    have kS := h2.kS
    have eS := kS.cell
    replace hnew : Hid (∀ _, _) := hnew
    replace hDne : Hid (∀ _, _) := hDne
    go_wp2
    rw [Exit.noGoto_ret]
    refine end_mark1 (D := D) (v := v) hdef (by simp [results, Tryz.results39, go_sem]) ?_
    rw [hfn.out]
    exact ⟨v, ow', rfl, h1.st.putNew D _ (by omega), (NodeAt.loc B m t).put ht h1.node hxD.2.2 _, hrow.kept (fun g hg => World.putObj_heap_other (hDne.out g hg)), fun g hg => ⟨(hnew.out g hg).1, (hnew.out g hg).2.1⟩⟩
end Go.Proofs.YtaopeioebpfdeaaGreatDoor
