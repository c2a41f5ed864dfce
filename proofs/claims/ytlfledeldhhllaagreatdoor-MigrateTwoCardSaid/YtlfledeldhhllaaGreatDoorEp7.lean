/- WALKS: epoch's batch, change. Condition: the fold is one that calls have made; the entry's messages can be read, and are none of the fold's blocks. -/
import Derived.Test.YtlfledeldhhllaaGreatDoorEp6
namespace Go.Proofs.YtlfledeldhhllaaGreatDoor
open Go Go.RowKit Go.Shelf Go.Extern.Stop Go.Stop Go.Extern
attribute [local go_sem] Oper.semAt_some wide_fn wide_depth

/-- What batch, change and rollback come to. -/
def SubPost (B : Nat) (t : List Nat) (ow : Own) (w : World) (f : FoldS) (l : List MsgD) (b : Bool) (e : Ending) (w' : World) : Prop :=
  ∃ v ow', e = .returned (.tuple #[v, .bool b]) ∧ Step t ow w ow' w' ∧ FoldAt B f t ow' w' ∧ Row w' 54 3 v l.length (l.flatMap msgCells) ∧ (∀ g, v.ownBlock = some g → w.heap.size ≤ g ∧ ow' g = [])
theorem FoldPost.sub {B : Nat} {f : FoldS} {t : List Nat} {ow : Own} {w : World} {b : Bool} {e : Ending} {w' : World} (h : FoldPost B f t ow w (.tuple #[.slice none 0 0, .bool b]) e w') : SubPost B t ow w f [] b e w' := by
  obtain ⟨rfl, ow', h1, h2⟩ := h
  exact ⟨_, ow', rfl, h1, h2, row_nil _ _ _, by simp [Value.ownBlock]⟩
theorem foldMsgs_not {B : Nat} {f : FoldS} {t : List Nat} {ow : Own} {w : World} : FoldAt B f t ow w → ow B = t := fun ⟨_, _, _, _, _, _, o1, _⟩ => o1

set_option maxRecDepth 8000 in
set_option maxHeartbeats 1000000 in
theorem batch_any (B : Nat) (f : FoldS) (t : List Nat) (ow : Own) (e : EntryD) (mv : Value) (w : World) (h : FoldAt B f t ow w)
    (hm : MsgsAt w mv e.msgs) (hmt : ∀ a l c, mv = .slice (some a) l c → ¬ Sub t (ow a.block)) (hl : bookN f.book + e.msgs.length ≤ 536870912) :
    Calls Tryz.prog 34 #[.pointer (some ⟨B, 0, none⟩), entV e mv] w (SubPost B t ow w { f with book := (deliverP f.book e.msgs).1 } (deliverP f.book e.msgs).2 false) := by
  obtain ⟨hne, bb, ev, hB, hbk, hR, o1, o2⟩ := h
  obtain ⟨W1, hW1⟩ : ∃ W1, W1 = (w.alloc (.cells #[.int .i64 e.kind, .int .u32 e.epoch, .int .i64 e.ver, mv] 32)).drew := ⟨_, rfl⟩
  have hb1 : Below w.heap.size w W1 := by rw [hW1]; (repeat (first | exact Below.refl _ _ | with_reducible assumption | refine pb_alloc ?_ _ | refine pb_drew ?_ | refine pb_drewN ?_ _ | refine pb_set ?_ (by simp; try omega) _ | refine pb_trans ?_ (by with_reducible assumption)))
  have kx : Blk W1 w.heap.size #[.int .i64 e.kind, .int .u32 e.epoch, .int .i64 e.ver, mv] 32 := by rw [hW1]; (repeat (first | with_reducible assumption | (refine Blk.new ?_; simp; done) | refine Blk.alloc ?_ _ | refine Blk.drew ?_ | refine Blk.drewN ?_ _ | refine Blk.call ?_ (by with_reducible assumption)))
  have hsz : W1.heap.size = w.heap.size + 1 := by rw [hW1]; simp
  have hBl := hB.lt
  unfold foldCells at hB
  have hB1 := hB.call hb1
  have htc : t ++ [0] ≠ [] := by simp
  have hd := deliver_any B bb f.book (t ++ [0]) htc (ow.cut w) mv e.msgs W1 (hB1.cell 0) (by rw [Own.cut_old hBl, o1]; exact not_child_sub t 0) ((BookAt.loc bb f.book (t ++ [0])).cut hbk hb1) (hm.below hb1)
    (fun a l c h hs => by
      rcases Nat.lt_or_ge a.block w.heap.size with h1 | h1
      · rw [Own.cut_old h1] at hs; exact hmt a l c h ((Sub.child t 0).trans hs)
      · rw [Own.cut_new h1] at hs; exact not_sub_nil htc hs) hl
  replace hd : Hid (Calls _ _ _ _ _) := hd
  replace hmt : Hid (∀ _, _) := hmt
  replace o2 : Hid (∀ _, _) := o2
  replace hm : Hid (Src _ _ _ _ _) := hm
  replace hbk : Hid (BookAt _ _ _ _ _) := hbk
  unfold entV
  go_enter Tryz.func34, Tryz.ntmps34
  go_wp2
  refine wp_region_sched [(0, true), (1, true), (2, true), (3, true), (4, true), (5, false), (6, true), (7, true)] none (fun w' => Blk w' w.heap.size #[.int .i64 e.kind, .int .u32 e.epoch, .int .i64 e.ver, mv] 32 ∧ True) (by kernel_rfl) (by kernel_rfl) (by rw [← hW1]; exact ⟨kx, trivial⟩) ?_
  rw [← hW1]
  clear hW1
  (repeat (refine wpSched_quiet (v := ?_) rfl rfl (fun w' hS => ?_) (fun K hK => ?_); rotate_left; (focus ((try have e1 := hS.1.cell); (try have e2 := hS.2.1.cell); (try have e3 := hS.2.2.1.cell); (try have e4 := hS.2.2.2.1.cell); (try have f1 := hS.1); (try have f2 := hS.2.1); (try have f3 := hS.2.2.1); (try have f4 := hS.2.2.2.1); (try have f5 := hS.2.2.2.2.1); clear hS; go_simp; (try with_reducible rfl))); (go_simp; refine hK _ ?_; clear hK K)))
  refine wpSched_loud rfl (fun K hK => ?_)
  go_wp2_with (go_at_call 47; refine hd.out.mono ?_; rintro r w2 ⟨nv, ow2, rfl, hs2, hb2, hR2, hn2⟩; replace hn2 : Hid (∀ _, _) := hn2; replace hb2 : Hid (BookAt _ _ _ _ _) := hb2)
  have hfree := hs2.free htc (Nat.le_refl _) (by omega)
  refine hK.out _ _ (fun _ => ⟨kx.kept hfree.1, trivial⟩) ?_
  clear hK K
  (repeat (refine wpSched_quiet (v := ?_) rfl rfl (fun w' hS => ?_) (fun K hK => ?_); rotate_left; (focus ((try have e1 := hS.1.cell); (try have e2 := hS.2.1.cell); (try have e3 := hS.2.2.1.cell); (try have e4 := hS.2.2.2.1.cell); (try have f1 := hS.1); (try have f2 := hS.2.1); (try have f3 := hS.2.2.1); (try have f4 := hS.2.2.2.1); (try have f5 := hS.2.2.2.2.1); clear hS; go_simp; (try with_reducible rfl))); (go_simp; refine hK _ ?_; clear hK K)))
  refine wpSched_nil ?_
  go_wp2
  refine bodyPost_ret (v := .tuple #[nv, .bool false]) (by simp [results, Tryz.results34, go_sem]) rfl ?_
  have hst := (Step.wrap hb1 hs2).mono (Sub.child t 0)
  refine ⟨nv, ow2, rfl, hst, ⟨hne, bb, ev, ?_, hb2.out, ?_, ?_, ?_⟩, hR2, fun g hg => ⟨by have := (hn2.out g hg).1; omega, (hn2.out g hg).2⟩⟩
  · exact hB1.kept (hs2.block hB1.lt (by rw [Own.cut_old hBl, o1]; exact not_child_sub t 0))
  · exact (hR.below hb1).step hs2 (fun g hg => by rw [Own.cut_old (hR.lt hg), o2.out g hg]; exact not_child_sub t 0)
  · rw [hst.agree B hBl, o1]
  · intro g hg; rw [hst.agree g (hR.lt hg), o2.out g hg]

/-- change. -/
theorem change_no (B : Nat) (f : FoldS) (t : List Nat) (ow : Own) (e : EntryD) (mv : Value) (w : World) (h : FoldAt B f t ow w) (hc : checkE (nowP f.eras).2.1 e.ver ≠ 0) (hl : f.eras.length ≤ 536870912) :
    Calls Tryz.prog 35 #[.pointer (some ⟨B, 0, none⟩), entV e mv] w fun r w' => r = .returned (.tuple #[.slice none 0 0, .bool false]) ∧ Below w.heap.size w w' := by
  have hnow := now_any B f t ow
  obtain ⟨⟨ep, ve, st⟩, hn⟩ : ∃ n, nowP f.eras = n := ⟨_, rfl⟩
  rw [hn] at hnow hc
  unfold eraV at hnow
  simp only at hc
  obtain ⟨W1, hW1⟩ : ∃ W1, W1 = (w.alloc (.cells #[.int .i64 e.kind, .int .u32 e.epoch, .int .i64 e.ver, mv] 32)).drew := ⟨_, rfl⟩
  have hb1 : Below w.heap.size w W1 := by rw [hW1]; (repeat (first | exact Below.refl _ _ | with_reducible assumption | refine pb_alloc ?_ _ | refine pb_drew ?_ | refine pb_drewN ?_ _ | refine pb_set ?_ (by simp; try omega) _ | refine pb_trans ?_ (by with_reducible assumption)))
  have kx : Blk W1 w.heap.size #[.int .i64 e.kind, .int .u32 e.epoch, .int .i64 e.ver, mv] 32 := by rw [hW1]; (repeat (first | with_reducible assumption | (refine Blk.new ?_; simp; done) | refine Blk.alloc ?_ _ | refine Blk.drew ?_ | refine Blk.drewN ?_ _ | refine Blk.call ?_ (by with_reducible assumption)))
  have hF : Hid (FoldAt B f t ow W1) := (FoldAt.loc B f t).below h hb1
  have hf1 := era_f1 ep ve st
  have t1 : (checkE ve e.ver != 0) = true := by simpa using hc
  clear hc h
  replace hnow : Hid (∀ _, _) := hnow
  replace hn : Hid (_ = _) := hn
  unfold entV
  go_enter Tryz.func35, Tryz.ntmps35
  go_wp2
  refine wp_region_sched [(0, true), (3, true), (4, true), (1, false), (2, true), (5, false), (6, true)] none (fun w' => Blk w' w.heap.size #[.int .i64 e.kind, .int .u32 e.epoch, .int .i64 e.ver, mv] 32 ∧ True) (by kernel_rfl) (by kernel_rfl) (by rw [← hW1]; exact ⟨kx, trivial⟩) ?_
  rw [← hW1]
  clear hW1
  (repeat (refine wpSched_quiet (v := ?_) rfl rfl (fun w' hS => ?_) (fun K hK => ?_); rotate_left; (focus ((try have e1 := hS.1.cell); (try have e2 := hS.2.1.cell); (try have e3 := hS.2.2.1.cell); (try have e4 := hS.2.2.2.1.cell); (try have f1 := hS.1); (try have f2 := hS.2.1); (try have f3 := hS.2.2.1); (try have f4 := hS.2.2.2.1); (try have f5 := hS.2.2.2.2.1); clear hS; go_simp; (try with_reducible rfl))); (go_simp; refine hK _ ?_; clear hK K)))
  refine wpSched_loud rfl (fun K hK => ?_)
  go_wp2_with (go_at_call 33; refine (hnow.out _ hF.out (by omega)).mono ?_; rintro r w2 ⟨rfl, hb2⟩)
  have k2 := kx.call hb2
  refine hK.out _ _ (fun _ => ⟨k2, trivial⟩) ?_
  clear hK K
  (repeat (refine wpSched_quiet (v := ?_) rfl rfl (fun w' hS => ?_) (fun K hK => ?_); rotate_left; (focus ((try have e1 := hS.1.cell); (try have e2 := hS.2.1.cell); (try have e3 := hS.2.2.1.cell); (try have e4 := hS.2.2.2.1.cell); (try have f1 := hS.1); (try have f2 := hS.2.1); (try have f3 := hS.2.2.1); (try have f4 := hS.2.2.2.1); (try have f5 := hS.2.2.2.2.1); clear hS; go_simp; (try with_reducible rfl))); (go_simp; refine hK _ ?_; clear hK K)))
  refine wpSched_loud rfl (fun K hK => ?_)
  go_wp2_with (go_at_call 41; refine (check_any _ _ _).mono ?_; rintro r w3 ⟨rfl, hb3⟩)
  have k3 := k2.call hb3
  refine hK.out _ _ (fun _ => ⟨k3, trivial⟩) ?_
  clear hK K
  (repeat (refine wpSched_quiet (v := ?_) rfl rfl (fun w' hS => ?_) (fun K hK => ?_); rotate_left; (focus ((try have e1 := hS.1.cell); (try have e2 := hS.2.1.cell); (try have e3 := hS.2.2.1.cell); (try have e4 := hS.2.2.2.1.cell); (try have f1 := hS.1); (try have f2 := hS.2.1); (try have f3 := hS.2.2.1); (try have f4 := hS.2.2.2.1); (try have f5 := hS.2.2.2.2.1); clear hS; go_simp; (try with_reducible rfl))); (go_simp; refine hK _ ?_; clear hK K)))
  refine wpSched_nil ?_
  have hbw : Below w.heap.size w w3 := pb_trans (pb_trans hb1 hb2) hb3
  go_wp2
  go_ret2
  exact ⟨rfl, hbw⟩

set_option maxHeartbeats 1000000 in
theorem change_yes (B : Nat) (f : FoldS) (t : List Nat) (ow : Own) (e : EntryD) (mv : Value) (w : World) (h : FoldAt B f t ow w) (hc : checkE (nowP f.eras).2.1 e.ver = 0) (hl : f.eras.length ≤ 536870912) :
    Calls Tryz.prog 35 #[.pointer (some ⟨B, 0, none⟩), entV e mv] w (FoldPost B (beginEra f e.ver true) t ow w (.tuple #[.slice none 0 0, .bool true])) := by
  have hnow := now_any B f t ow
  obtain ⟨⟨ep, ve, st⟩, hn⟩ : ∃ n, nowP f.eras = n := ⟨_, rfl⟩
  rw [hn] at hnow hc
  unfold eraV at hnow
  simp only at hc
  obtain ⟨W1, hW1⟩ : ∃ W1, W1 = (w.alloc (.cells #[.int .i64 e.kind, .int .u32 e.epoch, .int .i64 e.ver, mv] 32)).drew := ⟨_, rfl⟩
  have hb1 : Below w.heap.size w W1 := by rw [hW1]; (repeat (first | exact Below.refl _ _ | with_reducible assumption | refine pb_alloc ?_ _ | refine pb_drew ?_ | refine pb_drewN ?_ _ | refine pb_set ?_ (by simp; try omega) _ | refine pb_trans ?_ (by with_reducible assumption)))
  have kx : Blk W1 w.heap.size #[.int .i64 e.kind, .int .u32 e.epoch, .int .i64 e.ver, mv] 32 := by rw [hW1]; (repeat (first | with_reducible assumption | (refine Blk.new ?_; simp; done) | refine Blk.alloc ?_ _ | refine Blk.drew ?_ | refine Blk.drewN ?_ _ | refine Blk.call ?_ (by with_reducible assumption)))
  have hF : Hid (FoldAt B f t ow W1) := (FoldAt.loc B f t).below h hb1
  have hf1 := era_f1 ep ve st
  have t1 : (checkE ve e.ver != 0) = false := by simpa using hc
  clear hc
  replace hnow : Hid (∀ _, _) := hnow
  replace hn : Hid (_ = _) := hn
  replace h : Hid (FoldAt _ _ _ _ _) := h
  unfold entV
  go_enter Tryz.func35, Tryz.ntmps35
  go_wp2
  refine wp_region_sched [(0, true), (3, true), (4, true), (1, false), (2, true), (5, false), (6, true)] none (fun w' => Blk w' w.heap.size #[.int .i64 e.kind, .int .u32 e.epoch, .int .i64 e.ver, mv] 32 ∧ True) (by kernel_rfl) (by kernel_rfl) (by rw [← hW1]; exact ⟨kx, trivial⟩) ?_
  rw [← hW1]
  clear hW1
  (repeat (refine wpSched_quiet (v := ?_) rfl rfl (fun w' hS => ?_) (fun K hK => ?_); rotate_left; (focus ((try have e1 := hS.1.cell); (try have e2 := hS.2.1.cell); (try have e3 := hS.2.2.1.cell); (try have e4 := hS.2.2.2.1.cell); (try have f1 := hS.1); (try have f2 := hS.2.1); (try have f3 := hS.2.2.1); (try have f4 := hS.2.2.2.1); (try have f5 := hS.2.2.2.2.1); clear hS; go_simp; (try with_reducible rfl))); (go_simp; refine hK _ ?_; clear hK K)))
  refine wpSched_loud rfl (fun K hK => ?_)
  go_wp2_with (go_at_call 33; refine (hnow.out _ hF.out (by omega)).mono ?_; rintro r w2 ⟨rfl, hb2⟩)
  have k2 := kx.call hb2
  refine hK.out _ _ (fun _ => ⟨k2, trivial⟩) ?_
  clear hK K
  (repeat (refine wpSched_quiet (v := ?_) rfl rfl (fun w' hS => ?_) (fun K hK => ?_); rotate_left; (focus ((try have e1 := hS.1.cell); (try have e2 := hS.2.1.cell); (try have e3 := hS.2.2.1.cell); (try have e4 := hS.2.2.2.1.cell); (try have f1 := hS.1); (try have f2 := hS.2.1); (try have f3 := hS.2.2.1); (try have f4 := hS.2.2.2.1); (try have f5 := hS.2.2.2.2.1); clear hS; go_simp; (try with_reducible rfl))); (go_simp; refine hK _ ?_; clear hK K)))
  refine wpSched_loud rfl (fun K hK => ?_)
  go_wp2_with (go_at_call 41; refine (check_any _ _ _).mono ?_; rintro r w3 ⟨rfl, hb3⟩)
  have k3 := k2.call hb3
  refine hK.out _ _ (fun _ => ⟨k3, trivial⟩) ?_
  clear hK K
  (repeat (refine wpSched_quiet (v := ?_) rfl rfl (fun w' hS => ?_) (fun K hK => ?_); rotate_left; (focus ((try have e1 := hS.1.cell); (try have e2 := hS.2.1.cell); (try have e3 := hS.2.2.1.cell); (try have e4 := hS.2.2.2.1.cell); (try have f1 := hS.1); (try have f2 := hS.2.1); (try have f3 := hS.2.2.1); (try have f4 := hS.2.2.2.1); (try have f5 := hS.2.2.2.2.1); clear hS; go_simp; (try with_reducible rfl))); (go_simp; refine hK _ ?_; clear hK K)))
  refine wpSched_nil ?_
  have hbw : Below w.heap.size w w3 := pb_trans (pb_trans hb1 hb2) hb3
  have e3 := k3.cell
  have hbeg := begin_any B f t (ow.cut w) e.ver true w3 ((FoldAt.loc B f t).cut h.out hbw) hl
  replace hbeg : Hid (Calls _ _ _ _ _) := hbeg
  go_wp2_with (go_at_call 48; refine hbeg.out.mono ?_; rintro r w4 ⟨rfl, ow2, hs2, hf2⟩; replace hf2 : Hid (FoldAt _ _ _ _ _) := hf2)
  refine bodyPost_ret (v := .tuple #[.slice none 0 0, .bool true]) (by simp [results, Tryz.results35, go_sem]) rfl ?_
  exact ⟨rfl, ow2, Step.wrap hbw hs2, hf2.out⟩
end Go.Proofs.YtlfledeldhhllaaGreatDoor
