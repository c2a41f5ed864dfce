/- PROVED HERE: WALKS: epoch's batch, change. Condition: the fold is one that calls have made; the entry's messages can be read, and are none of the fold's blocks. WALK: epoch's Apply. Condition: the fold is one that calls have made; the entry's messages can be read, and are none of the fold's blocks. MODELS of crc: sums of bytes, numbers in bytes. No program in sight. No condition. -/
import Derived.Test.YtaopeioebpfdeaaGreatDoorK02
import Derived.Test.YtaopeioebpfdeaaGreatDoorK11
namespace Go.Proofs.YtaopeioebpfdeaaGreatDoor
open Go Go.RowKit Go.Shelf Go.Extern.Stop Go.Stop Go.Extern
attribute [local go_sem] Oper.semAt_some wide_fn wide_depth

/-- What batch, change and rollback come to. -/
def SubPost (B : Nat) (t : List Nat) (ow : Own) (w : World) (f : FoldS) (l : List MsgD) (b : Bool) (e : Ending) (w' : World) : Prop :=
  ∃ v ow', e = .returned (.tuple #[v, .bool b]) ∧ Step t ow w ow' w' ∧ FoldAt B f t ow' w' ∧ Row w' 34 3 v l.length (l.flatMap msgCells) ∧ (∀ g, v.ownBlock = some g → w.heap.size ≤ g ∧ ow' g = [])
theorem FoldPost.sub {B : Nat} {f : FoldS} {t : List Nat} {ow : Own} {w : World} {b : Bool} {e : Ending} {w' : World} (h : FoldPost B f t ow w (.tuple #[.slice none 0 0, .bool b]) e w') : SubPost B t ow w f [] b e w' := by
  obtain ⟨rfl, ow', h1, h2⟩ := h
  exact ⟨_, ow', rfl, h1, h2, row_nil _ _ _, by simp [Value.ownBlock]⟩
theorem foldMsgs_not {B : Nat} {f : FoldS} {t : List Nat} {ow : Own} {w : World} : FoldAt B f t ow w → ow B = t := fun ⟨_, _, _, _, _, _, o1, _⟩ => o1

set_option maxRecDepth 8000 in
set_option maxHeartbeats 1000000 in
theorem batch_any (B : Nat) (f : FoldS) (t : List Nat) (ow : Own) (e : EntryD) (mv : Value) (w : World) (h : FoldAt B f t ow w)
    (hm : MsgsAt w mv e.msgs) (hmt : ∀ a l c, mv = .slice (some a) l c → ¬ Sub t (ow a.block)) (hl : bookN f.book + e.msgs.length ≤ 536870912) :
    Calls Tryz.prog 160 #[.pointer (some ⟨B, 0, none⟩), entV e mv] w (SubPost B t ow w { f with book := (deliverP f.book e.msgs).1 } (deliverP f.book e.msgs).2 false) := by
  obtain ⟨hne, bb, ev, hB, hbk, hR, o1, o2⟩ := h
  obtain ⟨W1, hW1⟩ : ∃ W1, W1 = (w.alloc (.cells #[.int .i64 e.kind, .int .u32 e.epoch, .int .i64 e.ver, mv] 65)).drew := ⟨_, rfl⟩
  have hb1 : Below w.heap.size w W1 := by rw [hW1]; (repeat (first | exact Below.refl _ _ | with_reducible assumption | refine pb_alloc ?_ _ | refine pb_drew ?_ | refine pb_drewN ?_ _ | refine pb_set ?_ (by simp; try omega) _ | refine pb_trans ?_ (by with_reducible assumption)))
  have kx : Blk W1 w.heap.size #[.int .i64 e.kind, .int .u32 e.epoch, .int .i64 e.ver, mv] 65 := by rw [hW1]; (repeat (first | with_reducible assumption | (refine Blk.new ?_; simp; done) | refine Blk.alloc ?_ _ | refine Blk.drew ?_ | refine Blk.drewN ?_ _ | refine Blk.call ?_ (by with_reducible assumption)))
  have hsz : W1.heap.size = w.heap.size + 1 := by rw [hW1]; simp
  have hBl := hB.lt
  unfold foldCells at hB
  have hB1 := hB.call hb1
  have htc : t ++ [0] ≠ [] := by simp
  have hd := deliver_any B bb f.book (t ++ [0]) htc (ow.cut w) mv e.msgs W1 (hB1.cell 0) (by rw [Own.cut_old hBl, o1]; exact not_child_sub t 0) ((BookAt.loc bb f.book (t ++ [0])).cut hbk hb1) (hm.below hb1)
    (fun a l c h hs => by
      rcases Nat.lt_or_ge a.block w.heap.size with h1 | h1
      · rw [Own.cut_old h1] at hs; exact hmt a l c h ((Sub.child t 0).trans hs)
      · rw [Own.cut_new h1] at hs; exact not_sub_nil htc hs) hl
  replace hd : Hid (Calls _ _ _ _ _) := hd
  replace hmt : Hid (∀ _, _) := hmt
  replace o2 : Hid (∀ _, _) := o2
  replace hm : Hid (Src _ _ _ _ _) := hm
  replace hbk : Hid (BookAt _ _ _ _ _) := hbk
  unfold entV
  go_enter Tryz.func160, Tryz.ntmps160
  go_wp2
  refine wp_region_sched [(0, true), (1, true), (2, true), (3, true), (4, true), (5, false), (6, true), (7, true)] none (fun w' => Blk w' w.heap.size #[.int .i64 e.kind, .int .u32 e.epoch, .int .i64 e.ver, mv] 65 ∧ True) (by kernel_rfl) (by kernel_rfl) (by rw [← hW1]; exact ⟨kx, trivial⟩) ?_
  rw [← hW1]
  clear hW1
  (repeat (refine wpSched_quiet (v := ?_) rfl rfl (fun w' hS => ?_) (fun K hK => ?_); rotate_left; (focus ((try have e1 := hS.1.cell); (try have e2 := hS.2.1.cell); (try have e3 := hS.2.2.1.cell); (try have e4 := hS.2.2.2.1.cell); (try have f1 := hS.1); (try have f2 := hS.2.1); (try have f3 := hS.2.2.1); (try have f4 := hS.2.2.2.1); (try have f5 := hS.2.2.2.2.1); clear hS; go_simp; (try with_reducible rfl))); (go_simp; refine hK _ ?_; clear hK K)))
  refine wpSched_loud rfl (fun K hK => ?_)
  go_wp2_with (go_at_call 186; refine hd.out.mono ?_; rintro r w2 ⟨nv, ow2, rfl, hs2, hb2, hR2, hn2⟩; replace hn2 : Hid (∀ _, _) := hn2; replace hb2 : Hid (BookAt _ _ _ _ _) := hb2)
  have hfree := hs2.free htc (Nat.le_refl _) (by omega)
  refine hK.out _ _ (fun _ => ⟨kx.kept hfree.1, trivial⟩) ?_
  clear hK K
  (repeat (refine wpSched_quiet (v := ?_) rfl rfl (fun w' hS => ?_) (fun K hK => ?_); rotate_left; (focus ((try have e1 := hS.1.cell); (try have e2 := hS.2.1.cell); (try have e3 := hS.2.2.1.cell); (try have e4 := hS.2.2.2.1.cell); (try have f1 := hS.1); (try have f2 := hS.2.1); (try have f3 := hS.2.2.1); (try have f4 := hS.2.2.2.1); (try have f5 := hS.2.2.2.2.1); clear hS; go_simp; (try with_reducible rfl))); (go_simp; refine hK _ ?_; clear hK K)))
  refine wpSched_nil ?_
  go_wp2
  refine bodyPost_ret (v := .tuple #[nv, .bool false]) (by simp [results, Tryz.results160, go_sem]) rfl ?_
  have hst := (Step.wrap hb1 hs2).mono (Sub.child t 0)
  refine ⟨nv, ow2, rfl, hst, ⟨hne, bb, ev, ?_, hb2.out, ?_, ?_, ?_⟩, hR2, fun g hg => ⟨by have := (hn2.out g hg).1; omega, (hn2.out g hg).2⟩⟩
  · exact hB1.kept (hs2.block hB1.lt (by rw [Own.cut_old hBl, o1]; exact not_child_sub t 0))
  · exact (hR.below hb1).step hs2 (fun g hg => by rw [Own.cut_old (hR.lt hg), o2.out g hg]; exact not_child_sub t 0)
  · rw [hst.agree B hBl, o1]
  · intro g hg; rw [hst.agree g (hR.lt hg), o2.out g hg]

/-- change. -/
theorem change_no (B : Nat) (f : FoldS) (t : List Nat) (ow : Own) (e : EntryD) (mv : Value) (w : World) (h : FoldAt B f t ow w) (hc : checkE (nowP f.eras).2.1 e.ver ≠ 0) (hl : f.eras.length ≤ 536870912) :
    Calls Tryz.prog 161 #[.pointer (some ⟨B, 0, none⟩), entV e mv] w fun r w' => r = .returned (.tuple #[.slice none 0 0, .bool false]) ∧ Below w.heap.size w w' := by
  have hnow := now_any B f t ow
  obtain ⟨⟨ep, ve, st⟩, hn⟩ : ∃ n, nowP f.eras = n := ⟨_, rfl⟩
  rw [hn] at hnow hc
  unfold eraV at hnow
  simp only at hc
  obtain ⟨W1, hW1⟩ : ∃ W1, W1 = (w.alloc (.cells #[.int .i64 e.kind, .int .u32 e.epoch, .int .i64 e.ver, mv] 65)).drew := ⟨_, rfl⟩
  have hb1 : Below w.heap.size w W1 := by rw [hW1]; (repeat (first | exact Below.refl _ _ | with_reducible assumption | refine pb_alloc ?_ _ | refine pb_drew ?_ | refine pb_drewN ?_ _ | refine pb_set ?_ (by simp; try omega) _ | refine pb_trans ?_ (by with_reducible assumption)))
  have kx : Blk W1 w.heap.size #[.int .i64 e.kind, .int .u32 e.epoch, .int .i64 e.ver, mv] 65 := by rw [hW1]; (repeat (first | with_reducible assumption | (refine Blk.new ?_; simp; done) | refine Blk.alloc ?_ _ | refine Blk.drew ?_ | refine Blk.drewN ?_ _ | refine Blk.call ?_ (by with_reducible assumption)))
  have hF : Hid (FoldAt B f t ow W1) := (FoldAt.loc B f t).below h hb1
  have hf1 := era_f1 ep ve st
  have t1 : (checkE ve e.ver != 0) = true := by simpa using hc
  clear hc h
  replace hnow : Hid (∀ _, _) := hnow
  replace hn : Hid (_ = _) := hn
  unfold entV
  go_enter Tryz.func161, Tryz.ntmps161
  go_wp2
  refine wp_region_sched [(0, true), (3, true), (4, true), (1, false), (2, true), (5, false), (6, true)] none (fun w' => Blk w' w.heap.size #[.int .i64 e.kind, .int .u32 e.epoch, .int .i64 e.ver, mv] 65 ∧ True) (by kernel_rfl) (by kernel_rfl) (by rw [← hW1]; exact ⟨kx, trivial⟩) ?_
  rw [← hW1]
  clear hW1
  (repeat (refine wpSched_quiet (v := ?_) rfl rfl (fun w' hS => ?_) (fun K hK => ?_); rotate_left; (focus ((try have e1 := hS.1.cell); (try have e2 := hS.2.1.cell); (try have e3 := hS.2.2.1.cell); (try have e4 := hS.2.2.2.1.cell); (try have f1 := hS.1); (try have f2 := hS.2.1); (try have f3 := hS.2.2.1); (try have f4 := hS.2.2.2.1); (try have f5 := hS.2.2.2.2.1); clear hS; go_simp; (try with_reducible rfl))); (go_simp; refine hK _ ?_; clear hK K)))
  refine wpSched_loud rfl (fun K hK => ?_)
  go_wp2_with (go_at_call 159; refine (hnow.out _ hF.out (by omega)).mono ?_; rintro r w2 ⟨rfl, hb2⟩)
  have k2 := kx.call hb2
  refine hK.out _ _ (fun _ => ⟨k2, trivial⟩) ?_
  clear hK K
  (repeat (refine wpSched_quiet (v := ?_) rfl rfl (fun w' hS => ?_) (fun K hK => ?_); rotate_left; (focus ((try have e1 := hS.1.cell); (try have e2 := hS.2.1.cell); (try have e3 := hS.2.2.1.cell); (try have e4 := hS.2.2.2.1.cell); (try have f1 := hS.1); (try have f2 := hS.2.1); (try have f3 := hS.2.2.1); (try have f4 := hS.2.2.2.1); (try have f5 := hS.2.2.2.2.1); clear hS; go_simp; (try with_reducible rfl))); (go_simp; refine hK _ ?_; clear hK K)))
  refine wpSched_loud rfl (fun K hK => ?_)
  go_wp2_with (go_at_call 43; refine (check_any _ _ _).mono ?_; rintro r w3 ⟨rfl, hb3⟩)
  have k3 := k2.call hb3
  refine hK.out _ _ (fun _ => ⟨k3, trivial⟩) ?_
  clear hK K
  (repeat (refine wpSched_quiet (v := ?_) rfl rfl (fun w' hS => ?_) (fun K hK => ?_); rotate_left; (focus ((try have e1 := hS.1.cell); (try have e2 := hS.2.1.cell); (try have e3 := hS.2.2.1.cell); (try have e4 := hS.2.2.2.1.cell); (try have f1 := hS.1); (try have f2 := hS.2.1); (try have f3 := hS.2.2.1); (try have f4 := hS.2.2.2.1); (try have f5 := hS.2.2.2.2.1); clear hS; go_simp; (try with_reducible rfl))); (go_simp; refine hK _ ?_; clear hK K)))
  refine wpSched_nil ?_
  have hbw : Below w.heap.size w w3 := pb_trans (pb_trans hb1 hb2) hb3
  go_wp2
  go_ret2
  exact ⟨rfl, hbw⟩

set_option maxHeartbeats 1000000 in
theorem change_yes (B : Nat) (f : FoldS) (t : List Nat) (ow : Own) (e : EntryD) (mv : Value) (w : World) (h : FoldAt B f t ow w) (hc : checkE (nowP f.eras).2.1 e.ver = 0) (hl : f.eras.length ≤ 536870912) :
    Calls Tryz.prog 161 #[.pointer (some ⟨B, 0, none⟩), entV e mv] w (FoldPost B (beginEra f e.ver true) t ow w (.tuple #[.slice none 0 0, .bool true])) := by
  have hnow := now_any B f t ow
  obtain ⟨⟨ep, ve, st⟩, hn⟩ : ∃ n, nowP f.eras = n := ⟨_, rfl⟩
  rw [hn] at hnow hc
  unfold eraV at hnow
  simp only at hc
  obtain ⟨W1, hW1⟩ : ∃ W1, W1 = (w.alloc (.cells #[.int .i64 e.kind, .int .u32 e.epoch, .int .i64 e.ver, mv] 65)).drew := ⟨_, rfl⟩
  have hb1 : Below w.heap.size w W1 := by rw [hW1]; (repeat (first | exact Below.refl _ _ | with_reducible assumption | refine pb_alloc ?_ _ | refine pb_drew ?_ | refine pb_drewN ?_ _ | refine pb_set ?_ (by simp; try omega) _ | refine pb_trans ?_ (by with_reducible assumption)))
  have kx : Blk W1 w.heap.size #[.int .i64 e.kind, .int .u32 e.epoch, .int .i64 e.ver, mv] 65 := by rw [hW1]; (repeat (first | with_reducible assumption | (refine Blk.new ?_; simp; done) | refine Blk.alloc ?_ _ | refine Blk.drew ?_ | refine Blk.drewN ?_ _ | refine Blk.call ?_ (by with_reducible assumption)))
  have hF : Hid (FoldAt B f t ow W1) := (FoldAt.loc B f t).below h hb1
  have hf1 := era_f1 ep ve st
  have t1 : (checkE ve e.ver != 0) = false := by simpa using hc
  clear hc
  replace hnow : Hid (∀ _, _) := hnow
  replace hn : Hid (_ = _) := hn
  replace h : Hid (FoldAt _ _ _ _ _) := h
  unfold entV
  go_enter Tryz.func161, Tryz.ntmps161
  go_wp2
  refine wp_region_sched [(0, true), (3, true), (4, true), (1, false), (2, true), (5, false), (6, true)] none (fun w' => Blk w' w.heap.size #[.int .i64 e.kind, .int .u32 e.epoch, .int .i64 e.ver, mv] 65 ∧ True) (by kernel_rfl) (by kernel_rfl) (by rw [← hW1]; exact ⟨kx, trivial⟩) ?_
  rw [← hW1]
  clear hW1
  (repeat (refine wpSched_quiet (v := ?_) rfl rfl (fun w' hS => ?_) (fun K hK => ?_); rotate_left; (focus ((try have e1 := hS.1.cell); (try have e2 := hS.2.1.cell); (try have e3 := hS.2.2.1.cell); (try have e4 := hS.2.2.2.1.cell); (try have f1 := hS.1); (try have f2 := hS.2.1); (try have f3 := hS.2.2.1); (try have f4 := hS.2.2.2.1); (try have f5 := hS.2.2.2.2.1); clear hS; go_simp; (try with_reducible rfl))); (go_simp; refine hK _ ?_; clear hK K)))
  refine wpSched_loud rfl (fun K hK => ?_)
  go_wp2_with (go_at_call 159; refine (hnow.out _ hF.out (by omega)).mono ?_; rintro r w2 ⟨rfl, hb2⟩)
  have k2 := kx.call hb2
  refine hK.out _ _ (fun _ => ⟨k2, trivial⟩) ?_
  clear hK K
  (repeat (refine wpSched_quiet (v := ?_) rfl rfl (fun w' hS => ?_) (fun K hK => ?_); rotate_left; (focus ((try have e1 := hS.1.cell); (try have e2 := hS.2.1.cell); (try have e3 := hS.2.2.1.cell); (try have e4 := hS.2.2.2.1.cell); (try have f1 := hS.1); (try have f2 := hS.2.1); (try have f3 := hS.2.2.1); (try have f4 := hS.2.2.2.1); (try have f5 := hS.2.2.2.2.1); clear hS; go_simp; (try with_reducible rfl))); (go_simp; refine hK _ ?_; clear hK K)))
  refine wpSched_loud rfl (fun K hK => ?_)
  go_wp2_with (go_at_call 43; refine (check_any _ _ _).mono ?_; rintro r w3 ⟨rfl, hb3⟩)
  have k3 := k2.call hb3
  refine hK.out _ _ (fun _ => ⟨k3, trivial⟩) ?_
  clear hK K
  (repeat (refine wpSched_quiet (v := ?_) rfl rfl (fun w' hS => ?_) (fun K hK => ?_); rotate_left; (focus ((try have e1 := hS.1.cell); (try have e2 := hS.2.1.cell); (try have e3 := hS.2.2.1.cell); (try have e4 := hS.2.2.2.1.cell); (try have f1 := hS.1); (try have f2 := hS.2.1); (try have f3 := hS.2.2.1); (try have f4 := hS.2.2.2.1); (try have f5 := hS.2.2.2.2.1); clear hS; go_simp; (try with_reducible rfl))); (go_simp; refine hK _ ?_; clear hK K)))
  refine wpSched_nil ?_
  have hbw : Below w.heap.size w w3 := pb_trans (pb_trans hb1 hb2) hb3
  have e3 := k3.cell
  have hbeg := begin_any B f t (ow.cut w) e.ver true w3 ((FoldAt.loc B f t).cut h.out hbw) hl
  replace hbeg : Hid (Calls _ _ _ _ _) := hbeg
  go_wp2_with (go_at_call 187; refine hbeg.out.mono ?_; rintro r w4 ⟨rfl, ow2, hs2, hf2⟩; replace hf2 : Hid (FoldAt _ _ _ _ _) := hf2)
  refine bodyPost_ret (v := .tuple #[.slice none 0 0, .bool true]) (by simp [results, Tryz.results161, go_sem]) rfl ?_
  exact ⟨rfl, ow2, Step.wrap hbw hs2, hf2.out⟩
end Go.Proofs.YtaopeioebpfdeaaGreatDoor
namespace Go.Proofs.YtaopeioebpfdeaaGreatDoor
open Go Go.RowKit Go.Shelf Go.Extern.Stop Go.Stop Go.Extern
attribute [local go_sem] Oper.semAt_some wide_fn wide_depth

theorem FoldAt.count {B : Nat} {f : FoldS} {t : List Nat} {ow : Own} {w : World} (h : FoldAt B f t ow w) (c : Int) : FoldAt B { f with count := c } t ow (w.setCell ⟨B, 2, none⟩ (.int .i64 c)) := by
  obtain ⟨hne, bb, ev, hB, hbk, hR, o1, o2⟩ := h
  refine ⟨hne, bb, ev, hB.set _, ?_, hR.kept (fun g hg => Below.heap_setCell _ _ _ _ (show g ≠ B from hR.ne_blk hB (by decide) hg)), o1, o2⟩
  exact (BookAt.loc bb f.book (t ++ [0])) _ _ _ _ hbk (by simp) (fun k hk hs => ⟨rfl, Below.heap_setCell _ _ _ _ (show k ≠ B from fun e => by subst e; rw [o1] at hs; exact not_child_sub t 0 hs)⟩)
def intV (n : Int) : Value := .int .i64 n
theorem int_chk (n : Nat) (b : Bool) (x : Int) (w : World) : (Instr.checkKey b (n + 1) 3 (.int .i64 x)).run Tryz.prog w = .ok () w := by
  simp [Instr.checkKey, go_sem]
theorem intKey : KeyLaw Tryz.prog 3 intV where
  eq := fun k k' w => by
    have h : (Op.equal 3 (intV k) (intV k')).run Tryz.prog w = (Op.equalIn 10000 3 (.int .i64 k) (.int .i64 k')).run Tryz.prog w := rfl
    rw [h]
    simp [go_sem]
    by_cases h1 : k = k' <;> simp [h1]
  chk := fun b k w => int_chk 9999 b k w
  bits := fun k => by simp [intV, Instr.sameBits]
  now := ⟨_, Tryz.underlying3, fun k k' => by
    by_cases h : k = k'
    · right; subst h; simp [intV, Instr.sameNow]
    · right; simp [intV, Instr.sameNow, h]⟩
theorem putObj_alloc (w : World) (o o' : Obj) : (w.alloc o).putObj w.heap.size o' = w.alloc o' := by
  have h : (w.heap.push o).setIfInBounds w.heap.size o' = w.heap.push o' := by
    apply Array.ext_getElem?
    intro i
    simp only [Array.getElem?_setIfInBounds, Array.getElem?_push, Array.size_push]
    by_cases hi : w.heap.size = i
    · subst hi; simp
    · have hi' : ¬ i = w.heap.size := fun e => hi e.symm
      simp [hi, hi']
  exact congrArg (fun hp => ({ heap := hp, tape := w.tape, drawn := w.drawn, os := w.os, output := w.output } : World)) h
theorem deeds1 (a b c : Value) (k : Int) (h : k = 1) : (look k (put (3 : Int) c (put 2 b (put 1 a [])))).getD Value.nilFunc = a := by subst h; rfl
theorem deeds2 (a b c : Value) (k : Int) (h : k = 2) : (look k (put (3 : Int) c (put 2 b (put 1 a [])))).getD Value.nilFunc = b := by subst h; rfl
theorem deeds3 (a b c : Value) (k : Int) (h : k = 3) : (look k (put (3 : Int) c (put 2 b (put 1 a [])))).getD Value.nilFunc = c := by subst h; rfl
theorem kind_of_right {e : EntryD} (h : rightE e = true) : e.kind = 1 ∨ e.kind = 2 ∨ e.kind = 3 := by
  rcases Decidable.em (shapedP e = false) with h1 | h1
  · simp [rightE, encodeP, h1] at h
  · unfold shapedP at h1
    by_cases a : e.kind = 1
    · exact .inl a
    · by_cases b : e.kind = 2
      · exact .inr (.inl b)
      · by_cases c : e.kind = 3
        · exact .inr (.inr c)
        · simp [a, b, c] at h1
theorem msgs_of_right {e : EntryD} (h : rightE e = true) : e.msgs.length ≤ 64 := by
  rcases Nat.lt_or_ge 64 e.msgs.length with h1 | h1
  · exfalso
    have : (packP e.msgs).2 = 101 := by unfold packP; rw [if_pos h1]
    unfold rightE encodeP at h
    split at h
    · simp at h
    · rw [this] at h; simp at h
  · exact h1
/-- What Apply comes to. -/
def ApplyPost (B : Nat) (t : List Nat) (ow : Own) (w : World) (R : FoldS × List MsgD × Bool × Int) (e : Ending) (w' : World) : Prop :=
  ∃ v ow', e = .returned (.tuple #[v, .bool R.2.2.1, .int .i64 R.2.2.2]) ∧ Step t ow w ow' w' ∧ FoldAt B R.1 t ow' w' ∧ Row w' 34 3 v R.2.1.length (R.2.1.flatMap msgCells) ∧ (∀ g, v.ownBlock = some g → w.heap.size ≤ g ∧ ow' g = [])

set_option maxRecDepth 8000 in
set_option maxHeartbeats 1000000 in
theorem apply_any (B : Nat) (f : FoldS) (t : List Nat) (ht : t ≠ []) (ow : Own) (e : EntryD) (mv : Value) (w : World) (h : FoldAt B f t ow w)
    (hm : MsgsAt w mv e.msgs) (hmt : ∀ a l c, mv = .slice (some a) l c → ¬ Sub t (ow a.block)) (hl : bookN f.book + 64 ≤ 536870912) (hl2 : f.eras.length ≤ 536870912) (hm2 : e.msgs.length ≤ 1073741824) (hct : 0 ≤ f.count ∧ f.count ≤ 1073741824) :
    Calls Tryz.prog 131 #[.pointer (some ⟨B, 0, none⟩), entV e mv] w (ApplyPost B t ow w (applyP f e)) := by
  have hr := rightE_any e mv
  unfold entV at hr ⊢
  replace hr : Hid (∀ _, _) := hr
  replace hmt : Hid (∀ _, _) := hmt
  replace hm : Hid (Src _ _ _ _ _) := hm
  obtain ⟨R, hR⟩ : ∃ R, applyP f e = R := ⟨_, rfl⟩
  rw [hR]
  unfold applyP at hR
  have hnil := isNil_no B f t ow
  replace hnil : Hid (∀ _, _) := hnil
  cases hre : rightE e
  · rw [if_pos hre] at hR
    subst hR
    replace h : Hid (FoldAt _ _ _ _ _) := h
    go_enter Tryz.func131, Tryz.ntmps131
    go_wp2_with (first
      | (go_at_call 138; refine (hnil.out _ ((FoldAt.loc B f t).below h.out (by (repeat (first | exact Below.refl _ _ | with_reducible assumption | refine pb_alloc ?_ _ | refine pb_drew ?_ | refine pb_drewN ?_ _ | refine pb_set ?_ (by simp; try omega) _ | refine pb_trans ?_ (by with_reducible assumption)))))).mono ?_; rintro r w1 ⟨rfl, rfl⟩)
      | (go_at_call 158; refine (hr.out _ (hm.out.below (by (repeat (first | exact Below.refl _ _ | with_reducible assumption | refine pb_alloc ?_ _ | refine pb_drew ?_ | refine pb_drewN ?_ _ | refine pb_set ?_ (by simp; try omega) _ | refine pb_trans ?_ (by with_reducible assumption))))) hm2).mono ?_; rintro r w2 ⟨rfl, hb2⟩; rw [hre]))
    refine bodyPost_ret (v := .tuple #[.slice none 0 0, .bool false, .int .i64 140]) (by simp [results, Tryz.results131, go_sem]) rfl ?_
    have hbw : Below w.heap.size w w2 := by (repeat (first | exact Below.refl _ _ | with_reducible assumption | refine pb_alloc ?_ _ | refine pb_drew ?_ | refine pb_drewN ?_ _ | refine pb_set ?_ (by simp; try omega) _ | refine pb_trans ?_ (by with_reducible assumption)))
    exact ⟨_, ow, rfl, Step.of_below t ow hbw, (FoldAt.loc B f t).below h.out hbw, row_nil _ _ _, by simp [Value.ownBlock]⟩
  · rw [if_neg (by simp [hre])] at hR
    obtain ⟨bb, ev, hB⟩ : ∃ bb ev, Blk w B (foldCells bb ev f) 209 := h.2.choose_spec.choose_spec.1 |> fun h => ⟨_, _, h⟩
    have o1 := foldMsgs_not h
    have hBl := hB.lt
    unfold foldCells at hB
    obtain ⟨⟨ep, ve, st⟩, hn⟩ : ∃ n, nowP f.eras = n := ⟨_, rfl⟩
    have hnow : ∀ W, FoldAt B { f with count := f.count + 1 } t (ow.cut w) W → _ := fun W hF => now_any B { f with count := f.count + 1 } t (ow.cut w) W hF (by show f.eras.length ≤ _; omega)
    simp only [hn] at hnow hR
    unfold eraV at hnow
    replace hnow : Hid (∀ _, _) := hnow
    replace hn : Hid (_ = _) := hn
    replace h : Hid (FoldAt _ _ _ _ _) := h
    have hf0 := era_f0 ep ve st
    have hct2 : f.count + 1 ≤ 1073741825 := by omega
    obtain ⟨hct0, hct1⟩ := hct
    by_cases hep : e.epoch = ep
    · subst hep
      rw [if_neg (by simp)] at hR
      replace hR : Hid (_ = _) := hR
      go_enter Tryz.func131, Tryz.ntmps131
      go_wp2_with (first
        | (go_at_call 138; refine (hnil.out _ ((FoldAt.loc B f t).below h.out (by (repeat (first | exact Below.refl _ _ | with_reducible assumption | refine pb_alloc ?_ _ | refine pb_drew ?_ | refine pb_drewN ?_ _ | refine pb_set ?_ (by simp; try omega) _ | refine pb_trans ?_ (by with_reducible assumption)))))).mono ?_; rintro r w1 ⟨rfl, rfl⟩)
        | (go_at_call 158; refine (hr.out _ (hm.out.below (by (repeat (first | exact Below.refl _ _ | with_reducible assumption | refine pb_alloc ?_ _ | refine pb_drew ?_ | refine pb_drewN ?_ _ | refine pb_set ?_ (by simp; try omega) _ | refine pb_trans ?_ (by with_reducible assumption))))) hm2).mono ?_; rintro r w2 ⟨rfl, hb2⟩; rw [hre]
           have hbw : Below w.heap.size w w2 := pb_trans (pb_alloc (Below.refl _ _) _) hb2
           have kx : Blk w2 w.heap.size #[.int .i64 e.kind, .int .u32 e.epoch, .int .i64 e.ver, mv] 65 := Blk.call (Blk.new rfl) hb2
           have kB := hB.call hbw
           have eB := kB.cell
           have fB := kB.frozen
           have lB := kB.lt))
      clear eB fB
      obtain ⟨W3, hW3⟩ : ∃ W3, W3 = w2.setCell ⟨B, 2, none⟩ (.int .i64 (f.count + 1)) := ⟨_, rfl⟩
      have hF3 : FoldAt B { f with count := f.count + 1 } t (ow.cut w) W3 := by rw [hW3]; exact ((FoldAt.loc B f t).cut h.out hbw).count _
      have kx3 : Blk W3 w.heap.size #[.int .i64 e.kind, .int .u32 e.epoch, .int .i64 e.ver, mv] 65 := by rw [hW3]; exact kx.other (by simp; omega) _
      have hst3 : Step t ow w (ow.cut w) W3 := by rw [hW3]; exact ⟨(Mod.of_below (fun k => Sub t (ow k)) hbw).thenSet (p := ⟨B, 2, none⟩) (by simp only [o1]; exact Sub.rfl' t) _, fun k hk => Own.cut_old hk⟩
      rw [← hW3]
      clear hW3 kB lB kx
      refine wp_region_sched [(0, true), (1, true), (2, true), (3, false), (4, true), (5, true)] none (fun w' => Blk w' w.heap.size #[.int .i64 e.kind, .int .u32 e.epoch, .int .i64 e.ver, mv] 65 ∧ True) (by kernel_rfl) (by kernel_rfl) ⟨kx3.drew, trivial⟩ ?_
      (repeat (refine wpSched_quiet (v := ?_) rfl rfl (fun w' hS => ?_) (fun K hK => ?_); rotate_left; (focus ((try have e1 := hS.1.cell); (try have e2 := hS.2.1.cell); (try have e3 := hS.2.2.1.cell); (try have e4 := hS.2.2.2.1.cell); (try have f1 := hS.1); (try have f2 := hS.2.1); (try have f3 := hS.2.2.1); (try have f4 := hS.2.2.2.1); (try have f5 := hS.2.2.2.2.1); clear hS; go_simp; (try with_reducible rfl))); (go_simp; refine hK _ ?_; clear hK K)))
      refine wpSched_loud rfl (fun K hK => ?_)
      go_wp2_with (go_at_call 159; refine (hnow.out _ ((FoldAt.loc B _ t).below hF3 (Below.drew (Below.refl _ _)))).mono ?_; rintro r w4 ⟨rfl, hb4⟩)
      have kx4 := kx3.drew.call hb4
      refine hK.out _ _ (fun _ => ⟨kx4, trivial⟩) ?_
      clear hK
      (repeat (refine wpSched_quiet (v := ?_) rfl rfl (fun w' hS => ?_) (fun K hK => ?_); rotate_left; (focus ((try have e1 := hS.1.cell); (try have e2 := hS.2.1.cell); (try have e3 := hS.2.2.1.cell); (try have e4 := hS.2.2.2.1.cell); (try have f1 := hS.1); (try have f2 := hS.2.1); (try have f3 := hS.2.2.1); (try have f4 := hS.2.2.2.1); (try have f5 := hS.2.2.2.2.1); clear hS; go_simp; (try with_reducible rfl))); (go_simp; refine hK _ ?_; clear hK K)))
      refine wpSched_nil ?_
      have hmm := @run_makeMap Tryz.prog
      have e4 := kx4.cell
      have m0 := MapAt.made w4 intV
      obtain ⟨o1', hu1, m1⟩ := m0.update intKey Tryz.underlying259 1 (.func (.func 160) #[.pointer (some ⟨B, 0, none⟩)] #[])
      rw [putObj_alloc] at hu1 m1
      obtain ⟨o2', hu2, m2⟩ := m1.update intKey Tryz.underlying259 2 (.func (.func 161) #[.pointer (some ⟨B, 0, none⟩)] #[])
      rw [putObj_alloc] at hu2 m2
      obtain ⟨o3', hu3, m3⟩ := m2.update intKey Tryz.underlying259 3 (.func (.func 162) #[.pointer (some ⟨B, 0, none⟩)] #[])
      rw [putObj_alloc] at hu3 m3
      clear m0 m1 m2
      have hk123 : e.kind = 1 ∨ e.kind = 2 ∨ e.kind = 3 := kind_of_right hre
      have e5 := (kx4.alloc o3').cell
      have hst5 : Step t ow w (ow.cut w) (w4.alloc o3') := hst3.trans ((Step.of_below t (ow.cut w) (Below.drew (Below.refl _ _))).trans ((Step.of_below t (ow.cut w) hb4).trans (Step.alloc t (ow.cut w) w4 o3')))
      have hF5 : FoldAt B { f with count := f.count + 1 } t (ow.cut w) (w4.alloc o3') := (FoldAt.loc B _ t).below ((FoldAt.loc B _ t).below ((FoldAt.loc B _ t).below hF3 (Below.drew (Below.refl _ _))) hb4) ((Below.refl _ _).alloc (Nat.le_refl _) _)
      have hm5 : MsgsAt (w4.alloc o3') mv e.msgs := hm.out.step hst5 hmt.out
      have hmt5 : ∀ a l c, mv = .slice (some a) l c → ¬ Sub t (ow.cut w a.block) := fun a l c h hs => by
        rcases Nat.lt_or_ge a.block w.heap.size with h1 | h1
        · rw [Own.cut_old h1] at hs; exact hmt.out a l c h hs
        · rw [Own.cut_new h1] at hs; exact not_sub_nil ht hs
      have hm64 : e.msgs.length ≤ 64 := msgs_of_right hre
      rcases hk123 with hkind | hkind | hkind
      · have hlk := m3.lookup intKey Tryz.underlying259 (z := .nilFunc) (by kernel_rfl) e.kind
        rw [deeds1 _ _ _ _ hkind] at hlk
        unfold intV at hlk hu1 hu2 hu3
        replace hkind : Hid (_ = _) := hkind
        have hRR := hR.out
        rw [if_pos hkind.out] at hRR
        replace hRR : Hid (_ = _) := hRR
        have hcall := batch_any B { f with count := f.count + 1 } t (ow.cut w) e mv (w4.alloc o3') hF5 hm5 hmt5 (by show bookN f.book + _ ≤ _; omega)
        unfold entV at hcall
        replace hcall : Hid (Calls _ _ _ _ _) := hcall
        go_wp2_with (go_at_call 160; refine hcall.out.mono ?_; rintro r w6 ⟨nv, ow6, rfl, hs6, hf6, hR6, hn6⟩; replace hn6 : Hid (∀ _, _) := hn6; replace hf6 : Hid (FoldAt _ _ _ _ _) := hf6)
        refine bodyPost_ret (v := .tuple #[nv, .bool false, .int .i64 0]) (by simp [results, Tryz.results131, go_sem]) rfl ?_
        have hz := hst5.size
        rw [← hRR.out]
        exact ⟨nv, ow6, rfl, hst5.trans hs6, hf6.out, hR6, fun g hg => ⟨by have := (hn6.out g hg).1; omega, (hn6.out g hg).2⟩⟩
      · have hlk := m3.lookup intKey Tryz.underlying259 (z := .nilFunc) (by kernel_rfl) e.kind
        rw [deeds2 _ _ _ _ hkind] at hlk
        unfold intV at hlk hu1 hu2 hu3
        replace hkind : Hid (_ = _) := hkind
        have hRR := hR.out
        rw [if_neg (by rw [hkind.out]; decide), if_pos hkind.out] at hRR
        by_cases hck : checkE ve e.ver = 0
        · rw [if_neg (by simpa using hck)] at hRR
          replace hRR : Hid (_ = _) := hRR
          have hck' : Hid (_ = _) := hck
          clear hck
          have hcall := change_yes B { f with count := f.count + 1 } t (ow.cut w) e mv (w4.alloc o3') hF5 (by show checkE (nowP f.eras).2.1 e.ver = 0; rw [hn.out]; exact hck'.out) hl2
          unfold entV at hcall
          replace hcall : Hid (Calls _ _ _ _ _) := hcall
          go_wp2_with (go_at_call 161; refine hcall.out.mono ?_; rintro r w6 ⟨rfl, ow6, hs6, hf6⟩; replace hf6 : Hid (FoldAt _ _ _ _ _) := hf6)
          refine bodyPost_ret (v := .tuple #[.slice none 0 0, .bool true, .int .i64 0]) (by simp [results, Tryz.results131, go_sem]) rfl ?_
          rw [← hRR.out]
          exact ⟨_, ow6, rfl, hst5.trans hs6, hf6.out, row_nil _ _ _, by simp [Value.ownBlock]⟩
        · rw [if_pos (by simpa using hck)] at hRR
          replace hRR : Hid (_ = _) := hRR
          have hcall := change_no B { f with count := f.count + 1 } t (ow.cut w) e mv (w4.alloc o3') hF5 (by show checkE (nowP f.eras).2.1 e.ver ≠ 0; rw [hn.out]; exact hck) hl2
          unfold entV at hcall
          replace hcall : Hid (Calls _ _ _ _ _) := hcall
          go_wp2_with (go_at_call 161; refine hcall.out.mono ?_; rintro r w6 ⟨rfl, hb6⟩)
          refine bodyPost_ret (v := .tuple #[.slice none 0 0, .bool false, .int .i64 0]) (by simp [results, Tryz.results131, go_sem]) rfl ?_
          rw [← hRR.out]
          exact ⟨_, _, rfl, hst5.trans (Step.of_below t _ hb6), (FoldAt.loc B _ t).below hF5 hb6, row_nil _ _ _, by simp [Value.ownBlock]⟩
      · have hlk := m3.lookup intKey Tryz.underlying259 (z := .nilFunc) (by kernel_rfl) e.kind
        rw [deeds3 _ _ _ _ hkind] at hlk
        unfold intV at hlk hu1 hu2 hu3
        replace hkind : Hid (_ = _) := hkind
        have hRR := hR.out
        rw [if_neg (by rw [hkind.out]; decide), if_neg (by rw [hkind.out]; decide)] at hRR
        cases hsw : f.sw
        · rw [if_pos hsw] at hRR
          replace hRR : Hid (_ = _) := hRR
          have hcall := rollback_no B { f with count := f.count + 1 } t (ow.cut w) (entV e mv) ⟨_, _, _, _, rfl⟩ hsw (w4.alloc o3') hF5
          unfold entV at hcall
          replace hcall : Hid (Calls _ _ _ _ _) := hcall
          go_wp2_with (go_at_call 162; refine hcall.out.mono ?_; rintro r w6 ⟨rfl, hb6⟩)
          refine bodyPost_ret (v := .tuple #[.slice none 0 0, .bool false, .int .i64 0]) (by simp [results, Tryz.results131, go_sem]) rfl ?_
          rw [← hRR.out]
          exact ⟨_, _, rfl, hst5.trans (Step.of_below t _ hb6), (FoldAt.loc B _ t).below hF5 hb6, row_nil _ _ _, by simp [Value.ownBlock]⟩
        · rw [if_neg (by simp [hsw])] at hRR
          replace hRR : Hid (_ = _) := hRR
          have hcall := rollback_any B { f with count := f.count + 1 } t ht (ow.cut w) (entV e mv) ⟨_, _, _, _, rfl⟩ hsw (w4.alloc o3') hF5 hl2
          unfold entV at hcall
          replace hcall : Hid (Calls _ _ _ _ _) := hcall
          go_wp2_with (go_at_call 162; refine hcall.out.mono ?_; rintro r w6 ⟨rfl, ow6, hs6, hf6⟩; replace hf6 : Hid (FoldAt _ _ _ _ _) := hf6)
          refine bodyPost_ret (v := .tuple #[.slice none 0 0, .bool true, .int .i64 0]) (by simp [results, Tryz.results131, go_sem]) rfl ?_
          rw [← hRR.out]
          exact ⟨_, ow6, rfl, hst5.trans hs6, by have := hf6.out; rw [show nowP ({ f with count := f.count + 1 } : FoldS).eras = (e.epoch, ve, st) from hn.out] at this; exact this, row_nil _ _ _, by simp [Value.ownBlock]⟩
    · have t1 : ((e.epoch : Int) != (ep : Int)) = true := by simpa using (fun h => hep (by omega))
      rw [if_pos hep] at hR
      clear hep
      replace hR : Hid (_ = _) := hR
      go_enter Tryz.func131, Tryz.ntmps131
      go_wp2_with (first
        | (go_at_call 138; refine (hnil.out _ ((FoldAt.loc B f t).below h.out (by (repeat (first | exact Below.refl _ _ | with_reducible assumption | refine pb_alloc ?_ _ | refine pb_drew ?_ | refine pb_drewN ?_ _ | refine pb_set ?_ (by simp; try omega) _ | refine pb_trans ?_ (by with_reducible assumption)))))).mono ?_; rintro r w1 ⟨rfl, rfl⟩)
        | (go_at_call 158; refine (hr.out _ (hm.out.below (by (repeat (first | exact Below.refl _ _ | with_reducible assumption | refine pb_alloc ?_ _ | refine pb_drew ?_ | refine pb_drewN ?_ _ | refine pb_set ?_ (by simp; try omega) _ | refine pb_trans ?_ (by with_reducible assumption))))) hm2).mono ?_; rintro r w2 ⟨rfl, hb2⟩; rw [hre]
           have hbw : Below w.heap.size w w2 := pb_trans (pb_alloc (Below.refl _ _) _) hb2
           have kx : Blk w2 w.heap.size #[.int .i64 e.kind, .int .u32 e.epoch, .int .i64 e.ver, mv] 65 := Blk.call (Blk.new rfl) hb2
           have kB := hB.call hbw
           have eB := kB.cell
           have fB := kB.frozen
           have lB := kB.lt))
      clear eB fB
      obtain ⟨W3, hW3⟩ : ∃ W3, W3 = w2.setCell ⟨B, 2, none⟩ (.int .i64 (f.count + 1)) := ⟨_, rfl⟩
      have hF3 : FoldAt B { f with count := f.count + 1 } t (ow.cut w) W3 := by rw [hW3]; exact ((FoldAt.loc B f t).cut h.out hbw).count _
      have kx3 : Blk W3 w.heap.size #[.int .i64 e.kind, .int .u32 e.epoch, .int .i64 e.ver, mv] 65 := by rw [hW3]; exact kx.other (by simp; omega) _
      have hst3 : Step t ow w (ow.cut w) W3 := by rw [hW3]; exact ⟨(Mod.of_below (fun k => Sub t (ow k)) hbw).thenSet (p := ⟨B, 2, none⟩) (by simp only [o1]; exact Sub.rfl' t) _, fun k hk => Own.cut_old hk⟩
      rw [← hW3]
      clear hW3 kB lB kx
      refine wp_region_sched [(0, true), (1, true), (2, true), (3, false), (4, true), (5, true)] none (fun w' => Blk w' w.heap.size #[.int .i64 e.kind, .int .u32 e.epoch, .int .i64 e.ver, mv] 65 ∧ True) (by kernel_rfl) (by kernel_rfl) ⟨kx3.drew, trivial⟩ ?_
      (repeat (refine wpSched_quiet (v := ?_) rfl rfl (fun w' hS => ?_) (fun K hK => ?_); rotate_left; (focus ((try have e1 := hS.1.cell); (try have e2 := hS.2.1.cell); (try have e3 := hS.2.2.1.cell); (try have e4 := hS.2.2.2.1.cell); (try have f1 := hS.1); (try have f2 := hS.2.1); (try have f3 := hS.2.2.1); (try have f4 := hS.2.2.2.1); (try have f5 := hS.2.2.2.2.1); clear hS; go_simp; (try with_reducible rfl))); (go_simp; refine hK _ ?_; clear hK K)))
      refine wpSched_loud rfl (fun K hK => ?_)
      go_wp2_with (go_at_call 159; refine (hnow.out _ ((FoldAt.loc B _ t).below hF3 (Below.drew (Below.refl _ _)))).mono ?_; rintro r w4 ⟨rfl, hb4⟩)
      have kx4 := kx3.drew.call hb4
      refine hK.out _ _ (fun _ => ⟨kx4, trivial⟩) ?_
      clear hK
      (repeat (refine wpSched_quiet (v := ?_) rfl rfl (fun w' hS => ?_) (fun K hK => ?_); rotate_left; (focus ((try have e1 := hS.1.cell); (try have e2 := hS.2.1.cell); (try have e3 := hS.2.2.1.cell); (try have e4 := hS.2.2.2.1.cell); (try have f1 := hS.1); (try have f2 := hS.2.1); (try have f3 := hS.2.2.1); (try have f4 := hS.2.2.2.1); (try have f5 := hS.2.2.2.2.1); clear hS; go_simp; (try with_reducible rfl))); (go_simp; refine hK _ ?_; clear hK K)))
      refine wpSched_nil ?_
      have hst5 : Step t ow w (ow.cut w) w4 := hst3.trans ((Step.of_below t (ow.cut w) (Below.drew (Below.refl _ _))).trans (Step.of_below t (ow.cut w) hb4))
      have hF5 : FoldAt B { f with count := f.count + 1 } t (ow.cut w) w4 := (FoldAt.loc B _ t).below ((FoldAt.loc B _ t).below hF3 (Below.drew (Below.refl _ _))) hb4
      clear hF3 hst3
      replace hF5 : Hid (FoldAt _ _ _ _ _) := hF5
      go_wp2
      refine bodyPost_ret (v := .tuple #[.slice none 0 0, .bool false, .int .i64 0]) (by simp [results, Tryz.results131, go_sem]) rfl ?_
      rw [← hR.out]
      exact ⟨_, _, rfl, hst5, hF5.out, row_nil _ _ _, by simp [Value.ownBlock]⟩
end Go.Proofs.YtaopeioebpfdeaaGreatDoor
namespace Go.Proofs.YtaopeioebpfdeaaGreatDoor
open Go

/-- One step of a sum with a bit. -/
def crcBit (s : Nat) : Nat := if s % 2 = 1 then (s / 2) ^^^ 3988292384 else s / 2
def crcBits : Nat → Nat → Nat
  | 0, s => s
  | n + 1, s => crcBits n (crcBit s)
def crcStep (s : Nat) (b : UInt8) : Nat := crcBits 8 (s ^^^ b.toNat)
/-- The sum of bytes. -/
def crcP (l : List UInt8) : Nat := 4294967295 - l.foldl crcStep 4294967295
def sealP (l : List UInt8) : List UInt8 := l ++ le4 (crcP l)
/-- The bytes ahead of their sum, if it is theirs. -/
def openP (l : List UInt8) : Option (List UInt8) :=
  if l.length < 4 then none else if l.drop (l.length - 4) = le4 (crcP (l.take (l.length - 4))) then some (l.take (l.length - 4)) else none
/-- The number of four bytes. -/
def getP (l : List UInt8) : Nat := if l.length = 4 then l.foldr (fun b n => b.toNat + 256 * n) 0 else 0

end Go.Proofs.YtaopeioebpfdeaaGreatDoor
