/- WALKS: epoch.New, begin. Condition: the fold is one that calls have made. -/
import Derived.Test.YtlfledeldhhllaaGreatDoorEp3
import Derived.Deep.RegionWith
namespace Go.Proofs.YtlfledeldhhllaaGreatDoor
open Go Go.RowKit Go.Shelf Go.Extern.Stop Go.Stop Go.Extern Go.Lib
attribute [local go_sem] Oper.semAt_some wide_fn wide_depth

/-- What New comes to. -/
def NewPost (v : Int) (t : List Nat) (ow : Own) (w : World) (e : Ending) (w' : World) : Prop :=
  ∃ B ow', e = .returned (.tuple #[.pointer (some ⟨B, 0, none⟩), .int .i64 0]) ∧ Step t ow w ow' w' ∧ Below w.heap.size w w' ∧ FoldAt B (newFold v) t ow' w'
theorem BookAt.own {B : Nat} {b : BookS} {t : List Nat} {ow ow' : Own} {W : World} (h : BookAt B b t ow W) (hk : ∀ k, ow' k = ow k ∨ ∃ cs T, Blk W k cs T ∧ T ≠ 94 ∧ T ≠ 54) : BookAt B b t ow' W := by
  obtain ⟨hok, lv, mb, hB, hR, hM, o1, o2, o3⟩ := h
  refine ⟨hok, lv, mb, hB, hR, hM, ?_, ?_, fun g hg => ?_⟩
  · rcases hk B with h | ⟨cs, T, h, h1, -⟩
    · rw [h, o1]
    · have := hB.symm.trans h; simp at this; exact absurd this.2.symm h1
  · rcases hk mb with h | ⟨cs, T, h, h1, -⟩
    · rw [h, o2]
    · exact absurd rfl (h.ne_map hM)
  · rcases hk g with h | ⟨cs, T, h, -, h1⟩
    · rw [h, o3 g hg]
    · exact absurd rfl (hR.ne_blk h (Ne.symm h1) hg)
theorem new_end {v : Int} {t : List Nat} {ow ow2 : Own} {w W : World} {B rb bb : Nat} (hb : Below w.heap.size w W) (kB : Blk W B #[.pointer (some ⟨bb, 0, none⟩), .slice (some ⟨rb, 0, none⟩) 1 1, .int .i64 0, .bool false] 77)
    (kr : Blk W rb #[.int .u32 1, .int .i64 v, .int .i64 0] 42) (hk : BookAt bb newBook (t ++ [0]) ow2 W) (h1 : w.heap.size ≤ B) (h2 : w.heap.size ≤ rb) (ho : ∀ k, k < w.heap.size → ow2 k = ow k) :
    NewPost v t ow w (.returned (.tuple #[.pointer (some ⟨B, 0, none⟩), .int .i64 0])) W := by
  have hne : B ≠ rb := fun e => by subst e; have := kB.symm.trans kr; simp at this
  refine ⟨B, fun k => if k = B ∨ k = rb then t else ow2 k, rfl, ⟨Mod.of_below _ hb, fun k hk => ?_⟩, hb, by simp [newFold], bb, .slice (some ⟨rb, 0, none⟩) 1 1, kB, ?_, ?_, by simp, fun g hg => ?_⟩
  · show (if k = B ∨ k = rb then t else ow2 k) = ow k
    rw [if_neg (by omega), ho k hk]
  · refine hk.own (fun k => ?_)
    by_cases h : k = B ∨ k = rb
    · right
      rcases h with rfl | rfl
      · exact ⟨_, _, kB, by decide, by decide⟩
      · exact ⟨_, _, kr, by decide, by decide⟩
    · left; simp [h]
  · exact ⟨rfl, .inr ⟨rb, 1, _, rfl, Nat.zero_le _, kr, Nat.le_refl _, by decide, rfl, rfl⟩⟩
  · simp [Value.ownBlock] at hg
    simp [hg]
theorem fnew_no (v : Int) (hv : known v = false) (w : World) : Calls Tryz.prog 18 #[.int .i64 v] w fun e w' => e = .returned (.tuple #[.pointer none, .int .i64 130]) ∧ Below w.heap.size w w' := by
  go_enter Tryz.func18, Tryz.ntmps18
  go_wp2_with (go_at_call 28; refine (known_any _ _).mono ?_; rintro e w1 ⟨rfl, hb1⟩; rw [hv])
  go_ret2
  exact ⟨rfl, hb1⟩

set_option maxHeartbeats 1000000 in
theorem fnew_any (v : Int) (hv : known v = true) (t : List Nat) (ow : Own) (w : World) : Calls Tryz.prog 18 #[.int .i64 v] w (NewPost v t ow w) := by
  go_enter Tryz.func18, Tryz.ntmps18
  go_wp2_with (go_at_call 28; refine (known_any _ _).mono ?_; rintro e w1 ⟨rfl, hb1⟩; rw [hv])
  go_region_with (go_at_call 29; refine (new_any (t ++ [0]) (ow.ext w.heap.size (fun _ => False) []) _).mono ?_; rintro e w2 ⟨bb, ow2, rfl, hs2, hb2, hk2⟩; have k4 : Blk w2 w1.heap.size #[.int .u32 1, .int .i64 v, .int .i64 0] 42 := Blk.call (by (repeat (first | with_reducible assumption | (refine Blk.new ?_; simp; done) | refine Blk.alloc ?_ _ | refine Blk.drew ?_ | refine Blk.drewN ?_ _ | refine Blk.call ?_ (by with_reducible assumption)))) hb2; have e4 := k4.cell)
  all_goals
    go_wp2
    simp only [List.getElem_toArray, List.getElem_cons_succ, List.getElem_cons_zero, Act.put, List.setIfInBounds_toArray, List.set_cons_succ, List.set_cons_zero]
    have hz1 := hb1.size
    have hz2 := hb2.size
    simp at hz2
    have hag : ∀ k, k < w.heap.size → ow2 k = ow k := fun k hk => (hs2.agree k (by simp; omega)).trans (Own.ext_old hk)
    first
      | exact bodyPost_ret (v := .tuple #[.pointer (some ⟨w2.heap.size + 1, 0, none⟩), .int .i64 0]) (by simp [results, Tryz.results18, go_sem]) rfl (new_end (rb := w2.heap.size) (by (repeat (first | exact Below.refl _ _ | with_reducible assumption | refine pb_alloc ?_ _ | refine pb_drew ?_ | refine pb_drewN ?_ _ | refine pb_set ?_ (by simp; try omega) _ | refine pb_trans ?_ (by with_reducible assumption)))) (Blk.new (by simp)) ((Blk.new rfl).alloc _) ((BookAt.loc bb newBook (t ++ [0])).below hk2 (by (repeat (first | exact Below.refl _ _ | with_reducible assumption | refine pb_alloc ?_ _ | refine pb_drew ?_ | refine pb_drewN ?_ _ | refine pb_set ?_ (by simp; try omega) _ | refine pb_trans ?_ (by with_reducible assumption))))) (by omega) (by omega) hag)
      | exact bodyPost_ret (v := .tuple #[.pointer (some ⟨w2.heap.size, 0, none⟩), .int .i64 0]) (by simp [results, Tryz.results18, go_sem]) rfl (new_end (rb := w1.heap.size + 1) (by (repeat (first | exact Below.refl _ _ | with_reducible assumption | refine pb_alloc ?_ _ | refine pb_drew ?_ | refine pb_drewN ?_ _ | refine pb_set ?_ (by simp; try omega) _ | refine pb_trans ?_ (by with_reducible assumption)))) (Blk.new rfl) (Blk.alloc (Blk.call (Blk.drew (Blk.new (by simp))) hb2) _) ((BookAt.loc bb newBook (t ++ [0])).below hk2 (by (repeat (first | exact Below.refl _ _ | with_reducible assumption | refine pb_alloc ?_ _ | refine pb_drew ?_ | refine pb_drewN ?_ _ | refine pb_set ?_ (by simp; try omega) _ | refine pb_trans ?_ (by with_reducible assumption))))) (by omega) (by omega) hag)

/-- What begin comes to. -/
def FoldPost (B : Nat) (f : FoldS) (t : List Nat) (ow : Own) (w : World) (v : Value) (e : Ending) (w' : World) : Prop :=
  e = .returned v ∧ ∃ ow', Step t ow w ow' w' ∧ FoldAt B f t ow' w'
set_option maxRecDepth 8000 in
set_option maxHeartbeats 1000000 in
theorem begin_any (B : Nat) (f : FoldS) (t : List Nat) (ow : Own) (v : Int) (sw : Bool) (w : World) (h : FoldAt B f t ow w) (hl : f.eras.length ≤ 536870912) :
    Calls Tryz.prog 48 #[.pointer (some ⟨B, 0, none⟩), .int .i64 v, .bool sw] w (FoldPost B (beginEra f v sw) t ow w (.tuple #[])) := by
  have hnow := now_any B f t ow
  obtain ⟨⟨ep, ve, st⟩, hn⟩ : ∃ n, nowP f.eras = n := ⟨_, rfl⟩
  rw [hn] at hnow
  unfold eraV at hnow
  have h0 := h
  obtain ⟨hne, bb, ev, hB, hbk, hR, o1, o2⟩ := h
  have hbeg : (beginEra f v sw).eras = f.eras ++ [((ep + 1) % 4294967296, v, f.count)] := by unfold beginEra; rw [hn]
  unfold foldCells at hB
  have hwr : IntKind.u32.wrap ((ep : Int) + 1) = (((ep + 1) % 4294967296 : Nat) : Int) := by rw [IntKind.wrap_u32]; omega
  generalize hep : (ep + 1) % 4294967296 = ep1 at *
  replace hep : Hid (_ = _) := hep
  replace hbeg : Hid (_ = _) := hbeg
  replace hnow : Hid (∀ _, _) := hnow
  replace hn : Hid (_ = _) := hn
  replace h0 : Hid (FoldAt _ _ _ _ _) := h0
  replace hbk : Hid (BookAt _ _ _ _ _) := hbk
  replace o2 : Hid (∀ _, _) := o2
  go_enter Tryz.func48, Tryz.ntmps48
  refine wp_seq_k fun K0 hK0 => ?_
  refine wp_region_sched [(0, true), (1, true), (2, true), (3, true), (4, true), (5, true), (9, true), (10, true), (11, true), (12, true), (13, true), (6, false), (7, true), (8, true), (14, false), (15, false), (16, false), (17, true), (18, true), (19, false)] (some 19) (fun w' => Blk w' B #[.pointer (some ⟨bb, 0, none⟩), ev, .int .i64 f.count, .bool f.sw] 77 ∧ True) (by kernel_rfl) (by kernel_rfl) ⟨hB.drew, trivial⟩ ?_
  (repeat (refine wpSched_quiet (v := ?_) rfl rfl (fun w' hS => ?_) (fun K hK => ?_); rotate_left; (focus ((try have e1 := hS.1.cell); (try have e2 := hS.2.1.cell); (try have e3 := hS.2.2.1.cell); (try have e4 := hS.2.2.2.1.cell); (try have f1 := hS.1); (try have f2 := hS.2.1); (try have f3 := hS.2.2.1); (try have f4 := hS.2.2.2.1); (try have f5 := hS.2.2.2.2.1); clear hS; go_simp; (try with_reducible rfl))); (go_simp; refine hK _ ?_; clear hK K)))
  refine wpSched_loud rfl (fun K hK => ?_)
  go_wp2_with (go_at_call 33; refine (hnow.out _ ((FoldAt.loc B f t).below h0.out (Below.drew (Below.refl _ _))) (by omega)).mono ?_; rintro e w1 ⟨rfl, hb1⟩)
  have k1 := hB.drew.call hb1
  refine hK.out _ _ (fun _ => ⟨k1, trivial⟩) ?_
  clear hK
  have hf0 := era_f0 ep ve st
  (repeat (refine wpSched_quiet (v := ?_) rfl rfl (fun w' hS => ?_) (fun K hK => ?_); rotate_left; (focus ((try have e1 := hS.1.cell); (try have e2 := hS.2.1.cell); (try have e3 := hS.2.2.1.cell); (try have e4 := hS.2.2.2.1.cell); (try have f1 := hS.1); (try have f2 := hS.2.1); (try have f3 := hS.2.2.1); (try have f4 := hS.2.2.2.1); (try have f5 := hS.2.2.2.2.1); clear hS; go_simp; (try with_reducible rfl))); (go_simp; refine hK _ ?_; clear hK K)))
  clear hf0
  refine wpSched_loud rfl (fun K hK => ?_)
  go_wp2
  refine hK.out _ _ (fun _ => ⟨k1, trivial⟩) ?_
  clear hK
  refine wpSched_loud rfl (fun K hK => ?_)
  go_wp2
  refine hK.out _ _ (fun _ => ⟨k1.alloc _, trivial⟩) ?_
  clear hK
  refine wpSched_loud rfl (fun K hK => ?_)
  have hbd1 : Below w.heap.size w w1 := by (repeat (first | exact Below.refl _ _ | with_reducible assumption | refine pb_alloc ?_ _ | refine pb_drew ?_ | refine pb_drewN ?_ _ | refine pb_set ?_ (by simp; try omega) _ | refine pb_trans ?_ (by with_reducible assumption)))
  have hbd : Below w.heap.size w (w1.alloc (.cells #[.int .u32 (ep1 : Int), .int .i64 v, .int .i64 f.count] 42)) := by (repeat (first | exact Below.refl _ _ | with_reducible assumption | refine pb_alloc ?_ _ | refine pb_drew ?_ | refine pb_drewN ?_ _ | refine pb_set ?_ (by simp; try omega) _ | refine pb_trans ?_ (by with_reducible assumption)))
  obtain ⟨ev', W3, hrun, hrow, hgr, hown⟩ := row_append eraT (hR.below hbd) (src_blk (n := 1) (size := 3) (cap := 1) (Blk.new (w := w1) (cs := #[.int .u32 (ep1 : Int), .int .i64 v, .int .i64 f.count]) (t := 42) rfl) rfl (Nat.le_refl 1)) (eraCells_one [(ep1, v, f.count)]) (by omega) 75
  refine wpList_append_by rfl _ _ _ rfl rfl rfl hrun ?_
  unfold wpList
  have hevB : ∀ g, ev.ownBlock = some g → g ≠ B ∧ g < w.heap.size := fun g hg => ⟨hR.ne_blk hB (by decide) hg, hR.lt hg⟩
  have k3 := (k1.alloc (.cells #[.int .u32 (ep1 : Int), .int .i64 v, .int .i64 f.count] 42)).kept (hgr.block B (by have := k1.lt; simp; omega) (fun e => (hevB B e.symm).1 rfl))
  refine hK.out _ _ (fun _ => ⟨k3, trivial⟩) ?_
  clear hK hrun
  obtain ⟨sa, sm, sc, rfl⟩ := hrow.shape
  (repeat (refine wpSched_quiet (v := ?_) rfl rfl (fun w' hS => ?_) (fun K hK => ?_); rotate_left; (focus ((try have e1 := hS.1.cell); (try have e2 := hS.2.1.cell); (try have e3 := hS.2.2.1.cell); (try have e4 := hS.2.2.2.1.cell); (try have f1 := hS.1); (try have f2 := hS.2.1); (try have f3 := hS.2.2.1); (try have f4 := hS.2.2.2.1); (try have f5 := hS.2.2.2.2.1); clear hS; go_simp; (try with_reducible rfl))); (go_simp; refine hK _ ?_; clear hK K)))
  have e3 := k3.cell
  have f3 := k3.frozen
  have l3 := k3.lt
  replace hevB : Hid (∀ _, _) := hevB
  refine wpSched_loud rfl (fun K hK => ?_)
  go_wp2
  refine hK.out _ _ (fun h => absurd rfl h) ?_
  clear hK e3 f3
  have k4 := k3.set (o := 1) (.slice sa sm sc)
  have e4 := k4.cell
  have f4 := k4.frozen
  refine wpSched_nil ?_
  refine hK0 _ _ ?_
  go_wp2
  go_end0
  have hBlt := hB.lt
  have hlB1 := k1.lt
  have hg5 : ∀ g, (Value.slice sa sm sc).ownBlock = some g → (ev.ownBlock = some g ∨ g = w1.heap.size + 1) := fun g hg => by
    rw [hg] at hown
    rcases hown with h | h
    · exact .inl h.symm
    · right; simpa using h
  have hgB : ∀ g, (Value.slice sa sm sc).ownBlock = some g → g ≠ B := fun g hg => by
    rcases hg5 g hg with h | h
    · exact (hevB.out g h).1
    · omega
  have hk6 : ∀ k, k < w.heap.size → k ≠ B → ev.ownBlock ≠ some k → ((W3.setCell ⟨B, 1, none⟩ (.slice sa sm sc)).setCell ⟨B, 3, none⟩ (.bool sw)).heap[k]? = w.heap[k]? := fun k hk h1 h2 =>
    (Below.heap_setCell _ _ _ _ h1).trans ((Below.heap_setCell _ _ _ _ h1).trans ((hgr.block k (Nat.lt_of_lt_of_le hk hbd.size) (fun e => h2 e.symm)).trans (hbd.block k hk)))
  refine ⟨rfl, ow.ext w.heap.size (fun k => (Value.slice sa sm sc).ownBlock = some k) t, ⟨?_, fun k hk => Own.ext_old hk⟩, ⟨by rw [hbeg.out]; simp, bb, .slice sa sm sc, k4.set (o := 3) (.bool sw), ?_, ?_, ?_, ?_⟩⟩
  · exact (((Mod.of_below (fun k => Sub t (ow k)) hbd).trans (Mod.grown (X := fun k => ev.ownBlock = some k) hgr (fun k h => h)) (fun _ _ e => e) (fun k _ e => by rw [o2.out k e]; exact Sub.rfl' t)).thenSet (p := ⟨B, 1, none⟩) (by simp only [o1]; exact Sub.rfl' t) _).thenSet (p := ⟨B, 3, none⟩) (by simp only [o1]; exact Sub.rfl' t) _
  · refine (BookAt.loc bb f.book (t ++ [0])) _ _ _ _ hbk.out ?_ (fun k hk hs => ⟨Own.ext_old hk, hk6 k hk (fun e => ?_) (fun e => ?_)⟩)
    · have := hbd.size; have := hgr.size; simp; omega
    · subst e; rw [o1] at hs; exact not_child_sub t 0 hs
    · rw [o2.out k e] at hs; exact not_child_sub t 0 hs
  · rw [hbeg.out, List.length_append, List.length_singleton, List.flatMap_append]
    exact Row.kept (w := W3) hrow (fun g hg => (Below.heap_setCell _ _ _ _ (hgB g hg)).trans (Below.heap_setCell _ _ _ _ (hgB g hg)))
  · rw [Own.ext_old hBlt, o1]
  · intro g hg
    rcases hg5 g hg with h | h
    · rw [Own.ext_old (hevB.out g h).2, o2.out g h]
    · rw [Own.ext_new (by have := hbd1.size; omega) hg]
end Go.Proofs.YtlfledeldhhllaaGreatDoor
