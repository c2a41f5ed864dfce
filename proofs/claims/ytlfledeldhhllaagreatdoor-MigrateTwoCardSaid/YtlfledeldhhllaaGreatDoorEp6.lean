/- WALKS: epoch's deliver, batch. Condition: the book is one that calls have made; the messages can be read, and are none of the book's blocks. -/
import Derived.Test.YtlfledeldhhllaaGreatDoorEp5
import Derived.Test.YtlfledeldhhllaaGreatDoorEpP
namespace Go.Proofs.YtlfledeldhhllaaGreatDoor
open Go Go.RowKit Go.Shelf Go.Extern.Stop Go.Stop Go.Extern
attribute [local go_sem] Oper.semAt_some wide_fn wide_depth

theorem Step.grownNew {t : List Nat} {ow o1 : Own} {W W1 W2 : World} {row : Option Nat} (h : Step t ow W o1 W1) (hg : W1.grownBy W2 row) (hr : ∀ k, row = some k → W.heap.size ≤ k) : Step t ow W o1 W2 :=
  ⟨h.mod.trans (Mod.grown (X := fun k => row = some k) hg (fun _ h => h)) (fun _ _ e => e) (fun k hk e => by have := hr k e; omega), h.agree⟩
/-- Behind a step what is new is nobody's, but for what the step has taken. -/
theorem Step.cut {t : List Nat} {ow o1 : Own} {W W1 : World} (h : Step t ow W o1 W1) : Step t ow W (o1.cut W1) W1 := ⟨h.mod, fun k hk => (Own.cut_old (Nat.lt_of_lt_of_le hk h.size)).trans (h.agree k hk)⟩
theorem Local.cutHere {t : List Nat} {A : Own → World → Prop} (hA : Local t A) {ow : Own} {w : World} (h : A ow w) : A (ow.cut w) w := hA.cut h (Below.refl _ _)

/-- What was nobody's stays nobody's. -/
theorem Step.free2 {t : List Nat} {ow ow2 : Own} {w W w2 : World} (h : Step t (ow.cut w) W ow2 w2) {k : Nat} (hk : k < w.heap.size) (ho : ow k = []) (hs : w.heap.size ≤ W.heap.size) : ow2 k = [] :=
  (h.agree k (Nat.lt_of_lt_of_le hk hs)).trans ((Own.cut_old hk).trans ho)
/-- What deliver comes to. -/
def DelivPost (bb : Nat) (t : List Nat) (ow : Own) (w : World) (R : BookS × List MsgD) (e : Ending) (w' : World) : Prop :=
  ∃ v ow', e = .returned v ∧ Step t ow w ow' w' ∧ BookAt bb R.1 t ow' w' ∧ Row w' 54 3 v R.2.length (R.2.flatMap msgCells) ∧ (∀ g, v.ownBlock = some g → w.heap.size ≤ g ∧ ow' g = [])
/-- What holds ahead of each round. -/
def DelivAt (bb : Nat) (t : List Nat) (ow : Own) (w : World) (b : BookS) (l : List MsgD) (k : Nat) (v : Value) (W : World) : Prop :=
  k ≤ l.length ∧ ∃ ow1, Step t ow w ow1 W ∧ BookAt bb (deliverP b (l.take k)).1 t ow1 W ∧ Row W 54 3 v (deliverP b (l.take k)).2.length ((deliverP b (l.take k)).2.flatMap msgCells) ∧ (∀ g, v.ownBlock = some g → w.heap.size ≤ g ∧ ow1 g = [])

set_option maxRecDepth 8000 in
set_option maxHeartbeats 1000000 in
theorem deliver_any (B bb : Nat) (b : BookS) (t : List Nat) (ht : t ≠ []) (ow : Own) (mv : Value) (l : List MsgD) (w : World) (hB : w.cell? ⟨B, 0, none⟩ = some (.pointer (some ⟨bb, 0, none⟩))) (hBt : ¬ Sub t (ow B))
    (hb : BookAt bb b t ow w) (hm : MsgsAt w mv l) (hmt : ∀ a l c, mv = .slice (some a) l c → ¬ Sub t (ow a.block)) (hl : bookN b + l.length ≤ 536870912) :
    Calls Tryz.prog 47 #[.pointer (some ⟨B, 0, none⟩), mv] w (DelivPost bb t ow w (deliverP b l)) := by
  have hok := hb.1
  obtain ⟨a, c, rfl⟩ := hm.shape
  have hBl := cell_lt hB
  go_enter Tryz.func47, Tryz.ntmps47
  go_wp2
  go_loopw [5, 12] (fun p5 p12 wr => ∃ k : Nat, p12 = .int .i64 k ∧ DelivAt bb t ow w b l k p5 wr) (fun _ p12 _ => l.length - (intOf p12).toNat)
  case atStart => exact ⟨0, rfl, Nat.zero_le _, ow, Step.refl _ _ _, hb, row_nil _ _ _, by simp [Value.ownBlock]⟩
  case round =>
    obtain ⟨k, rfl, hk, ow1, hs1, hb1, hR1, hn1⟩ := hrel
    by_cases hlt : k < l.length
    · obtain ⟨x, hx⟩ : ∃ x, l[k]? = some x := ⟨_, List.getElem?_eq_getElem hlt⟩
      rcases hm.2 with ⟨h, h'⟩ | ⟨mb, off, cap, h, hc, -⟩
      · omega
      cases h
      have hm1 := hm.step hs1 hmt
      have hcell : ∀ j, j < 3 → wr.cell? ⟨mb, off + (k * 3 + j), none⟩ = (msgCells x)[j]? := fun j hj => by
        have h1 := flatMsg_at l k x hx j hj
        rcases hm1.2 with ⟨h, -⟩ | ⟨mb', off', cap', h, -, hr⟩
        · cases h
        · cases h
          cases hu : (msgCells x)[j]? with
          | none => simp [msgCells] at hu; omega
          | some u => exact hr _ u (h1.trans hu)
      have c0 : wr.cell? ⟨mb, off + k * 3, none⟩ = (msgCells x)[0]? := hcell 0 (by omega)
      have c1 : wr.cell? ⟨mb, off + k * 3 + 1, none⟩ = (msgCells x)[1]? := hcell 1 (by omega)
      have c2 : wr.cell? ⟨mb, off + k * 3 + 2, none⟩ = (msgCells x)[2]? := hcell 2 (by omega)
      have htk : l.take (k + 1) = l.take k ++ [x] := by rw [List.take_add_one, hx]; rfl
      have hdn := deliver_snoc b (l.take k) x
      rw [← htk] at hdn
      have hok1 := deliver_ok hok (l.take k)
      have hlen1 := deliver_len hok (l.take k)
      rw [List.length_take] at hok1 hlen1
      obtain ⟨⟨i, cc⟩, d⟩ := x
      simp only [msgCells, List.getElem?_cons_zero, List.getElem?_cons_succ] at c0 c1 c2
      have eB : wr.cell? ⟨B, 0, none⟩ = some (.pointer (some ⟨bb, 0, none⟩)) := (hs1.cell hBl hBt).trans hB
      have hBl1 := cell_lt eB
      have hB1t : ¬ Sub t (ow1 B) := by rw [hs1.agree B hBl]; exact hBt
      clear hcell hm1
      replace hdn : Hid (_ = _) := hdn
      replace htk : Hid (_ = _) := htk
      replace hx : Hid (_ = _) := hx
      replace hn1 : Hid (∀ _, _) := hn1
      replace hb1 : Hid (BookAt _ _ _ _ _) := hb1
      replace hmt : Hid (∀ _, _) := hmt
      go_wp2
      clear c0 c1 c2
      obtain ⟨W1, hW1⟩ : ∃ W1, W1 = (wr.alloc (.cells #[.int .i64 i, .int .u32 cc, .string (bs d)] 54)).drew := ⟨_, rfl⟩
      have hbw1 : Below wr.heap.size wr W1 := by rw [hW1]; (repeat (first | exact Below.refl _ _ | with_reducible assumption | refine pb_alloc ?_ _ | refine pb_drew ?_ | refine pb_drewN ?_ _ | refine pb_set ?_ (by simp; try omega) _ | refine pb_trans ?_ (by with_reducible assumption)))
      have kx : Blk W1 wr.heap.size #[.int .i64 i, .int .u32 cc, .string (bs d)] 54 := by rw [hW1]; (repeat (first | with_reducible assumption | (refine Blk.new ?_; simp; done) | refine Blk.alloc ?_ _ | refine Blk.drew ?_ | refine Blk.drewN ?_ _ | refine Blk.call ?_ (by with_reducible assumption)))
      have eB1 := (hbw1.cell hBl1).trans eB
      have hsz1 : W1.heap.size = wr.heap.size + 1 := by rw [hW1]; simp
      refine wp_region_sched [(0, true), (1, true), (2, true), (3, true), (4, true), (5, false), (6, true), (7, true), (8, true), (9, true), (10, true)] none (fun w' => Blk w' wr.heap.size #[.int .i64 i, .int .u32 cc, .string (bs d)] 54 ∧ w'.cell? ⟨B, 0, none⟩ = some (.pointer (some ⟨bb, 0, none⟩)) ∧ True) (by kernel_rfl) (by kernel_rfl) (by rw [← hW1]; exact ⟨kx, eB1, trivial⟩) ?_
      rw [← hW1]
      clear hW1 eB
      (repeat (refine wpSched_quiet (v := ?_) rfl rfl (fun w' hS => ?_) (fun K hK => ?_); rotate_left; (focus ((try have e1 := hS.1.cell); (try have e2 := hS.2.1.cell); (try have e3 := hS.2.2.1.cell); (try have e4 := hS.2.2.2.1.cell); (try have f1 := hS.1); (try have f2 := hS.2.1); (try have f3 := hS.2.2.1); (try have f4 := hS.2.2.2.1); (try have f5 := hS.2.2.2.2.1); clear hS; go_simp; (try with_reducible rfl))); (go_simp; refine hK _ ?_; clear hK K)))
      refine wpSched_loud rfl (fun K hK => ?_)
      have htake := take_any bb (deliverP b (l.take k)).1 t ht (ow1.cut wr) ((i, cc), d) W1 ((BookAt.loc bb _ t).cut hb1.out hbw1) (by have := hok1.2.1; unfold bookN at this hl; omega)
      unfold msgV at htake
      replace htake : Hid (Calls _ _ _ _ _) := htake
      go_wp2_with (go_at_call 69; refine htake.out.mono ?_; rintro e w2 ⟨nv, ow2, rfl, hs2, hb2, hR2, hn2⟩; replace hn2 : Hid (∀ _, _) := hn2; replace hb2 : Hid (BookAt _ _ _ _ _) := hb2)
      have hfx := hs2.free ht (Nat.le_refl _) (by omega)
      refine hK.out _ _ (fun _ => ⟨kx.kept hfx.1, (hs2.cell (p := ⟨B, 0, none⟩) (by show B < _; omega) (by rw [Own.cut_old hBl1]; exact hB1t)).trans eB1, trivial⟩) ?_
      clear hK K
      (repeat (refine wpSched_quiet (v := ?_) rfl rfl (fun w' hS => ?_) (fun K hK => ?_); rotate_left; (focus ((try have e1 := hS.1.cell); (try have e2 := hS.2.1.cell); (try have e3 := hS.2.2.1.cell); (try have e4 := hS.2.2.2.1.cell); (try have f1 := hS.1); (try have f2 := hS.2.1); (try have f3 := hS.2.2.1); (try have f4 := hS.2.2.2.1); (try have f5 := hS.2.2.2.2.1); clear hS; go_simp; (try with_reducible rfl))); (go_simp; refine hK _ ?_; clear hK K)))
      refine wpSched_nil ?_
      have hu2 := Hid.out hn1
      have hR1' := (hR1.below hbw1).step hs2 (fun g hg => by rw [Own.cut_old (hR1.lt hg), (hu2 g hg).2]; exact not_sub_nil ht)
      have hlenA : (deliverP b (l.take k)).2.length + (takeP (deliverP b (l.take k)).1 ((i, cc), d)).2.1.length ≤ 1073741824 := by
        have h1 := deliver_len hok (l.take (k + 1))
        rw [hdn.out] at h1
        simp only [List.length_append, List.length_take] at h1
        omega
      clear hu2 eB1 kx
      replace hlenA : Hid (_ ≤ _) := hlenA
      go_wp2_with (at_builtin
                   obtain ⟨v', W3, hrun, hrow, hgr, hown⟩ := row_append msgT hR1' hR2.src (msgCells_one _) hlenA.out 22
                   refine wpList_append_by rfl _ _ _ rfl rfl rfl hrun ?_
                   clear hrun)
      go_roundw
      case rel =>
        have hst : Step t ow w ow2 w2 := hs1.trans (Step.wrap hbw1 hs2)
        have hnv := hn1.out
        have hog : ∀ g, _ := fun g hg => (hs2.free2 (hR1.lt (g := g) hg) (hnv g hg).2 hbw1.size)
        refine ⟨k + 1, by go_num, by omega, ow2.cut w2, (Step.cut hst).grownNew hgr (fun g hg => (hnv g hg).1), ?_, ?_, ?_⟩
        · rw [hdn.out]
          exact (BookAt.loc bb _ t) _ _ _ _ ((BookAt.loc bb _ t).cutHere hb2.out) hgr.size (fun g hg hs => ⟨rfl, hgr.block g hg (fun e => by
            rw [Own.cut_old hg, hog g e.symm] at hs; exact not_sub_nil ht hs)⟩)
        · rw [hdn.out]
          simp only [List.length_append, List.flatMap_append]
          exact hrow
        · intro g hg
          rw [hg] at hown
          rcases hown with h | h
          · exact ⟨(hnv g h.symm).1, by rw [Own.cut_old (hR1'.lt h.symm)]; exact hog g h.symm⟩
          · simp at h
            exact ⟨by rw [h]; exact hst.size, Own.cut_new (by omega)⟩
      case measure => simp [intOf]; omega
    · obtain rfl : k = l.length := by omega
      rw [List.take_length] at hb1 hR1
      replace hn1 : Hid (∀ _, _) := hn1
      replace hb1 : Hid (BookAt _ _ _ _ _) := hb1
      clear hm hmt hB
      go_wp2
      go_ret
      exact ⟨_, ow1, rfl, hs1, hb1.out, hR1, hn1.out⟩
end Go.Proofs.YtlfledeldhhllaaGreatDoor
