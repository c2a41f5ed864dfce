/- PROVED HERE: WALK: the reference's Pack at the message that the node's statements show first. No condition. WALK: the reference's Decode at the bytes that the node's statements show first. No condition. -/
import Derived.Test.YtaopeioebpfdeaaGreatDoorK40
namespace Go.Proofs.YtaopeioebpfdeaaGreatDoor
open Go Go.RowKit Go.Shelf Go.Extern.Stop Go.Stop Go.Extern
attribute [local go_sem] Oper.semAt_some wide_fn wide_depth

set_option maxRecDepth 8000 in
set_option maxHeartbeats 2000000 in
theorem refPack1 (v : Value) (w : World) (hv : Src w v 3 1 [.int .i64 3, .int .u32 1, .string (bs [120])]) : Calls Tryz.prog 122 #[v] w fun e w' => (∃ x : List UInt8, x.length = 11 ∧ e = .returned (.tuple #[.string (bs x), .int .i64 0])) ∧ Below w.heap.size w w' := by
  obtain ⟨g, off, cap, rfl, hr⟩ : ∃ g off cap, v = .slice (some ⟨g, off, none⟩) 1 cap ∧ ∀ (j : Nat) u, [Value.int .i64 3, .int .u32 1, .string (bs [120])][j]? = some u → w.cell? ⟨g, off + j, none⟩ = some u := by
    rcases hv.2 with ⟨-, h⟩ | ⟨g, off, cap, rfl, -, hr⟩
    · cases h
    · exact ⟨g, off, cap, rfl, hr⟩
  have c0 := hr 0 _ rfl
  have c1 := hr 1 _ rfl
  have c2 := hr 2 _ rfl
  have hcl : ∀ W, Below w.heap.size w W → W.cell? ⟨g, off, none⟩ = some (.int .i64 3) ∧ W.cell? ⟨g, off + 1, none⟩ = some (.int .u32 1) ∧ W.cell? ⟨g, off + 2, none⟩ = some (.string (bs [120])) := fun W hW => ⟨(hW.cell (cell_lt c0)).trans c0, (hW.cell (cell_lt c1)).trans c1, (hW.cell (cell_lt c2)).trans c2⟩
  have hcv := refConv
  replace hcv : Hid (∀ _, _) := hcv
  replace hcl : Hid (∀ _, _) := hcl
  have k1 : (convert 87 9 (.slice (some ⟨w.heap.size, 0, none⟩) 1 1)).run Tryz.prog (w.alloc (.cells #[.int .u8 1] 5)) = .ok (.string (strOfNums [1])) (w.alloc (.cells #[.int .u8 1] 5)) := hcv.out w.heap.size [1] _ (Blk.new rfl)
  rw [show strOfNums [1] = bs [1] from rfl] at k1
  clear hv hr
  go_enter Tryz.func122, Tryz.ntmps122
  go_wp2_with fail
  go_loopw [4, 5] (fun p4 p5 wr => Below w.heap.size w wr ∧ ((p5 = .int .i64 0 ∧ p4 = .string (bs [1])) ∨ (p5 = .int .i64 1 ∧ ∃ x : List UInt8, x.length = 11 ∧ p4 = .string (bs x)))) (fun _ p5 _ => 1 - (intOf p5).toNat)
  case atStart => exact ⟨by (repeat (first | exact Below.refl _ _ | with_reducible assumption | refine pb_alloc ?_ _ | refine pb_drew ?_ | refine pb_drewN ?_ _ | refine pb_set ?_ (by simp; try omega) _ | refine pb_trans ?_ (by with_reducible assumption))), .inl ⟨rfl, rfl⟩⟩
  case round =>
    obtain ⟨hb, ⟨rfl, rfl⟩ | ⟨rfl, x, hx, rfl⟩⟩ := hrel
    · obtain ⟨d0, d1, d2⟩ := hcl.out wr hb
      go_wp2_with fail
      refine (refRight1 _).mono ?_
      rintro e w1 ⟨rfl, hb1⟩
      have hb1w := pb_trans hb hb1
      have hcv3 : ∀ W b, W.cell? ⟨b, 0, none⟩ = some (.int .u8 3) → (convert 87 9 (.slice (some ⟨b, 0, none⟩) 1 1)).run Tryz.prog W = .ok (.string (bs [3])) W := fun W b h => conv_one 3 W b h
      have hw3 : IntKind.u8.wrap 3 = 3 := rfl
      have hw1 : IntKind.u32.wrap 1 = 1 := rfl
      have hs1 : (bs [120]).size = 1 := rfl
      obtain ⟨d0, d1, d2⟩ := hcl.out w1 hb1w
      go_wp2_with fail
      clear d0 d1 d2
      have hD : Below w.heap.size w w1.drew := pb_drew hb1w
      refine wp_region_tree (fun x y => Below x.heap.size x y) (fun _ => Below.refl _ _) (by kernel_rfl) ?_
      refine tree_quiet (fun _ => Below.refl _ _) (fun _ _ _ => pb_trans) (i := 0) (v := ?_) (by kernel_rfl) rfl rfl (fun w' hT => ?_) (fun K hK => ?_); rotate_left; (focus (obtain ⟨d0, d1, d2⟩ := hcl.out _ (pb_trans hD hT); go_simp; (try with_reducible rfl))); (go_simp; refine hK _ ?_; clear hK K)
      refine tree_quiet (fun _ => Below.refl _ _) (fun _ _ _ => pb_trans) (i := 1) (v := ?_) (by kernel_rfl) rfl rfl (fun w' hT => ?_) (fun K hK => ?_); rotate_left; (focus (obtain ⟨d0, d1, d2⟩ := hcl.out _ (pb_trans hD hT); go_simp; (try with_reducible rfl))); (go_simp; refine hK _ ?_; clear hK K)
      refine tree_quiet (fun _ => Below.refl _ _) (fun _ _ _ => pb_trans) (i := 2) (v := ?_) (by kernel_rfl) rfl rfl (fun w' hT => ?_) (fun K hK => ?_); rotate_left; (focus (obtain ⟨d0, d1, d2⟩ := hcl.out _ (pb_trans hD hT); go_simp; (try with_reducible rfl))); (go_simp; refine hK _ ?_; clear hK K)
      refine tree_quiet (fun _ => Below.refl _ _) (fun _ _ _ => pb_trans) (i := 3) (v := ?_) (by kernel_rfl) rfl rfl (fun w' hT => ?_) (fun K hK => ?_); rotate_left; (focus (obtain ⟨d0, d1, d2⟩ := hcl.out _ (pb_trans hD hT); go_simp; (try with_reducible rfl))); (go_simp; refine hK _ ?_; clear hK K)
      refine tree_quiet (fun _ => Below.refl _ _) (fun _ _ _ => pb_trans) (i := 4) (v := ?_) (by kernel_rfl) rfl rfl (fun w' hT => ?_) (fun K hK => ?_); rotate_left; (focus (obtain ⟨d0, d1, d2⟩ := hcl.out _ (pb_trans hD hT); go_simp; (try with_reducible rfl))); (go_simp; refine hK _ ?_; clear hK K)
      refine tree_quiet (fun _ => Below.refl _ _) (fun _ _ _ => pb_trans) (i := 5) (v := ?_) (by kernel_rfl) rfl rfl (fun w' hT => ?_) (fun K hK => ?_); rotate_left; (focus (obtain ⟨d0, d1, d2⟩ := hcl.out _ (pb_trans hD hT); go_simp; (try with_reducible rfl))); (go_simp; refine hK _ ?_; clear hK K)
      refine tree_quiet (fun _ => Below.refl _ _) (fun _ _ _ => pb_trans) (i := 6) (v := ?_) (by kernel_rfl) rfl rfl (fun w' hT => ?_) (fun K hK => ?_); rotate_left; (focus (obtain ⟨d0, d1, d2⟩ := hcl.out _ (pb_trans hD hT); go_simp; (try with_reducible rfl))); (go_simp; refine hK _ ?_; clear hK K)
      refine tree_quiet (fun _ => Below.refl _ _) (fun _ _ _ => pb_trans) (i := 7) (v := ?_) (by kernel_rfl) rfl rfl (fun w' hT => ?_) (fun K hK => ?_); rotate_left; (focus (obtain ⟨d0, d1, d2⟩ := hcl.out _ (pb_trans hD hT); go_simp; (try with_reducible rfl))); (go_simp; refine hK _ ?_; clear hK K)
      refine tree_quiet (fun _ => Below.refl _ _) (fun _ _ _ => pb_trans) (i := 11) (v := ?_) (by kernel_rfl) rfl rfl (fun w' hT => ?_) (fun K hK => ?_); rotate_left; (focus (obtain ⟨d0, d1, d2⟩ := hcl.out _ (pb_trans hD hT); go_simp; (try with_reducible rfl))); (go_simp; refine hK _ ?_; clear hK K)
      refine tree_quiet (fun _ => Below.refl _ _) (fun _ _ _ => pb_trans) (i := 12) (v := ?_) (by kernel_rfl) rfl rfl (fun w' hT => ?_) (fun K hK => ?_); rotate_left; (focus (obtain ⟨d0, d1, d2⟩ := hcl.out _ (pb_trans hD hT); go_simp; (try with_reducible rfl))); (go_simp; refine hK _ ?_; clear hK K)
      refine tree_quiet (fun _ => Below.refl _ _) (fun _ _ _ => pb_trans) (i := 13) (v := ?_) (by kernel_rfl) rfl rfl (fun w' hT => ?_) (fun K hK => ?_); rotate_left; (focus (obtain ⟨d0, d1, d2⟩ := hcl.out _ (pb_trans hD hT); go_simp; (try with_reducible rfl))); (go_simp; refine hK _ ?_; clear hK K)
      refine tree_quiet (fun _ => Below.refl _ _) (fun _ _ _ => pb_trans) (i := 14) (v := ?_) (by kernel_rfl) rfl rfl (fun w' hT => ?_) (fun K hK => ?_); rotate_left; (focus (obtain ⟨d0, d1, d2⟩ := hcl.out _ (pb_trans hD hT); go_simp; (try with_reducible rfl))); (go_simp; refine hK _ ?_; clear hK K)
      refine tree_quiet (fun _ => Below.refl _ _) (fun _ _ _ => pb_trans) (i := 15) (v := ?_) (by kernel_rfl) rfl rfl (fun w' hT => ?_) (fun K hK => ?_); rotate_left; (focus (obtain ⟨d0, d1, d2⟩ := hcl.out _ (pb_trans hD hT); go_simp; (try with_reducible rfl))); (go_simp; refine hK _ ?_; clear hK K)
      refine tree_quiet (fun _ => Below.refl _ _) (fun _ _ _ => pb_trans) (i := 16) (v := ?_) (by kernel_rfl) rfl rfl (fun w' hT => ?_) (fun K hK => ?_); rotate_left; (focus (obtain ⟨d0, d1, d2⟩ := hcl.out _ (pb_trans hD hT); go_simp; (try with_reducible rfl))); (go_simp; refine hK _ ?_; clear hK K)
      refine tree_call (fun _ => Below.refl _ _) (fun _ _ _ => pb_trans) (i := 17) (.string (bs [1, 0, 0, 0])) (by kernel_rfl) rfl rfl (fun w' hT => ⟨123, #[.int .u32 1], ?_, refPut1 _⟩) (fun K hK => ?_)
      · go_simp
      go_simp
      refine hK _ ?_
      clear hK K
      refine tree_quiet (fun _ => Below.refl _ _) (fun _ _ _ => pb_trans) (i := 19) (v := ?_) (by kernel_rfl) rfl rfl (fun w' hT => ?_) (fun K hK => ?_); rotate_left; (focus (obtain ⟨d0, d1, d2⟩ := hcl.out _ (pb_trans hD hT); go_simp; (try with_reducible rfl))); (go_simp; refine hK _ ?_; clear hK K)
      refine tree_quiet (fun _ => Below.refl _ _) (fun _ _ _ => pb_trans) (i := 20) (v := ?_) (by kernel_rfl) rfl rfl (fun w' hT => ?_) (fun K hK => ?_); rotate_left; (focus (obtain ⟨d0, d1, d2⟩ := hcl.out _ (pb_trans hD hT); go_simp; (try with_reducible rfl))); (go_simp; refine hK _ ?_; clear hK K)
      refine tree_quiet (fun _ => Below.refl _ _) (fun _ _ _ => pb_trans) (i := 21) (v := ?_) (by kernel_rfl) rfl rfl (fun w' hT => ?_) (fun K hK => ?_); rotate_left; (focus (obtain ⟨d0, d1, d2⟩ := hcl.out _ (pb_trans hD hT); go_simp; (try with_reducible rfl))); (go_simp; refine hK _ ?_; clear hK K)
      refine tree_quiet (fun _ => Below.refl _ _) (fun _ _ _ => pb_trans) (i := 22) (v := ?_) (by kernel_rfl) rfl rfl (fun w' hT => ?_) (fun K hK => ?_); rotate_left; (focus (obtain ⟨d0, d1, d2⟩ := hcl.out _ (pb_trans hD hT); go_simp; (try with_reducible rfl))); (go_simp; refine hK _ ?_; clear hK K)
      refine tree_quiet (fun _ => Below.refl _ _) (fun _ _ _ => pb_trans) (i := 23) (v := ?_) (by kernel_rfl) rfl rfl (fun w' hT => ?_) (fun K hK => ?_); rotate_left; (focus (obtain ⟨d0, d1, d2⟩ := hcl.out _ (pb_trans hD hT); go_simp; (try with_reducible rfl))); (go_simp; refine hK _ ?_; clear hK K)
      refine tree_quiet (fun _ => Below.refl _ _) (fun _ _ _ => pb_trans) (i := 24) (v := ?_) (by kernel_rfl) rfl rfl (fun w' hT => ?_) (fun K hK => ?_); rotate_left; (focus (obtain ⟨d0, d1, d2⟩ := hcl.out _ (pb_trans hD hT); go_simp; (try with_reducible rfl))); (go_simp; refine hK _ ?_; clear hK K)
      refine tree_quiet (fun _ => Below.refl _ _) (fun _ _ _ => pb_trans) (i := 25) (v := ?_) (by kernel_rfl) rfl rfl (fun w' hT => ?_) (fun K hK => ?_); rotate_left; (focus (obtain ⟨d0, d1, d2⟩ := hcl.out _ (pb_trans hD hT); go_simp; (try with_reducible rfl))); (go_simp; refine hK _ ?_; clear hK K)
      refine tree_call (fun _ => Below.refl _ _) (fun _ _ _ => pb_trans) (i := 26) (.string (bs [1, 0, 0, 0])) (by kernel_rfl) rfl rfl (fun w' hT => ⟨123, #[.int .u32 1], ?_, refPut1 _⟩) (fun K hK => ?_)
      · go_simp
      go_simp
      refine hK _ ?_
      clear hK K
      refine tree_quiet (fun _ => Below.refl _ _) (fun _ _ _ => pb_trans) (i := 28) (v := ?_) (by kernel_rfl) rfl rfl (fun w' hT => ?_) (fun K hK => ?_); rotate_left; (focus (obtain ⟨d0, d1, d2⟩ := hcl.out _ (pb_trans hD hT); go_simp; (try with_reducible rfl))); (go_simp; refine hK _ ?_; clear hK K)
      refine tree_quiet (fun _ => Below.refl _ _) (fun _ _ _ => pb_trans) (i := 29) (v := ?_) (by kernel_rfl) rfl rfl (fun w' hT => ?_) (fun K hK => ?_); rotate_left; (focus (obtain ⟨d0, d1, d2⟩ := hcl.out _ (pb_trans hD hT); go_simp; (try with_reducible rfl))); (go_simp; refine hK _ ?_; clear hK K)
      refine tree_quiet (fun _ => Below.refl _ _) (fun _ _ _ => pb_trans) (i := 30) (v := ?_) (by kernel_rfl) rfl rfl (fun w' hT => ?_) (fun K hK => ?_); rotate_left; (focus (obtain ⟨d0, d1, d2⟩ := hcl.out _ (pb_trans hD hT); go_simp; (try with_reducible rfl))); (go_simp; refine hK _ ?_; clear hK K)
      refine tree_quiet (fun _ => Below.refl _ _) (fun _ _ _ => pb_trans) (i := 31) (v := ?_) (by kernel_rfl) rfl rfl (fun w' hT => ?_) (fun K hK => ?_); rotate_left; (focus (obtain ⟨d0, d1, d2⟩ := hcl.out _ (pb_trans hD hT); go_simp; (try with_reducible rfl))); (go_simp; refine hK _ ?_; clear hK K)
      refine tree_quiet (fun _ => Below.refl _ _) (fun _ _ _ => pb_trans) (i := 32) (v := ?_) (by kernel_rfl) rfl rfl (fun w' hT => ?_) (fun K hK => ?_); rotate_left; (focus (obtain ⟨d0, d1, d2⟩ := hcl.out _ (pb_trans hD hT); go_simp; (try with_reducible rfl))); (go_simp; refine hK _ ?_; clear hK K)
      refine tree_one (i := 8) (by kernel_rfl) (fun w2 hT2 => ?_)
      refine tree_loud rfl (fun K hK => ?_)
      have k2 := Blk.new (w := w2) (cs := #[.int .u8 3]) (t := 5) rfl
      go_wp2
      refine hK.out _ _ (pb_alloc (Below.refl _ _) _) ?_
      clear hK K
      have e9 := k2.cell 0
      have l9 := k2.lt
      clear k2
      refine tree_quiet (fun _ => Below.refl _ _) (fun _ _ _ => pb_trans) (i := 9) (v := .string (bs [3])) (by kernel_rfl) rfl rfl (fun w' hT => ?_) (fun K hK => ?_)
      · have q1 := hcv3 w' w2.heap.size ((hT.cell (p := ⟨w2.heap.size, 0, none⟩) l9).trans e9)
        go_simp
      go_simp
      refine hK _ ?_
      clear hK K
      have a1 := bs_add [1] [3] (by decide)
      have a2 := bs_add [1, 3] [1, 0, 0, 0] (by decide)
      have a3 := bs_add [1, 3, 1, 0, 0, 0] [1, 0, 0, 0] (by decide)
      have a4 := bs_add [1, 3, 1, 0, 0, 0, 1, 0, 0, 0] [120] (by decide)
      simp only [List.cons_append, List.nil_append] at a1 a2 a3 a4
      refine tree_quiet (fun _ => Below.refl _ _) (fun _ _ _ => pb_trans) (i := 10) (v := ?_) (by kernel_rfl) rfl rfl (fun w' hT => ?_) (fun K hK => ?_); rotate_left; (focus (go_simp; (try with_reducible rfl))); (go_simp; refine hK _ ?_; clear hK K)
      refine tree_quiet (fun _ => Below.refl _ _) (fun _ _ _ => pb_trans) (i := 18) (v := ?_) (by kernel_rfl) rfl rfl (fun w' hT => ?_) (fun K hK => ?_); rotate_left; (focus (go_simp; (try with_reducible rfl))); (go_simp; refine hK _ ?_; clear hK K)
      refine tree_quiet (fun _ => Below.refl _ _) (fun _ _ _ => pb_trans) (i := 27) (v := ?_) (by kernel_rfl) rfl rfl (fun w' hT => ?_) (fun K hK => ?_); rotate_left; (focus (go_simp; (try with_reducible rfl))); (go_simp; refine hK _ ?_; clear hK K)
      refine tree_quiet (fun _ => Below.refl _ _) (fun _ _ _ => pb_trans) (i := 33) (v := ?_) (by kernel_rfl) rfl rfl (fun w' hT => ?_) (fun K hK => ?_); rotate_left; (focus (go_simp; (try with_reducible rfl))); (go_simp; refine hK _ ?_; clear hK K)
      refine tree_quiet (fun _ => Below.refl _ _) (fun _ _ _ => pb_trans) (i := 34) (v := ?_) (by kernel_rfl) rfl rfl (fun w' hT => ?_) (fun K hK => ?_); rotate_left; (focus (go_simp; (try with_reducible rfl))); (go_simp; refine hK _ ?_; clear hK K)
      refine tree_done (by kernel_rfl) (fun w3 hT3 => ?_)
      have hb3 := pb_trans (pb_alloc (pb_trans hD hT2) (.cells #[.int .u8 3] 5)) hT3
      go_wp2
      go_roundw
      case rel => exact ⟨hb3, .inr ⟨rfl, _, rfl, rfl⟩⟩
      case measure => simp [intOf]
    · go_wp2
      go_ret2
      exact ⟨⟨x, hx, rfl⟩, hb⟩
set_option maxRecDepth 8000 in
set_option maxHeartbeats 2000000 in
theorem refBytes1 (v : Value) (w : World) (hv : Src w v 3 1 [.int .i64 3, .int .u32 1, .string (bs [120])]) : Calls Tryz.prog 90 #[.agg #[.int .i64 1, .int .u32 1, .int .i64 0, v]] w fun e w' => (∃ s, e = .returned (.tuple #[s, .bool true])) ∧ Below w.heap.size w w' := by
  have hpk := fun W (hW : Below w.heap.size w W) => refPack1 v W (hv.below hW)
  obtain ⟨ba, bc, rfl⟩ : ∃ a c, v = .slice a 1 c := by
    rcases hv.2 with ⟨-, h⟩ | ⟨g, off, cap, h, -⟩
    · cases h
    · exact ⟨_, _, h⟩
  have hcv : ∀ W b, W.cell? ⟨b, 0, none⟩ = some (.int .u8 1) → (convert 87 9 (.slice (some ⟨b, 0, none⟩) 1 1)).run Tryz.prog W = .ok (.string (bs [1])) W := fun W b h => conv_one 1 W b h
  have hcv0 : ∀ W b, W.cell? ⟨b, 0, none⟩ = some (.int .u8 0) → (convert 87 9 (.slice (some ⟨b, 0, none⟩) 1 1)).run Tryz.prog W = .ok (.string (bs [0])) W := fun W b h => conv_one 0 W b h
  have hw1 : IntKind.u8.wrap 1 = 1 := rfl
  have hw0 : IntKind.u8.wrap 0 = 0 := rfl
  replace hpk : Hid (∀ _ _, _) := hpk
  replace hcv : Hid (∀ _ _ _, _) := hcv
  replace hcv0 : Hid (∀ _ _ _, _) := hcv0
  clear hv
  go_enter Tryz.func90, Tryz.ntmps90
  go_wp2_with fail
  refine (hpk.out _ (by (repeat (first | exact Below.refl _ _ | with_reducible assumption | refine pb_alloc ?_ _ | refine pb_drew ?_ | refine pb_drewN ?_ _ | refine pb_set ?_ (by simp; try omega) _ | refine pb_trans ?_ (by with_reducible assumption))))).mono ?_
  rintro e w1 ⟨⟨x, hxl, rfl⟩, hb1⟩
  have kb : Blk w1 w.heap.size #[.int .i64 1, .int .u32 1, .int .i64 0, .slice ba 1 bc] 65 := Blk.call (Blk.new rfl) hb1
  have hbw1 : Below w.heap.size w w1 := by (repeat (first | exact Below.refl _ _ | with_reducible assumption | refine pb_alloc ?_ _ | refine pb_drew ?_ | refine pb_drewN ?_ _ | refine pb_set ?_ (by simp; try omega) _ | refine pb_trans ?_ (by with_reducible assumption)))
  have kd := kb.drew
  have c1 := kb.cell
  go_wp2_with fail
  clear c1
  refine wp_region_tree (fun x y => Below x.heap.size x y) (fun _ => Below.refl _ _) (by kernel_rfl) ?_
  refine tree_quiet (fun _ => Below.refl _ _) (fun _ _ _ => pb_trans) (i := 0) (v := ?_) (by kernel_rfl) rfl rfl (fun w' hT => ?_) (fun K hK => ?_); rotate_left; (focus (have ck := (kd.call hT).cell; go_simp; (try with_reducible rfl))); (go_simp; refine hK _ ?_; clear hK K)
  refine tree_quiet (fun _ => Below.refl _ _) (fun _ _ _ => pb_trans) (i := 1) (v := ?_) (by kernel_rfl) rfl rfl (fun w' hT => ?_) (fun K hK => ?_); rotate_left; (focus (have ck := (kd.call hT).cell; go_simp; (try with_reducible rfl))); (go_simp; refine hK _ ?_; clear hK K)
  refine tree_quiet (fun _ => Below.refl _ _) (fun _ _ _ => pb_trans) (i := 2) (v := ?_) (by kernel_rfl) rfl rfl (fun w' hT => ?_) (fun K hK => ?_); rotate_left; (focus (have ck := (kd.call hT).cell; go_simp; (try with_reducible rfl))); (go_simp; refine hK _ ?_; clear hK K)
  refine tree_quiet (fun _ => Below.refl _ _) (fun _ _ _ => pb_trans) (i := 5) (v := ?_) (by kernel_rfl) rfl rfl (fun w' hT => ?_) (fun K hK => ?_); rotate_left; (focus (have ck := (kd.call hT).cell; go_simp; (try with_reducible rfl))); (go_simp; refine hK _ ?_; clear hK K)
  refine tree_quiet (fun _ => Below.refl _ _) (fun _ _ _ => pb_trans) (i := 6) (v := ?_) (by kernel_rfl) rfl rfl (fun w' hT => ?_) (fun K hK => ?_); rotate_left; (focus (have ck := (kd.call hT).cell; go_simp; (try with_reducible rfl))); (go_simp; refine hK _ ?_; clear hK K)
  refine tree_call (fun _ => Below.refl _ _) (fun _ _ _ => pb_trans) (i := 7) (.string (bs [1, 0, 0, 0])) (by kernel_rfl) rfl rfl (fun w' hT => ⟨123, #[.int .u32 1], ?_, refPut1 _⟩) (fun K hK => ?_)
  · go_simp
  go_simp
  refine hK _ ?_
  clear hK K
  refine tree_quiet (fun _ => Below.refl _ _) (fun _ _ _ => pb_trans) (i := 9) (v := ?_) (by kernel_rfl) rfl rfl (fun w' hT => ?_) (fun K hK => ?_); rotate_left; (focus (have ck := (kd.call hT).cell; go_simp; (try with_reducible rfl))); (go_simp; refine hK _ ?_; clear hK K)
  refine tree_quiet (fun _ => Below.refl _ _) (fun _ _ _ => pb_trans) (i := 10) (v := ?_) (by kernel_rfl) rfl rfl (fun w' hT => ?_) (fun K hK => ?_); rotate_left; (focus (have ck := (kd.call hT).cell; go_simp; (try with_reducible rfl))); (go_simp; refine hK _ ?_; clear hK K)
  refine tree_quiet (fun _ => Below.refl _ _) (fun _ _ _ => pb_trans) (i := 11) (v := ?_) (by kernel_rfl) rfl rfl (fun w' hT => ?_) (fun K hK => ?_); rotate_left; (focus (have ck := (kd.call hT).cell; go_simp; (try with_reducible rfl))); (go_simp; refine hK _ ?_; clear hK K)
  refine tree_quiet (fun _ => Below.refl _ _) (fun _ _ _ => pb_trans) (i := 15) (v := ?_) (by kernel_rfl) rfl rfl (fun w' hT => ?_) (fun K hK => ?_); rotate_left; (focus (have ck := (kd.call hT).cell; go_simp; (try with_reducible rfl))); (go_simp; refine hK _ ?_; clear hK K)
  have a1 := bs_add [1] [1, 0, 0, 0] (by decide)
  have a2 := bs_add [1, 1, 0, 0, 0] [0] (by decide)
  have a3 := bs_add [1, 1, 0, 0, 0, 0] x (by rw [hxl]; decide)
  simp only [List.cons_append, List.nil_append] at a1 a2 a3
  have hsz : (bs (1 :: 1 :: 0 :: 0 :: 0 :: 0 :: x)).size = 17 := by rw [bs_size]; simp [hxl]
  refine tree_two (i := 3) (k := 12) (by kernel_rfl) (fun w2 hT2 => ?_) (fun w2 hT2 => ?_)
  ·
    refine tree_loud rfl (fun K hK => ?_)
    have k2 := Blk.new (w := w2) (cs := #[.int .u8 1]) (t := 5) rfl
    go_wp2
    refine hK.out _ _ (pb_alloc (Below.refl _ _) _) ?_
    clear hK K
    have e9 := k2.cell 0
    have l9 := k2.lt
    clear k2
    refine tree_quiet (fun _ => Below.refl _ _) (fun _ _ _ => pb_trans) (i := 4) (v := .string (bs [1])) (by kernel_rfl) rfl rfl (fun w' hT => ?_) (fun K hK => ?_)
    · have q1 := hcv.out w' w2.heap.size ((hT.cell (p := ⟨w2.heap.size, 0, none⟩) l9).trans e9)
      go_simp
    go_simp
    refine hK _ ?_
    clear hK K e9 l9
    refine tree_quiet (fun _ => Below.refl _ _) (fun _ _ _ => pb_trans) (i := 8) (v := ?_) (by kernel_rfl) rfl rfl (fun w' hT => ?_) (fun K hK => ?_); rotate_left; (focus (go_simp; (try with_reducible rfl))); (go_simp; refine hK _ ?_; clear hK K)
    have hb2 := pb_alloc (pb_trans (pb_drew hbw1) hT2) (.cells #[.int .u8 1] 5)
    refine tree_one (i := 12) (by kernel_rfl) (fun w3 hT3 => ?_)
    refine tree_loud rfl (fun K hK => ?_)
    have k2 := Blk.new (w := w3) (cs := #[.int .u8 0]) (t := 5) rfl
    go_wp2
    refine hK.out _ _ (pb_alloc (Below.refl _ _) _) ?_
    clear hK K
    have e9 := k2.cell 0
    have l9 := k2.lt
    clear k2
    refine tree_quiet (fun _ => Below.refl _ _) (fun _ _ _ => pb_trans) (i := 13) (v := .string (bs [0])) (by kernel_rfl) rfl rfl (fun w' hT => ?_) (fun K hK => ?_)
    · have q1 := hcv0.out w' w3.heap.size ((hT.cell (p := ⟨w3.heap.size, 0, none⟩) l9).trans e9)
      go_simp
    go_simp
    refine hK _ ?_
    clear hK K e9 l9
    refine tree_quiet (fun _ => Below.refl _ _) (fun _ _ _ => pb_trans) (i := 14) (v := ?_) (by kernel_rfl) rfl rfl (fun w' hT => ?_) (fun K hK => ?_); rotate_left; (focus (go_simp; (try with_reducible rfl))); (go_simp; refine hK _ ?_; clear hK K)
    refine tree_quiet (fun _ => Below.refl _ _) (fun _ _ _ => pb_trans) (i := 16) (v := ?_) (by kernel_rfl) rfl rfl (fun w' hT => ?_) (fun K hK => ?_); rotate_left; (focus (go_simp; (try with_reducible rfl))); (go_simp; refine hK _ ?_; clear hK K)
    refine tree_quiet (fun _ => Below.refl _ _) (fun _ _ _ => pb_trans) (i := 17) (v := ?_) (by kernel_rfl) rfl rfl (fun w' hT => ?_) (fun K hK => ?_); rotate_left; (focus (go_simp; (try with_reducible rfl))); (go_simp; refine hK _ ?_; clear hK K)
    refine tree_done (by kernel_rfl) (fun w4 hT4 => ?_)
    have hb4 := pb_trans (pb_alloc (pb_trans hb2 hT3) (.cells #[.int .u8 0] 5)) hT4
    go_wp2
    go_ret2
    exact ⟨⟨_, rfl⟩, hb4⟩
  ·
    refine tree_loud rfl (fun K hK => ?_)
    have k2 := Blk.new (w := w2) (cs := #[.int .u8 0]) (t := 5) rfl
    go_wp2
    refine hK.out _ _ (pb_alloc (Below.refl _ _) _) ?_
    clear hK K
    have e9 := k2.cell 0
    have l9 := k2.lt
    clear k2
    refine tree_quiet (fun _ => Below.refl _ _) (fun _ _ _ => pb_trans) (i := 13) (v := .string (bs [0])) (by kernel_rfl) rfl rfl (fun w' hT => ?_) (fun K hK => ?_)
    · have q1 := hcv0.out w' w2.heap.size ((hT.cell (p := ⟨w2.heap.size, 0, none⟩) l9).trans e9)
      go_simp
    go_simp
    refine hK _ ?_
    clear hK K e9 l9
    have hb2 := pb_alloc (pb_trans (pb_drew hbw1) hT2) (.cells #[.int .u8 0] 5)
    refine tree_one (i := 3) (by kernel_rfl) (fun w3 hT3 => ?_)
    refine tree_loud rfl (fun K hK => ?_)
    have k2 := Blk.new (w := w3) (cs := #[.int .u8 1]) (t := 5) rfl
    go_wp2
    refine hK.out _ _ (pb_alloc (Below.refl _ _) _) ?_
    clear hK K
    have e9 := k2.cell 0
    have l9 := k2.lt
    clear k2
    refine tree_quiet (fun _ => Below.refl _ _) (fun _ _ _ => pb_trans) (i := 4) (v := .string (bs [1])) (by kernel_rfl) rfl rfl (fun w' hT => ?_) (fun K hK => ?_)
    · have q1 := hcv.out w' w3.heap.size ((hT.cell (p := ⟨w3.heap.size, 0, none⟩) l9).trans e9)
      go_simp
    go_simp
    refine hK _ ?_
    clear hK K e9 l9
    refine tree_quiet (fun _ => Below.refl _ _) (fun _ _ _ => pb_trans) (i := 8) (v := ?_) (by kernel_rfl) rfl rfl (fun w' hT => ?_) (fun K hK => ?_); rotate_left; (focus (go_simp; (try with_reducible rfl))); (go_simp; refine hK _ ?_; clear hK K)
    refine tree_quiet (fun _ => Below.refl _ _) (fun _ _ _ => pb_trans) (i := 14) (v := ?_) (by kernel_rfl) rfl rfl (fun w' hT => ?_) (fun K hK => ?_); rotate_left; (focus (go_simp; (try with_reducible rfl))); (go_simp; refine hK _ ?_; clear hK K)
    refine tree_quiet (fun _ => Below.refl _ _) (fun _ _ _ => pb_trans) (i := 16) (v := ?_) (by kernel_rfl) rfl rfl (fun w' hT => ?_) (fun K hK => ?_); rotate_left; (focus (go_simp; (try with_reducible rfl))); (go_simp; refine hK _ ?_; clear hK K)
    refine tree_quiet (fun _ => Below.refl _ _) (fun _ _ _ => pb_trans) (i := 17) (v := ?_) (by kernel_rfl) rfl rfl (fun w' hT => ?_) (fun K hK => ?_); rotate_left; (focus (go_simp; (try with_reducible rfl))); (go_simp; refine hK _ ?_; clear hK K)
    refine tree_done (by kernel_rfl) (fun w4 hT4 => ?_)
    have hb4 := pb_trans (pb_alloc (pb_trans hb2 hT3) (.cells #[.int .u8 1] 5)) hT4
    go_wp2
    go_ret2
    exact ⟨⟨_, rfl⟩, hb4⟩
end Go.Proofs.YtaopeioebpfdeaaGreatDoor
namespace Go.Proofs.YtaopeioebpfdeaaGreatDoor
open Go Go.RowKit Go.Shelf Go.Extern.Stop Go.Stop Go.Extern
attribute [local go_sem] Oper.semAt_some wide_fn wide_depth

set_option maxRecDepth 8000 in
theorem refRight14 (v : Value) (w : World) (hv : Src w v 3 1 [.int .i64 3, .int .u32 1, .string (bs [120])]) : Calls Tryz.prog 56 #[.agg #[.int .i64 1, .int .u32 1, .int .i64 0, v]] w fun e w' => e = .returned (.bool true) ∧ Below w.heap.size w w' := by
  have hby := fun W (hW : Below w.heap.size w W) => refBytes1 v W (hv.below hW)
  obtain ⟨ba, bc, rfl⟩ : ∃ a c, v = .slice a 1 c := by
    rcases hv.2 with ⟨-, h⟩ | ⟨g, off, cap, h, -⟩
    · cases h
    · exact ⟨_, _, h⟩
  replace hby : Hid (∀ _ _, _) := hby
  clear hv
  go_enter Tryz.func56, Tryz.ntmps56
  go_wp2_with fail
  refine (hby.out _ (by (repeat (first | exact Below.refl _ _ | with_reducible assumption | refine pb_alloc ?_ _ | refine pb_drew ?_ | refine pb_drewN ?_ _ | refine pb_set ?_ (by simp; try omega) _ | refine pb_trans ?_ (by with_reducible assumption))))).mono ?_
  rintro e w1 ⟨⟨s, rfl⟩, hb1⟩
  go_wp2
  go_ret
  exact ⟨rfl, by (repeat (first | exact Below.refl _ _ | with_reducible assumption | refine pb_alloc ?_ _ | refine pb_drew ?_ | refine pb_drewN ?_ _ | refine pb_set ?_ (by simp; try omega) _ | refine pb_trans ?_ (by with_reducible assumption)))⟩
/-- What Decode of the one entry's bytes comes to. -/
def RefDecodePost (w : World) (e : Ending) (w' : World) : Prop :=
  ∃ v, e = .returned (.tuple #[.agg #[.int .i64 1, .int .u32 1, .int .i64 0, v], .int .i64 0]) ∧ Below w.heap.size w w' ∧ Row w' 34 3 v 1 [.int .i64 3, .int .u32 1, .string (bs [120])] ∧ ∀ g, v.ownBlock = some g → w.heap.size ≤ g
set_option maxRecDepth 8000 in
set_option maxHeartbeats 2000000 in
theorem refDecode1 (w : World) : Calls Tryz.prog 28 #[.string (bs [1, 1, 0, 0, 0, 0, 1, 3, 1, 0, 0, 0, 1, 0, 0, 0, 120])] w (RefDecodePost w) := by
  obtain ⟨s, hs⟩ : ∃ s, s = bs [1, 1, 0, 0, 0, 0, 1, 3, 1, 0, 0, 0, 1, 0, 0, 0, 120] := ⟨_, rfl⟩
  have hsz : s.size = 17 := by rw [hs]; rfl
  have x0 : ∀ h : 0 < s.size, s[0] = 1 := by rw [hs]; intro h; rfl
  have x5 : ∀ h : 5 < s.size, s[5] = 0 := by rw [hs]; intro h; rfl
  have e1 : s.extract 1 5 = bs [1, 0, 0, 0] := by rw [hs]; rfl
  have e2 : s.extract 6 17 = bs [1, 3, 1, 0, 0, 0, 1, 0, 0, 0, 120] := by rw [hs]; rfl
  have hun := fun W => refUnpack1 W
  unfold RefUnpackPost at hun
  rw [← hs]
  replace hs : Hid (_ = _) := hs
  replace hun : Hid (∀ _, _) := hun
  go_enter Tryz.func28, Tryz.ntmps28
  go_wp2_with fail
  refine (refGet1 _).mono ?_
  rintro e w1 ⟨rfl, hb1⟩
  have k1 : Blk w1 w.heap.size #[.int .i64 0, .int .u32 0, .int .i64 0, .slice none 0 0] 65 := Blk.call (Blk.new rfl) hb1
  have hbw1 : Below w.heap.size w w1 := by (repeat (first | exact Below.refl _ _ | with_reducible assumption | refine pb_alloc ?_ _ | refine pb_drew ?_ | refine pb_drewN ?_ _ | refine pb_set ?_ (by simp; try omega) _ | refine pb_trans ?_ (by with_reducible assumption)))
  go_wp2_with fail
  refine (hun.out _).mono ?_
  rintro e w2 ⟨v, rfl, hb2, hR2, hn2⟩
  obtain ⟨la, lc, rfl⟩ := hR2.src.shape
  have k2 := k1.call hb2
  have hbw2 := pb_trans hbw1 hb2
  replace hR2 : Hid (Row _ _ _ _ _ _) := hR2
  replace hn2 : Hid (∀ _, _) := hn2
  clear k1
  go_wp2_with fail
  apply wp_one (Wp := fun w' => Below w2.heap.size w2 w' ∧ Blk w' w2.heap.size #[.int .i64 1, .int .u32 1, .int .i64 0, .slice la 1 lc] 65)
  case h =>
    go_region_with fail
    all_goals go_simp
    all_goals exact sameAt ⟨by (repeat (first | exact Below.refl _ _ | with_reducible assumption | refine pb_alloc ?_ _ | refine pb_drew ?_ | refine pb_drewN ?_ _ | refine pb_set ?_ (by simp; try omega) _ | refine pb_trans ?_ (by with_reducible assumption))), by (repeat (first | with_reducible assumption | (refine Blk.new ?_; simp; done) | refine Blk.alloc ?_ _ | refine Blk.drew ?_ | refine Blk.drewN ?_ _ | refine Blk.call ?_ (by with_reducible assumption)))⟩
  case' h2 =>
  rintro w3 ⟨hb3, kM3⟩
  have cM3 := kM3.cell
  have k3 := k2.call hb3
  have hR3 := hR2.out.below hb3
  have hrt := refRight14 _ _ hR3.src
  replace hrt : Hid (Calls _ _ _ _ _) := hrt
  replace hR3 : Hid (Row _ _ _ _ _ _) := hR3
  go_wp2_with fail
  refine hrt.out.mono ?_
  rintro e w4 ⟨rfl, hb4⟩
  have kM4 := kM3.call hb4
  have kA4 := k3.call hb4
  have hR4 := hR3.out.below hb4
  have hbw4 := pb_trans (pb_trans hbw2 hb3) hb4
  have cM4 := kM4.cell
  have cA4 := kA4.cell
  have fA4 := kA4.frozen
  have lA4 := kA4.lt
  have rr := ((((kA4.set (o := 0) (.int .i64 1)).set (o := 1) (.int .u32 1)).set (o := 2) (.int .i64 0)).set (o := 3) (.slice la 1 lc)).cell
  replace hR4 : Hid (Row _ _ _ _ _ _) := hR4
  clear hrt cM3
  go_wp2
  have hz1 := hb1.size
  simp at hz1
  have hM : Mod (fun k => k = w.heap.size) w4 ((((w4.setCell ⟨w.heap.size, 0, none⟩ (.int .i64 1)).setCell ⟨w.heap.size, 1, none⟩ (.int .u32 1)).setCell ⟨w.heap.size, 2, none⟩ (.int .i64 0)).setCell ⟨w.heap.size, 3, none⟩ (.slice la 1 lc)) :=
    ((((Mod.refl (fun k => k = w.heap.size) w4).thenSet (p := ⟨w.heap.size, 0, none⟩) rfl _).thenSet (p := ⟨w.heap.size, 1, none⟩) rfl _).thenSet (p := ⟨w.heap.size, 2, none⟩) rfl _).thenSet (p := ⟨w.heap.size, 3, none⟩) rfl _
  exact bodyPost_ret (v := .tuple #[.agg #[.int .i64 1, .int .u32 1, .int .i64 0, .slice la 1 lc], .int .i64 0]) (by simp [results, Tryz.results28, go_sem, rr]) rfl
    ⟨_, rfl, hbw4.trans (hM.to_below (by omega) (fun k _ e => by omega)), hR4.out.mod hM (fun g hg e => by have := hn2.out g hg; omega), fun g hg => by have := hn2.out g hg; omega⟩
end Go.Proofs.YtaopeioebpfdeaaGreatDoor
