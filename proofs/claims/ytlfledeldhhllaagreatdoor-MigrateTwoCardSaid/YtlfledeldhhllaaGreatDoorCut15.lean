/- WALK: rostrumlaw15.cut. Condition: the messages came in as arguments do. -/
import Derived.Test.YtlfledeldhhllaaGreatDoorCut
namespace Go.Proofs.YtlfledeldhhllaaGreatDoor
open Go Go.RowKit Go.Shelf Go.Extern.Stop Go.Stop Go.Extern
attribute [local go_sem] Oper.semAt_some wide_fn wide_depth

set_option maxRecDepth 8000 in
set_option maxHeartbeats 1000000 in
theorem cut15_any (e : EntryD) (mv : Value) (w : World) (hm : MsgsIn w mv e.msgs) (hok : MsgsOk e.msgs) : Calls Tryz.prog 9 #[entV e mv] w (CutPost e w) := by
  obtain ⟨hl, hd⟩ := hok
  unfold entV
  rcases hm with hm | ⟨za, rfl, hnil⟩
  rcases hm.2 with ⟨rfl, hn⟩ | ⟨mb, off, cap, rfl, hc, -⟩
  · have hnil : e.msgs = [] := List.eq_nil_of_length_eq_zero hn
    have hcut := fun W => cutL_any (.slice none 0 0) [] W ⟨rfl, .inl ⟨rfl, rfl⟩⟩ (by simp) (by simp)
    have hce : (cutE e).msgs = cutL [] := by unfold cutE; simp [hnil]
    clear hm hd hl hn
    replace hnil : Hid (_ = _) := hnil
    replace hce : Hid (_ = _) := hce
    replace hcut : Hid (∀ _, _) := hcut
    go_enter Tryz.func9, Tryz.ntmps9
    go_wp2_with (go_at_call 26; refine (hcut.out _).mono ?_; rintro r w1 ⟨v', rfl, hR, hb, hf⟩; replace hf : Hid (∀ _, _) := hf
                 obtain ⟨sa, sm, sc, rfl⟩ := hR.shape
                 have kb : Blk w1 w.heap.size #[.int .i64 e.kind, .int .u32 e.epoch, .int .i64 e.ver, .slice none 0 0] 32 := Blk.call ((Blk.new rfl).alloc _) hb
                 have kz : Blk w1 (w.heap.size + 1) #[.int .i64 0, .int .u32 0, .int .i64 0, .slice none 0 0] 32 := Blk.call (Blk.new (by simp)) hb
                 have eb := kb.cell
                 have ez := kz.cell
                 have fb := kb.frozen
                 have fz := kz.frozen
                 have lb := kb.lt
                 have lz := kz.lt)
    have hbw : Below w.heap.size w w1 := pb_trans (pb_alloc (pb_alloc (Below.refl _ _) _) _) hb
    have kzf := ((((kz.other (p := ⟨w.heap.size, 3, none⟩) (by simp) (.slice sa sm sc)).set (o := 0) (.int .i64 e.kind)).set (o := 1) (.int .u32 e.epoch)).set (o := 2) (.int .i64 e.ver)).set (o := 3) (.slice sa sm sc)
    have ezf := kzf.cell
    have hmod : Mod (fun k => k = w.heap.size ∨ k = w.heap.size + 1) w1 (((((w1.setCell ⟨w.heap.size, 3, none⟩ (.slice sa sm sc)).setCell ⟨w.heap.size + 1, 0, none⟩ (.int .i64 e.kind)).setCell ⟨w.heap.size + 1, 1, none⟩ (.int .u32 e.epoch)).setCell ⟨w.heap.size + 1, 2, none⟩ (.int .i64 e.ver)).setCell ⟨w.heap.size + 1, 3, none⟩ (.slice sa sm sc)) :=
      (((((Mod.refl _ w1).thenSet (p := ⟨w.heap.size, 3, none⟩) (.inl rfl) _).thenSet (p := ⟨w.heap.size + 1, 0, none⟩) (.inr rfl) _).thenSet (p := ⟨w.heap.size + 1, 1, none⟩) (.inr rfl) _).thenSet (p := ⟨w.heap.size + 1, 2, none⟩) (.inr rfl) _).thenSet (p := ⟨w.heap.size + 1, 3, none⟩) (.inr rfl) _
    clear eb ez fb fz
    exact bodyPost_ret (v := .agg #[.int .i64 e.kind, .int .u32 e.epoch, .int .i64 e.ver, .slice sa sm sc]) (by simp [results, Tryz.results9, go_sem, ezf]) rfl ⟨_, rfl, by rw [hce.out]; exact hR.mod hmod (fun g hg h => by have := hf.out g hg; simp at this; omega), hbw.trans (hmod.to_below (B := w.heap.size) hbw.size (fun k _ h => by omega)), fun g hg => by have := hf.out g hg; simp at this; omega⟩
  · have hle : (min (e.msgs.length : Int) 70).toNat ≤ e.msgs.length := by omega
    have hst := fun W (hW : Below w.heap.size w W) => src_take (hm.below hW) hle
    have hce : (cutE e).msgs = cutL (e.msgs.take (min (e.msgs.length : Int) 70).toNat) := by
      unfold cutE
      rcases Nat.lt_or_ge e.msgs.length 70 with h | h
      · rw [show (min (e.msgs.length : Int) 70).toNat = e.msgs.length by omega, List.take_of_length_le (Nat.le_refl _), List.take_of_length_le (by omega)]
      · rw [show (min (e.msgs.length : Int) 70).toNat = 70 by omega]
    have hcut := fun W (hW : Below w.heap.size w W) => cutL_any _ _ W (hst W hW) (by simp; omega) (fun m hm => hd m (List.mem_of_mem_take hm))
    clear hm hd hst
    replace hce : Hid (_ = _) := hce
    replace hcut : Hid (∀ _, _) := hcut
    go_enter Tryz.func9, Tryz.ntmps9
    go_wp2_with (go_at_call 26; refine (hcut.out _ (by (repeat (first | exact Below.refl _ _ | with_reducible assumption | refine pb_alloc ?_ _ | refine pb_drew ?_ | refine pb_drewN ?_ _ | refine pb_set ?_ (by simp; try omega) _ | refine pb_trans ?_ (by with_reducible assumption))))).mono ?_; rintro r w1 ⟨v', rfl, hR, hb, hf⟩; replace hf : Hid (∀ _, _) := hf
                 obtain ⟨sa, sm, sc, rfl⟩ := hR.shape
                 have kb : Blk w1 w.heap.size #[.int .i64 e.kind, .int .u32 e.epoch, .int .i64 e.ver, .slice (some ⟨mb, off, none⟩) e.msgs.length cap] 32 := Blk.call ((Blk.new rfl).alloc _) hb
                 have kz : Blk w1 (w.heap.size + 1) #[.int .i64 0, .int .u32 0, .int .i64 0, .slice none 0 0] 32 := Blk.call (Blk.new (by simp)) hb
                 have eb := kb.cell
                 have ez := kz.cell
                 have fb := kb.frozen
                 have fz := kz.frozen
                 have lb := kb.lt
                 have lz := kz.lt)
    have hbw : Below w.heap.size w w1 := pb_trans (pb_alloc (pb_alloc (Below.refl _ _) _) _) hb
    have kzf := ((((kz.other (p := ⟨w.heap.size, 3, none⟩) (by simp) (.slice sa sm sc)).set (o := 0) (.int .i64 e.kind)).set (o := 1) (.int .u32 e.epoch)).set (o := 2) (.int .i64 e.ver)).set (o := 3) (.slice sa sm sc)
    have ezf := kzf.cell
    have hmod : Mod (fun k => k = w.heap.size ∨ k = w.heap.size + 1) w1 (((((w1.setCell ⟨w.heap.size, 3, none⟩ (.slice sa sm sc)).setCell ⟨w.heap.size + 1, 0, none⟩ (.int .i64 e.kind)).setCell ⟨w.heap.size + 1, 1, none⟩ (.int .u32 e.epoch)).setCell ⟨w.heap.size + 1, 2, none⟩ (.int .i64 e.ver)).setCell ⟨w.heap.size + 1, 3, none⟩ (.slice sa sm sc)) :=
      (((((Mod.refl _ w1).thenSet (p := ⟨w.heap.size, 3, none⟩) (.inl rfl) _).thenSet (p := ⟨w.heap.size + 1, 0, none⟩) (.inr rfl) _).thenSet (p := ⟨w.heap.size + 1, 1, none⟩) (.inr rfl) _).thenSet (p := ⟨w.heap.size + 1, 2, none⟩) (.inr rfl) _).thenSet (p := ⟨w.heap.size + 1, 3, none⟩) (.inr rfl) _
    clear eb ez fb fz
    exact bodyPost_ret (v := .agg #[.int .i64 e.kind, .int .u32 e.epoch, .int .i64 e.ver, .slice sa sm sc]) (by simp [results, Tryz.results9, go_sem, ezf]) rfl ⟨_, rfl, by rw [hce.out]; exact hR.mod hmod (fun g hg h => by have := hf.out g hg; simp at this; omega), hbw.trans (hmod.to_below (B := w.heap.size) hbw.size (fun k _ h => by omega)), fun g hg => by have := hf.out g hg; simp at this; omega⟩
  · have hcut := fun W => cutL_zero za W
    have hce : (cutE e).msgs = cutL [] := by unfold cutE; simp [hnil]
    clear hd hl
    replace hnil : Hid (_ = _) := hnil
    replace hce : Hid (_ = _) := hce
    replace hcut : Hid (∀ _, _) := hcut
    go_enter Tryz.func9, Tryz.ntmps9
    go_wp2_with (go_at_call 26; refine (hcut.out _).mono ?_; rintro r w1 ⟨v', rfl, hR, hb, hf⟩; replace hf : Hid (∀ _, _) := hf
                 obtain ⟨sa, sm, sc, rfl⟩ := hR.shape
                 have kb : Blk w1 w.heap.size #[.int .i64 e.kind, .int .u32 e.epoch, .int .i64 e.ver, .slice (some za) 0 0] 32 := Blk.call ((Blk.new rfl).alloc _) hb
                 have kz : Blk w1 (w.heap.size + 1) #[.int .i64 0, .int .u32 0, .int .i64 0, .slice none 0 0] 32 := Blk.call (Blk.new (by simp)) hb
                 have eb := kb.cell
                 have ez := kz.cell
                 have fb := kb.frozen
                 have fz := kz.frozen
                 have lb := kb.lt
                 have lz := kz.lt)
    have hbw : Below w.heap.size w w1 := pb_trans (pb_alloc (pb_alloc (Below.refl _ _) _) _) hb
    have kzf := ((((kz.other (p := ⟨w.heap.size, 3, none⟩) (by simp) (.slice sa sm sc)).set (o := 0) (.int .i64 e.kind)).set (o := 1) (.int .u32 e.epoch)).set (o := 2) (.int .i64 e.ver)).set (o := 3) (.slice sa sm sc)
    have ezf := kzf.cell
    have hmod : Mod (fun k => k = w.heap.size ∨ k = w.heap.size + 1) w1 (((((w1.setCell ⟨w.heap.size, 3, none⟩ (.slice sa sm sc)).setCell ⟨w.heap.size + 1, 0, none⟩ (.int .i64 e.kind)).setCell ⟨w.heap.size + 1, 1, none⟩ (.int .u32 e.epoch)).setCell ⟨w.heap.size + 1, 2, none⟩ (.int .i64 e.ver)).setCell ⟨w.heap.size + 1, 3, none⟩ (.slice sa sm sc)) :=
      (((((Mod.refl _ w1).thenSet (p := ⟨w.heap.size, 3, none⟩) (.inl rfl) _).thenSet (p := ⟨w.heap.size + 1, 0, none⟩) (.inr rfl) _).thenSet (p := ⟨w.heap.size + 1, 1, none⟩) (.inr rfl) _).thenSet (p := ⟨w.heap.size + 1, 2, none⟩) (.inr rfl) _).thenSet (p := ⟨w.heap.size + 1, 3, none⟩) (.inr rfl) _
    clear eb ez fb fz
    exact bodyPost_ret (v := .agg #[.int .i64 e.kind, .int .u32 e.epoch, .int .i64 e.ver, .slice sa sm sc]) (by simp [results, Tryz.results9, go_sem, ezf]) rfl ⟨_, rfl, by rw [hce.out]; exact hR.mod hmod (fun g hg h => by have := hf.out g hg; simp at this; omega), hbw.trans (hmod.to_below (B := w.heap.size) hbw.size (fun k _ h => by omega)), fun g hg => by have := hf.out g hg; simp at this; omega⟩
end Go.Proofs.YtlfledeldhhllaaGreatDoor
