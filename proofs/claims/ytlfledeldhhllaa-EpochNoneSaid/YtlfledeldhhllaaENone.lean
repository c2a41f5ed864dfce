/- WALK: the statement EpochNone answers true. Condition: the entry's messages can be read. -/
import Derived.Test.YtlfledeldhhllaaShown
namespace Go.Proofs.Ytlfledeldhhllaa
open Go Go.RowKit Go.Shelf Go.Extern.Stop Go.Stop Go.Extern
attribute [local go_sem] Oper.semAt_some wide_fn wide_depth

set_option maxRecDepth 8000 in
set_option maxHeartbeats 1000000 in
theorem epochNone_true (e : EntryD) (mv : Value) (w : World) : Calls Try.prog 4 #[entV e mv] w fun r w' => r = .returned (.bool true) ∧ Below w.heap.size w w' := by
  have hap := apply_none e mv
  unfold entV at hap ⊢
  replace hap : Hid (∀ _, _) := hap
  go_enter Try.func4, Try.ntmps4
  go_wp2_with (first
    | (go_at_call 8; refine (shown_any _).mono ?_; rintro r w1 ⟨rfl, hb1⟩
       have kb : Blk w1 w.heap.size #[.int .i64 e.kind, .int .u32 e.epoch, .int .i64 e.ver, mv] 33 := Blk.call (Blk.new rfl) hb1
       have eb := kb.cell)
    | (go_at_call 10; refine (hap.out _).mono ?_; rintro r w2 ⟨rfl, hb2⟩)
    | (go_at_call 12; refine (eras_none _).mono ?_; rintro r w3 ⟨rfl, rfl⟩)
    | (go_at_call 14; refine (log_none _).mono ?_; rintro r w4 ⟨rfl, rfl⟩)
    | (go_at_call 13; refine (count_none _).mono ?_; rintro r w5 ⟨rfl, rfl⟩))
  go_ret
  exact ⟨rfl, pb_trans (pb_trans (pb_alloc (Below.refl _ _) _) hb1) hb2⟩
end Go.Proofs.Ytlfledeldhhllaa
