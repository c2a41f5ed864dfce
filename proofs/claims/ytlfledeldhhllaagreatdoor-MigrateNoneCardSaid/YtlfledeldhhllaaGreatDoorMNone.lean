/- WALK: the statement MigrateNone answers true. Condition: the registry's error variable holds its error. -/
import Derived.Test.YtlfledeldhhllaaGreatDoorMOne
namespace Go.Proofs.YtlfledeldhhllaaGreatDoor
open Go Go.RowKit Go.Shelf Go.Extern.Stop Go.Stop Go.Extern
attribute [local go_sem] Oper.semAt_some wide_fn wide_depth

theorem st_zero (w : World) : (binOp .eql 48 (.agg #[.int .i64 0, .int .u32 0, .string ⟨#[]⟩]) (.agg #[.int .i64 0, .int .u32 0, .string ⟨#[]⟩])).run Tryz.prog w = .ok (.bool true) w := by kernel_rfl
theorem era_zero (w : World) : (binOp .eql 42 (.agg #[.int .u32 0, .int .i64 0, .int .i64 0]) (.agg #[.int .u32 0, .int .i64 0, .int .i64 0])).run Tryz.prog w = .ok (.bool true) w := by kernel_rfl
set_option maxRecDepth 8000 in
set_option maxHeartbeats 1000000 in
theorem migrateNone_true (a : Addr) (e : EntryD) (mv : Value) (w : World) (he : ErrAt w a) : Calls Tryz.prog 5 #[entV e mv] w fun r w' => r = .returned (.bool true) ∧ Below w.heap.size w w' := by
  have hap := lApply_none e mv true
  unfold entV at hap ⊢
  have heW := fun W (hW : Below w.heap.size w W) => he.below hW he.lt
  have s0 := st_zero
  have e0 := era_zero
  replace hap : Hid (∀ _, _) := hap
  replace heW : Hid (∀ _, _) := heW
  clear he
  go_enter Tryz.func5, Tryz.ntmps5
  go_wp2_with fail
  refine (shown15_any a _ (heW.out _ (by (repeat (first | exact Below.refl _ _ | with_reducible assumption | refine pb_alloc ?_ _ | refine pb_drew ?_ | refine pb_drewN ?_ _ | refine pb_set ?_ (by simp; try omega) _ | refine pb_trans ?_ (by with_reducible assumption)))))).mono ?_
  rintro r w1 ⟨rfl, hb1⟩
  have kb : Blk w1 w.heap.size #[.int .i64 e.kind, .int .u32 e.epoch, .int .i64 e.ver, mv] 32 := Blk.call (Blk.new rfl) hb1
  have eb := kb.cell
  have hbw : Below w.heap.size w w1 := by (repeat (first | exact Below.refl _ _ | with_reducible assumption | refine pb_alloc ?_ _ | refine pb_drew ?_ | refine pb_drewN ?_ _ | refine pb_set ?_ (by simp; try omega) _ | refine pb_trans ?_ (by with_reducible assumption)))
  go_wp2_with fail
  refine (hap.out _).mono ?_
  rintro r w2 ⟨rfl, hb2⟩
  go_wp2_with fail
  refine (lAsks_none _).mono ?_
  rintro r w3 ⟨rfl, hb3⟩
  have hbx := pb_alloc (pb_trans (pb_trans hbw hb2) hb3) (.cells #[.int .i64 0, .int .u32 0, .int .i64 0, .slice none 0 0] 32)
  clear eb
  go_wp2_with fail
  refine (lState_none _).mono ?_
  rintro r w4 ⟨rfl, hb4⟩
  go_wp2_with fail
  refine (lBlocked_none _).mono ?_
  rintro r w5 ⟨rfl, rfl⟩
  go_wp2_with fail
  refine (lHolds_none _).mono ?_
  rintro r w6 ⟨rfl, rfl⟩
  go_wp2_with fail
  refine (lLog_none _).mono ?_
  rintro r w7 ⟨rfl, rfl⟩
  go_wp2_with fail
  refine (lEra_none _).mono ?_
  rintro r w8 ⟨rfl, hb8⟩
  go_wp2
  go_ret
  exact ⟨rfl, pb_trans (pb_trans hbx hb4) hb8⟩
end Go.Proofs.YtlfledeldhhllaaGreatDoor
