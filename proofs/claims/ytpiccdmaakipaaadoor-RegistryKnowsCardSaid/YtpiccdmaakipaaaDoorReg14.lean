/- WALK: a statement of the registry as a Go function: it returns true, whatever the input, where the registry's error variable holds its error. -/
import Derived.Test.YtpiccdmaakipaaaDoorRegPlain
import Derived.Test.YtpiccdmaakipaaaDoorLib2
namespace Go.Proofs.YtpiccdmaakipaaaDoor
open Go Go.RowKit Go.Shelf Go.Extern.Stop Go.Stop Go.Extern
attribute [local go_sem] Oper.semAt_some wide_fn wide_depth

set_option maxHeartbeats 4000000 in
theorem knows_true (a : Addr) (v u : Int) (w : World) (he : ErrAt w a) :
    Calls Tryd.prog 9 #[.int .i64 v, .int .i64 u] w fun e w' => e = .returned (.bool true) ∧ Below w.heap.size w w' := by
  have hE : ∀ W, Below w.heap.size w W → ErrAt W a := fun W hW => he.below hW he.lt
  clear he
  obtain ⟨⟨⟨v1, c1, d1⟩, e1⟩, h1⟩ : ∃ p, beginP v = p := ⟨_, rfl⟩
  go_enter Tryd.func9, Tryd.ntmps9
  go_wp2_with (first
    | (go_at_call 10; refine (shown_any a _ (hE _ (by (repeat (first | exact Below.refl _ _ | assumption | refine pb_alloc ?_ _ | refine pb_drew ?_ | refine pb_drewN ?_ _ | refine pb_set ?_ (by simp; try omega) _ | refine pb_trans ?_ (by assumption)))))).mono ?_; rintro e w1 ⟨rfl, hb1⟩)
    | (go_at_call 18; refine (protocol_any _ _).mono ?_; rintro e w2 ⟨rfl, hb2⟩)
    | (go_at_call 19; refine (refProtocol_any _ _).mono ?_; rintro e w3 ⟨rfl, rfl⟩)
    | (go_at_call 16; refine (begin_eq h1 _ (hE _ (by (repeat (first | exact Below.refl _ _ | assumption | refine pb_alloc ?_ _ | refine pb_drew ?_ | refine pb_drewN ?_ _ | refine pb_set ?_ (by simp; try omega) _ | refine pb_trans ?_ (by assumption)))))).mono ?_; rintro e w4 ⟨rfl, hb4⟩)
    | (go_at_call 20; refine (refBegin_eq h1 _).mono ?_; rintro e w5 ⟨rfl, hb5⟩; have kA : Blk w5 w4.heap.size #[.int .i64 v1, .int .u32 c1, .string (bs d1)] 24 := Blk.call (by (repeat (first | assumption | exact Blk.new (by simp) | refine Blk.alloc ?_ _ | refine Blk.drew ?_ | refine Blk.drewN ?_ _))) hb5; have hlA := kA.lt)
    | (go_at_call 17; refine (known_any _ _).mono ?_; rintro e w6 ⟨rfl, hb6⟩; replace kA : Blk w6 w4.heap.size #[.int .i64 v1, .int .u32 c1, .string (bs d1)] 24 := Blk.call (by (repeat (first | assumption | exact Blk.new (by simp) | refine Blk.alloc ?_ _ | refine Blk.drew ?_ | refine Blk.drewN ?_ _))) hb6; have kB : Blk w6 w5.heap.size #[.int .i64 v1, .int .u32 c1, .string (bs d1)] 24 := Blk.call (by (repeat (first | assumption | exact Blk.new (by simp) | refine Blk.alloc ?_ _ | refine Blk.drew ?_ | refine Blk.drewN ?_ _))) hb6; have cA := kA.cell; have cB := kB.cell; have hlA6 := kA.lt; have hlB6 := kB.lt)
    | (go_at_call 21; refine (refKnown_any _ _).mono ?_; rintro e w7 ⟨rfl, rfl⟩)
    | (go_at_call 22; refine (check_any _ _ _).mono ?_; rintro e w8 ⟨rfl, hb8⟩)
    | (go_at_call 23; refine (refCheck_any _ _ _).mono ?_; rintro e w9 ⟨rfl, rfl⟩))
  go_ret
  exact ⟨rfl, by (repeat (first | exact Below.refl _ _ | assumption | refine pb_alloc ?_ _ | refine pb_drew ?_ | refine pb_drewN ?_ _ | refine pb_set ?_ (by simp; try omega) _ | refine pb_trans ?_ (by assumption)))⟩
end Go.Proofs.YtpiccdmaakipaaaDoor
