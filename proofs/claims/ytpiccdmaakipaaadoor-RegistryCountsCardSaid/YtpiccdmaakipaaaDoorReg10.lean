/- WALK: a statement of the registry as a Go function: it returns true, whatever the input, where the registry's error variable holds its error. -/
import Derived.Test.YtpiccdmaakipaaaDoorRegPlain
import Derived.Test.YtpiccdmaakipaaaDoorLib2
namespace Go.Proofs.YtpiccdmaakipaaaDoor
open Go Go.RowKit Go.Shelf Go.Extern.Stop Go.Stop Go.Extern
attribute [local go_sem] Oper.semAt_some wide_fn wide_depth

set_option maxHeartbeats 4000000 in
theorem counts_true (a : Addr) (v : Int) (c : Nat) (d : List UInt8) (to : Int) (w : World) (he : ErrAt w a) (hd : d.length ≤ 9223372036854775807) :
    Calls Tryd.prog 7 #[.agg #[.int .i64 v, .int .u32 c, .string (bs d)], .int .i64 to] w fun e w' => e = .returned (.bool true) ∧ Below w.heap.size w w' := by
  have hE : ∀ W, Below w.heap.size w W → ErrAt W a := fun W hW => he.below hW he.lt
  clear he
  rcases migrateP_cases v c (d.take 1100) to with ⟨d', hm, _, hck, _, _⟩ | ⟨e', hm, hne, _⟩
  · have hvt : (to != v) = true := by have := (checkE_zero hck).2.2.2.2; simp; omega
    clear hck
    go_enter Tryd.func7, Tryd.ntmps7
    go_wp2_with (first
      | (go_at_call 10; refine (shown_any a _ (hE _ (by (repeat (first | exact Below.refl _ _ | assumption | refine pb_alloc ?_ _ | refine pb_drew ?_ | refine pb_drewN ?_ _ | refine pb_set ?_ (by simp; try omega) _ | refine pb_trans ?_ (by assumption)))))).mono ?_; rintro e w1 ⟨rfl, hb1⟩; have k0 : Blk w1 w.heap.size #[.int .i64 v, .int .u32 c, .string (bs d)] 24 := Blk.call (by (repeat (first | assumption | exact Blk.new (by simp) | refine Blk.alloc ?_ _ | refine Blk.drew ?_ | refine Blk.drewN ?_ _))) hb1; have c0 := k0.cell; have f0 := k0.frozen; have hl1 := k0.lt)
      | (go_at_call 11; refine (lawCut_any _ _ _ _ hd).mono ?_; rintro e w2 ⟨rfl, hb2⟩; replace k0 : Blk (((w2.setCell ⟨w.heap.size, 0, none⟩ (.int .i64 v)).setCell ⟨w.heap.size, 1, none⟩ (.int .u32 c)).setCell ⟨w.heap.size, 2, none⟩ (.string (bs (d.take 1100)))) w.heap.size #[.int .i64 v, .int .u32 c, .string (bs (d.take 1100))] 24 := ((((k0.call hb2).set (o := 0) (.int .i64 v)).set (o := 1) (.int .u32 c)).set (o := 2) (.string (bs (d.take 1100)))); have c1 := (hb2.cell (p := ⟨w.heap.size, 0, none⟩) hl1).trans (c0 0); have c2 := (hb2.cell (p := ⟨w.heap.size, 1, none⟩) hl1).trans (c0 1); have c3 := (hb2.cell (p := ⟨w.heap.size, 2, none⟩) hl1).trans (c0 2); have f1 := (hb2.frozen (p := ⟨w.heap.size, 0, none⟩) hl1).trans (f0 0); have f2 := (hb2.frozen (p := ⟨w.heap.size, 1, none⟩) hl1).trans (f0 1); have f3 := (hb2.frozen (p := ⟨w.heap.size, 2, none⟩) hl1).trans (f0 2); have hl2 := k0.lt)
      | (go_at_call 12; refine (migrate_eq hm _ (hE _ (by (repeat (first | exact Below.refl _ _ | assumption | refine pb_alloc ?_ _ | refine pb_drew ?_ | refine pb_drewN ?_ _ | refine pb_set ?_ (by simp; try omega) _ | refine pb_trans ?_ (by assumption)))))).mono ?_; rintro e w3 ⟨rfl, hb3⟩; replace k0 := k0.call hb3; clear c0 f0 c1 c2 c3 f1 f2 f3; have c0 := k0.cell; have hl3 := k0.lt))
    go_ret
    exact ⟨rfl, by (repeat (first | exact Below.refl _ _ | assumption | refine pb_alloc ?_ _ | refine pb_drew ?_ | refine pb_drewN ?_ _ | refine pb_set ?_ (by simp; try omega) _ | refine pb_trans ?_ (by assumption)))⟩
  · have hne' : (e' != 0) = true := by simp [hne]
    have hbs : (bs []).toList = [] := bs_toList []
    have hne2 : (e' == 0) = false := by simp [hne]
    clear hne
    go_enter Tryd.func7, Tryd.ntmps7
    go_wp2_with (first
      | (go_at_call 10; refine (shown_any a _ (hE _ (by (repeat (first | exact Below.refl _ _ | assumption | refine pb_alloc ?_ _ | refine pb_drew ?_ | refine pb_drewN ?_ _ | refine pb_set ?_ (by simp; try omega) _ | refine pb_trans ?_ (by assumption)))))).mono ?_; rintro e w1 ⟨rfl, hb1⟩; have k0 : Blk w1 w.heap.size #[.int .i64 v, .int .u32 c, .string (bs d)] 24 := Blk.call (by (repeat (first | assumption | exact Blk.new (by simp) | refine Blk.alloc ?_ _ | refine Blk.drew ?_ | refine Blk.drewN ?_ _))) hb1; have c0 := k0.cell; have f0 := k0.frozen; have hl1 := k0.lt)
      | (go_at_call 11; refine (lawCut_any _ _ _ _ hd).mono ?_; rintro e w2 ⟨rfl, hb2⟩; replace k0 : Blk (((w2.setCell ⟨w.heap.size, 0, none⟩ (.int .i64 v)).setCell ⟨w.heap.size, 1, none⟩ (.int .u32 c)).setCell ⟨w.heap.size, 2, none⟩ (.string (bs (d.take 1100)))) w.heap.size #[.int .i64 v, .int .u32 c, .string (bs (d.take 1100))] 24 := ((((k0.call hb2).set (o := 0) (.int .i64 v)).set (o := 1) (.int .u32 c)).set (o := 2) (.string (bs (d.take 1100)))); have c1 := (hb2.cell (p := ⟨w.heap.size, 0, none⟩) hl1).trans (c0 0); have c2 := (hb2.cell (p := ⟨w.heap.size, 1, none⟩) hl1).trans (c0 1); have c3 := (hb2.cell (p := ⟨w.heap.size, 2, none⟩) hl1).trans (c0 2); have f1 := (hb2.frozen (p := ⟨w.heap.size, 0, none⟩) hl1).trans (f0 0); have f2 := (hb2.frozen (p := ⟨w.heap.size, 1, none⟩) hl1).trans (f0 1); have f3 := (hb2.frozen (p := ⟨w.heap.size, 2, none⟩) hl1).trans (f0 2); have hl2 := k0.lt)
      | (go_at_call 12; refine (migrate_eq hm _ (hE _ (by (repeat (first | exact Below.refl _ _ | assumption | refine pb_alloc ?_ _ | refine pb_drew ?_ | refine pb_drewN ?_ _ | refine pb_set ?_ (by simp; try omega) _ | refine pb_trans ?_ (by assumption)))))).mono ?_; rintro e w3 ⟨rfl, hb3⟩; replace k0 := k0.call hb3; clear c0 f0 c1 c2 c3 f1 f2 f3; have c0 := k0.cell; have hl3 := k0.lt))
    go_ret
    exact ⟨rfl, by (repeat (first | exact Below.refl _ _ | assumption | refine pb_alloc ?_ _ | refine pb_drew ?_ | refine pb_drewN ?_ _ | refine pb_set ?_ (by simp; try omega) _ | refine pb_trans ?_ (by assumption)))⟩
end Go.Proofs.YtpiccdmaakipaaaDoor
