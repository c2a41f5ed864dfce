/- WALK: a statement of the registry as a Go function: it returns true, whatever the input, where the registry's error variable holds its error. -/
import Derived.Test.YtpiccdmaakipaaaDoorRegPlain
import Derived.Test.YtpiccdmaakipaaaDoorLib2
namespace Go.Proofs.YtpiccdmaakipaaaDoor
open Go Go.RowKit Go.Shelf Go.Extern.Stop Go.Stop Go.Extern
attribute [local go_sem] Oper.semAt_some wide_fn wide_depth

set_option maxHeartbeats 4000000 in
theorem ways_true (a : Addr) (v : Int) (c : Nat) (d : List UInt8) (w : World) (he : ErrAt w a) (hd : d.length ≤ 9223372036854775807) :
    Calls Tryd.prog 5 #[.agg #[.int .i64 v, .int .u32 c, .string (bs d)]] w fun e w' => e = .returned (.bool true) ∧ Below w.heap.size w w' := by
  have hE : ∀ W, Below w.heap.size w W → ErrAt W a := fun W hW => he.below hW he.lt
  clear he
  have hk12 : checkE 1 2 = 0 := by decide
  have hk13 : checkE 1 3 = 0 := by decide
  have hk23 : checkE 2 3 = 0 := by decide
  have hbs : (bs []).toList = [] := bs_toList []
  have hsplit : mig 3 c 1 (d.take 1100) = (mig 2 c 1 (d.take 1100)).bind (mig 3 c 2) := by
    rw [mig_step 3 1 c _ (by decide), mig_step 2 1 c _ (by decide)]
    have n1 : nextV 1 3 = 2 := by decide
    have n2 : nextV 1 2 = 2 := by decide
    rw [n1, n2]
    cases turnD 1 2 c (d.take 1100) with
    | none => rfl
    | some d2 => simp [mig_done]
  rcases migrateP_cases 1 c (d.take 1100) 2 with ⟨d2, h12, hm12, _, hl, hl2⟩ | ⟨e2, h12, hne, he2⟩
  · have h23' : migrateP 2 c d2 3 = match mig 3 c 2 d2 with | some d3 => ((3, c, d3), 0) | none => ((0, 0, []), 132) := by
      unfold migrateP; rw [if_neg (by simp [hk23]), if_neg (by rw [right_of hk23 hl2]; simp)]; cases mig 3 c 2 d2 <;> rfl
    have h13' : migrateP 1 c (d.take 1100) 3 = match mig 3 c 2 d2 with | some d3 => ((3, c, d3), 0) | none => ((0, 0, []), 132) := by
      unfold migrateP; rw [if_neg (by simp [hk13]), if_neg (by rw [right_of hk13 hl]; simp), hsplit, hm12]; simp only [Option.bind_some]; cases mig 3 c 2 d2 <;> rfl
    clear hk12 hk13 hk23 hsplit hm12 hl hl2
    cases hq : mig 3 c 2 d2 with
    | some d3 =>
      rw [hq] at h23' h13'
      have h23 : migrateP 2 c d2 3 = ((3, c, d3), 0) := h23'
      have h13 : migrateP 1 c (d.take 1100) 3 = ((3, c, d3), 0) := h13'
      clear h23' h13' hq
      go_enter Tryd.func5, Tryd.ntmps5
      go_wp2_with (first
        | (go_at_call 10; refine (shown_any a _ (hE _ (by (repeat (first | exact Below.refl _ _ | assumption | refine pb_alloc ?_ _ | refine pb_drew ?_ | refine pb_drewN ?_ _ | refine pb_set ?_ (by simp; try omega) _ | refine pb_trans ?_ (by assumption)))))).mono ?_; rintro e w1 ⟨rfl, hb1⟩; have k0 : Blk w1 w.heap.size #[.int .i64 v, .int .u32 c, .string (bs d)] 24 := Blk.call (by (repeat (first | assumption | exact Blk.new (by simp) | refine Blk.alloc ?_ _ | refine Blk.drew ?_ | refine Blk.drewN ?_ _))) hb1; have c0 := k0.cell; have f0 := k0.frozen; have hl1 := k0.lt)
        | (go_at_call 11; refine (lawCut_any _ _ _ _ hd).mono ?_; rintro e w2 ⟨rfl, hb2⟩; replace k0 : Blk ((((w2.setCell ⟨w.heap.size, 0, none⟩ (.int .i64 v)).setCell ⟨w.heap.size, 1, none⟩ (.int .u32 c)).setCell ⟨w.heap.size, 2, none⟩ (.string (bs (d.take 1100)))).setCell ⟨w.heap.size, 0, none⟩ (.int .i64 1)) w.heap.size #[.int .i64 1, .int .u32 c, .string (bs (d.take 1100))] 24 := (((((k0.call hb2).set (o := 0) (.int .i64 v)).set (o := 1) (.int .u32 c)).set (o := 2) (.string (bs (d.take 1100)))).set (o := 0) (.int .i64 1)); have c1 := (hb2.cell (p := ⟨w.heap.size, 0, none⟩) hl1).trans (c0 0); have c2 := (hb2.cell (p := ⟨w.heap.size, 1, none⟩) hl1).trans (c0 1); have c3 := (hb2.cell (p := ⟨w.heap.size, 2, none⟩) hl1).trans (c0 2); have f1 := (hb2.frozen (p := ⟨w.heap.size, 0, none⟩) hl1).trans (f0 0); have f2 := (hb2.frozen (p := ⟨w.heap.size, 1, none⟩) hl1).trans (f0 1); have f3 := (hb2.frozen (p := ⟨w.heap.size, 2, none⟩) hl1).trans (f0 2); have hl2 := k0.lt)
        | (go_at_call 12; (with_reducible refine (migrate_eq h13 _ (hE _ (by (repeat (first | exact Below.refl _ _ | assumption | refine pb_alloc ?_ _ | refine pb_drew ?_ | refine pb_drewN ?_ _ | refine pb_set ?_ (by simp; try omega) _ | refine pb_trans ?_ (by assumption)))))).mono ?_); rintro e w3 ⟨rfl, hb3⟩; replace k0 := k0.call hb3; clear c0 f0 c1 c2 c3 f1 f2 f3; have c0 := k0.cell; have hl3 := k0.lt)
        | (go_at_call 12; (with_reducible refine (migrate_eq h12 _ (hE _ (by (repeat (first | exact Below.refl _ _ | assumption | refine pb_alloc ?_ _ | refine pb_drew ?_ | refine pb_drewN ?_ _ | refine pb_set ?_ (by simp; try omega) _ | refine pb_trans ?_ (by assumption)))))).mono ?_); rintro e w4 ⟨rfl, hb4⟩; replace k0 := (k0.alloc _).call hb4; have kA : Blk w4 w3.heap.size #[.int .i64 3, .int .u32 c, .string (bs d3)] 24 := Blk.call (by (repeat (first | assumption | exact Blk.new (by simp) | refine Blk.alloc ?_ _ | refine Blk.drew ?_ | refine Blk.drewN ?_ _))) hb4; clear c0; have c0 := k0.cell; have cA := kA.cell; have hl4 := k0.lt; have hlA := kA.lt)
        | (go_at_call 12; (with_reducible refine (migrate_eq h23 _ (hE _ (by (repeat (first | exact Below.refl _ _ | assumption | refine pb_alloc ?_ _ | refine pb_drew ?_ | refine pb_drewN ?_ _ | refine pb_set ?_ (by simp; try omega) _ | refine pb_trans ?_ (by assumption)))))).mono ?_); rintro e w5 ⟨rfl, hb5⟩; replace k0 := (k0.alloc _).call hb5; replace kA : Blk w5 w3.heap.size #[.int .i64 3, .int .u32 c, .string (bs d3)] 24 := Blk.call (by (repeat (first | assumption | exact Blk.new (by simp) | refine Blk.alloc ?_ _ | refine Blk.drew ?_ | refine Blk.drewN ?_ _))) hb5; clear c0 cA; have cA := kA.cell; have hl5 := k0.lt; have hlA5 := kA.lt))
      go_ret
      exact ⟨rfl, by (repeat (first | exact Below.refl _ _ | assumption | refine pb_alloc ?_ _ | refine pb_drew ?_ | refine pb_drewN ?_ _ | refine pb_set ?_ (by simp; try omega) _ | refine pb_trans ?_ (by assumption)))⟩
    | none =>
      rw [hq] at h23' h13'
      have h23 : migrateP 2 c d2 3 = ((0, 0, []), 132) := h23'
      have h13 : migrateP 1 c (d.take 1100) 3 = ((0, 0, []), 132) := h13'
      clear h23' h13' hq
      go_enter Tryd.func5, Tryd.ntmps5
      go_wp2_with (first
        | (go_at_call 10; refine (shown_any a _ (hE _ (by (repeat (first | exact Below.refl _ _ | assumption | refine pb_alloc ?_ _ | refine pb_drew ?_ | refine pb_drewN ?_ _ | refine pb_set ?_ (by simp; try omega) _ | refine pb_trans ?_ (by assumption)))))).mono ?_; rintro e w1 ⟨rfl, hb1⟩; have k0 : Blk w1 w.heap.size #[.int .i64 v, .int .u32 c, .string (bs d)] 24 := Blk.call (by (repeat (first | assumption | exact Blk.new (by simp) | refine Blk.alloc ?_ _ | refine Blk.drew ?_ | refine Blk.drewN ?_ _))) hb1; have c0 := k0.cell; have f0 := k0.frozen; have hl1 := k0.lt)
        | (go_at_call 11; refine (lawCut_any _ _ _ _ hd).mono ?_; rintro e w2 ⟨rfl, hb2⟩; replace k0 : Blk ((((w2.setCell ⟨w.heap.size, 0, none⟩ (.int .i64 v)).setCell ⟨w.heap.size, 1, none⟩ (.int .u32 c)).setCell ⟨w.heap.size, 2, none⟩ (.string (bs (d.take 1100)))).setCell ⟨w.heap.size, 0, none⟩ (.int .i64 1)) w.heap.size #[.int .i64 1, .int .u32 c, .string (bs (d.take 1100))] 24 := (((((k0.call hb2).set (o := 0) (.int .i64 v)).set (o := 1) (.int .u32 c)).set (o := 2) (.string (bs (d.take 1100)))).set (o := 0) (.int .i64 1)); have c1 := (hb2.cell (p := ⟨w.heap.size, 0, none⟩) hl1).trans (c0 0); have c2 := (hb2.cell (p := ⟨w.heap.size, 1, none⟩) hl1).trans (c0 1); have c3 := (hb2.cell (p := ⟨w.heap.size, 2, none⟩) hl1).trans (c0 2); have f1 := (hb2.frozen (p := ⟨w.heap.size, 0, none⟩) hl1).trans (f0 0); have f2 := (hb2.frozen (p := ⟨w.heap.size, 1, none⟩) hl1).trans (f0 1); have f3 := (hb2.frozen (p := ⟨w.heap.size, 2, none⟩) hl1).trans (f0 2); have hl2 := k0.lt)
        | (go_at_call 12; (with_reducible refine (migrate_eq h13 _ (hE _ (by (repeat (first | exact Below.refl _ _ | assumption | refine pb_alloc ?_ _ | refine pb_drew ?_ | refine pb_drewN ?_ _ | refine pb_set ?_ (by simp; try omega) _ | refine pb_trans ?_ (by assumption)))))).mono ?_); rintro e w3 ⟨rfl, hb3⟩; replace k0 := k0.call hb3; clear c0 f0 c1 c2 c3 f1 f2 f3; have c0 := k0.cell; have hl3 := k0.lt)
        | (go_at_call 12; (with_reducible refine (migrate_eq h12 _ (hE _ (by (repeat (first | exact Below.refl _ _ | assumption | refine pb_alloc ?_ _ | refine pb_drew ?_ | refine pb_drewN ?_ _ | refine pb_set ?_ (by simp; try omega) _ | refine pb_trans ?_ (by assumption)))))).mono ?_); rintro e w4 ⟨rfl, hb4⟩; replace k0 := (k0.alloc _).call hb4; have kA : Blk w4 w3.heap.size #[.int .i64 0, .int .u32 ((0 : Nat) : Int), .string (bs [])] 24 := Blk.call (by (repeat (first | assumption | exact Blk.new (by simp) | refine Blk.alloc ?_ _ | refine Blk.drew ?_ | refine Blk.drewN ?_ _))) hb4; clear c0; have c0 := k0.cell; have cA := kA.cell; have hl4 := k0.lt; have hlA := kA.lt)
        | (go_at_call 12; (with_reducible refine (migrate_eq h23 _ (hE _ (by (repeat (first | exact Below.refl _ _ | assumption | refine pb_alloc ?_ _ | refine pb_drew ?_ | refine pb_drewN ?_ _ | refine pb_set ?_ (by simp; try omega) _ | refine pb_trans ?_ (by assumption)))))).mono ?_); rintro e w5 ⟨rfl, hb5⟩; replace k0 := (k0.alloc _).call hb5; replace kA : Blk w5 w3.heap.size #[.int .i64 0, .int .u32 ((0 : Nat) : Int), .string (bs [])] 24 := Blk.call (by (repeat (first | assumption | exact Blk.new (by simp) | refine Blk.alloc ?_ _ | refine Blk.drew ?_ | refine Blk.drewN ?_ _))) hb5; clear c0 cA; have cA := kA.cell; have hl5 := k0.lt; have hlA5 := kA.lt))
      go_ret
      exact ⟨rfl, by (repeat (first | exact Below.refl _ _ | assumption | refine pb_alloc ?_ _ | refine pb_drew ?_ | refine pb_drewN ?_ _ | refine pb_set ?_ (by simp; try omega) _ | refine pb_trans ?_ (by assumption)))⟩
  · obtain rfl := he2 hk12
    have h13 : migrateP 1 c (d.take 1100) 3 = ((0, 0, []), 132) := by
      rcases migrateP_cases 1 c (d.take 1100) 3 with ⟨d3, h, hm, hc, hl, _⟩ | ⟨e3, h, _, he3⟩
      · rw [hsplit] at hm
        cases hq : mig 2 c 1 (d.take 1100) with
        | none => rw [hq] at hm; cases hm
        | some d2 => rw [migrateP_ok hk12 hl hq] at h12; cases h12
      · rw [he3 hk13] at h; exact h
    clear hk12 hk13 hk23 hsplit he2 hne
    go_enter Tryd.func5, Tryd.ntmps5
    go_wp2_with (first
      | (go_at_call 10; refine (shown_any a _ (hE _ (by (repeat (first | exact Below.refl _ _ | assumption | refine pb_alloc ?_ _ | refine pb_drew ?_ | refine pb_drewN ?_ _ | refine pb_set ?_ (by simp; try omega) _ | refine pb_trans ?_ (by assumption)))))).mono ?_; rintro e w1 ⟨rfl, hb1⟩; have k0 : Blk w1 w.heap.size #[.int .i64 v, .int .u32 c, .string (bs d)] 24 := Blk.call (by (repeat (first | assumption | exact Blk.new (by simp) | refine Blk.alloc ?_ _ | refine Blk.drew ?_ | refine Blk.drewN ?_ _))) hb1; have c0 := k0.cell; have f0 := k0.frozen; have hl1 := k0.lt)
      | (go_at_call 11; refine (lawCut_any _ _ _ _ hd).mono ?_; rintro e w2 ⟨rfl, hb2⟩; replace k0 : Blk ((((w2.setCell ⟨w.heap.size, 0, none⟩ (.int .i64 v)).setCell ⟨w.heap.size, 1, none⟩ (.int .u32 c)).setCell ⟨w.heap.size, 2, none⟩ (.string (bs (d.take 1100)))).setCell ⟨w.heap.size, 0, none⟩ (.int .i64 1)) w.heap.size #[.int .i64 1, .int .u32 c, .string (bs (d.take 1100))] 24 := (((((k0.call hb2).set (o := 0) (.int .i64 v)).set (o := 1) (.int .u32 c)).set (o := 2) (.string (bs (d.take 1100)))).set (o := 0) (.int .i64 1)); have c1 := (hb2.cell (p := ⟨w.heap.size, 0, none⟩) hl1).trans (c0 0); have c2 := (hb2.cell (p := ⟨w.heap.size, 1, none⟩) hl1).trans (c0 1); have c3 := (hb2.cell (p := ⟨w.heap.size, 2, none⟩) hl1).trans (c0 2); have f1 := (hb2.frozen (p := ⟨w.heap.size, 0, none⟩) hl1).trans (f0 0); have f2 := (hb2.frozen (p := ⟨w.heap.size, 1, none⟩) hl1).trans (f0 1); have f3 := (hb2.frozen (p := ⟨w.heap.size, 2, none⟩) hl1).trans (f0 2); have hl2 := k0.lt)
      | (go_at_call 12; (with_reducible refine (migrate_eq h13 _ (hE _ (by (repeat (first | exact Below.refl _ _ | assumption | refine pb_alloc ?_ _ | refine pb_drew ?_ | refine pb_drewN ?_ _ | refine pb_set ?_ (by simp; try omega) _ | refine pb_trans ?_ (by assumption)))))).mono ?_); rintro e w3 ⟨rfl, hb3⟩; replace k0 := k0.call hb3; clear c0 f0 c1 c2 c3 f1 f2 f3; have c0 := k0.cell; have hl3 := k0.lt)
      | (go_at_call 12; (with_reducible refine (migrate_eq h12 _ (hE _ (by (repeat (first | exact Below.refl _ _ | assumption | refine pb_alloc ?_ _ | refine pb_drew ?_ | refine pb_drewN ?_ _ | refine pb_set ?_ (by simp; try omega) _ | refine pb_trans ?_ (by assumption)))))).mono ?_); rintro e w4 ⟨rfl, hb4⟩; replace k0 := (k0.alloc _).call hb4; have kA : Blk w4 w3.heap.size #[.int .i64 0, .int .u32 ((0 : Nat) : Int), .string (bs [])] 24 := Blk.call (by (repeat (first | assumption | exact Blk.new (by simp) | refine Blk.alloc ?_ _ | refine Blk.drew ?_ | refine Blk.drewN ?_ _))) hb4; clear c0; have c0 := k0.cell; have cA := kA.cell; have hl4 := k0.lt; have hlA := kA.lt))
    go_ret
    exact ⟨rfl, by (repeat (first | exact Below.refl _ _ | assumption | refine pb_alloc ?_ _ | refine pb_drew ?_ | refine pb_drewN ?_ _ | refine pb_set ?_ (by simp; try omega) _ | refine pb_trans ?_ (by assumption)))⟩
end Go.Proofs.YtpiccdmaakipaaaDoor
