/- WALK: a statement of the registry as a Go function: it returns true, whatever the input, where the registry's error variable holds its error. -/
import Derived.Test.YtpiccdmaakipaaaDoorRegPlain
import Derived.Test.YtpiccdmaakipaaaDoorLib2
namespace Go.Proofs.YtpiccdmaakipaaaDoor
open Go Go.RowKit Go.Shelf Go.Extern.Stop Go.Stop Go.Extern
attribute [local go_sem] Oper.semAt_some wide_fn wide_depth

theorem begin_known {v : Int} (h : known v = true) : ∃ d, beginP v = ((v, 0, d), 0) := by
  have h1 : 1 ≤ v ∧ v ≤ 3 := by simpa [known] using h
  obtain rfl | rfl | rfl : v = 1 ∨ v = 2 ∨ v = 3 := by omega
  · exact ⟨[], by decide⟩
  · exact ⟨[98], by decide⟩
  · exact ⟨[98, 0, 0, 0, 0], by decide⟩
theorem begin_unknown {v : Int} (h : known v = false) : beginP v = ((0, 0, []), 130) := by
  have hv : ¬ v = 1 := by intro e; subst e; simp [known] at h
  unfold beginP
  rw [if_neg hv]
  unfold migrateP checkE
  simp [h]
theorem begin_migrates {v u : Int} {d d2 : List UInt8} (hv : known v = true) (hu : known u = true) (hne : v ≠ u) (h : beginP v = ((v, 0, d), 0)) (h2 : beginP u = ((u, 0, d2), 0)) : migrateP v 0 d u = ((u, 0, d2), 0) := by
  have h1 : 1 ≤ v ∧ v ≤ 3 := by simpa [known] using hv
  have h3 : 1 ≤ u ∧ u ≤ 3 := by simpa [known] using hu
  have b1 : beginP 1 = ((1, 0, []), 0) := by decide
  have b2 : beginP 2 = ((2, 0, [98]), 0) := by decide
  have b3 : beginP 3 = ((3, 0, [98, 0, 0, 0, 0]), 0) := by decide
  obtain rfl | rfl | rfl : v = 1 ∨ v = 2 ∨ v = 3 := by omega
  all_goals obtain rfl | rfl | rfl : u = 1 ∨ u = 2 ∨ u = 3 := by omega
  all_goals first
    | exact absurd rfl hne
    | (simp only [b1, b2, b3, Prod.mk.injEq, and_true, true_and] at h h2; subst h; subst h2; decide)

set_option maxHeartbeats 4000000 in
theorem begins_true (a : Addr) (v u : Int) (w : World) (he : ErrAt w a) :
    Calls Tryd.prog 8 #[.int .i64 v, .int .i64 u] w fun e w' => e = .returned (.bool true) ∧ Below w.heap.size w w' := by
  have hE : ∀ W, Below w.heap.size w W → ErrAt W a := fun W hW => he.below hW he.lt
  clear he
  cases hv : known v with
  | false =>
    have h1 := begin_unknown hv
    obtain ⟨⟨⟨v2, c2, d2⟩, e2⟩, h2⟩ : ∃ p, beginP u = p := ⟨_, rfl⟩
    go_enter Tryd.func8, Tryd.ntmps8
    go_wp2_with (first
      | (go_at_call 10; refine (shown_any a _ (hE _ (by (repeat (first | exact Below.refl _ _ | assumption | refine pb_alloc ?_ _ | refine pb_drew ?_ | refine pb_drewN ?_ _ | refine pb_set ?_ (by simp; try omega) _ | refine pb_trans ?_ (by assumption)))))).mono ?_; rintro e w1 ⟨rfl, hb1⟩)
      | (go_at_call 16; (with_reducible refine (begin_eq h1 _ (hE _ (by (repeat (first | exact Below.refl _ _ | assumption | refine pb_alloc ?_ _ | refine pb_drew ?_ | refine pb_drewN ?_ _ | refine pb_set ?_ (by simp; try omega) _ | refine pb_trans ?_ (by assumption)))))).mono ?_); rintro e w2 ⟨rfl, hb2⟩)
      | (go_at_call 16; (with_reducible refine (begin_eq h2 _ (hE _ (by (repeat (first | exact Below.refl _ _ | assumption | refine pb_alloc ?_ _ | refine pb_drew ?_ | refine pb_drewN ?_ _ | refine pb_set ?_ (by simp; try omega) _ | refine pb_trans ?_ (by assumption)))))).mono ?_); rintro e w3 ⟨rfl, hb3⟩)
      | (go_at_call 17; refine (known_any _ _).mono ?_; rintro e w4 ⟨rfl, hb4⟩))
    go_ret
    exact ⟨rfl, by (repeat (first | exact Below.refl _ _ | assumption | refine pb_alloc ?_ _ | refine pb_drew ?_ | refine pb_drewN ?_ _ | refine pb_set ?_ (by simp; try omega) _ | refine pb_trans ?_ (by assumption)))⟩
  | true =>
    obtain ⟨d, h1⟩ := begin_known hv
    cases hu : known u with
    | false =>
      have h2 := begin_unknown hu
      go_enter Tryd.func8, Tryd.ntmps8
      go_wp2_with (first
        | (go_at_call 10; refine (shown_any a _ (hE _ (by (repeat (first | exact Below.refl _ _ | assumption | refine pb_alloc ?_ _ | refine pb_drew ?_ | refine pb_drewN ?_ _ | refine pb_set ?_ (by simp; try omega) _ | refine pb_trans ?_ (by assumption)))))).mono ?_; rintro e w1 ⟨rfl, hb1⟩)
        | (go_at_call 16; (with_reducible refine (begin_eq h1 _ (hE _ (by (repeat (first | exact Below.refl _ _ | assumption | refine pb_alloc ?_ _ | refine pb_drew ?_ | refine pb_drewN ?_ _ | refine pb_set ?_ (by simp; try omega) _ | refine pb_trans ?_ (by assumption)))))).mono ?_); rintro e w2 ⟨rfl, hb2⟩)
        | (go_at_call 16; (with_reducible refine (begin_eq h2 _ (hE _ (by (repeat (first | exact Below.refl _ _ | assumption | refine pb_alloc ?_ _ | refine pb_drew ?_ | refine pb_drewN ?_ _ | refine pb_set ?_ (by simp; try omega) _ | refine pb_trans ?_ (by assumption)))))).mono ?_); rintro e w3 ⟨rfl, hb3⟩)
        | (go_at_call 17; refine (known_any _ _).mono ?_; rintro e w4 ⟨rfl, hb4⟩))
      go_ret
      exact ⟨rfl, by (repeat (first | exact Below.refl _ _ | assumption | refine pb_alloc ?_ _ | refine pb_drew ?_ | refine pb_drewN ?_ _ | refine pb_set ?_ (by simp; try omega) _ | refine pb_trans ?_ (by assumption)))⟩
    | true =>
      obtain ⟨d2, h2⟩ := begin_known hu
      by_cases hvu : v = u
      · have hq : (v == u) = true := by simp [hvu]
        go_enter Tryd.func8, Tryd.ntmps8
        go_wp2_with (first
          | (go_at_call 10; refine (shown_any a _ (hE _ (by (repeat (first | exact Below.refl _ _ | assumption | refine pb_alloc ?_ _ | refine pb_drew ?_ | refine pb_drewN ?_ _ | refine pb_set ?_ (by simp; try omega) _ | refine pb_trans ?_ (by assumption)))))).mono ?_; rintro e w1 ⟨rfl, hb1⟩)
          | (go_at_call 16; (with_reducible refine (begin_eq h1 _ (hE _ (by (repeat (first | exact Below.refl _ _ | assumption | refine pb_alloc ?_ _ | refine pb_drew ?_ | refine pb_drewN ?_ _ | refine pb_set ?_ (by simp; try omega) _ | refine pb_trans ?_ (by assumption)))))).mono ?_); rintro e w2 ⟨rfl, hb2⟩)
          | (go_at_call 16; (with_reducible refine (begin_eq h2 _ (hE _ (by (repeat (first | exact Below.refl _ _ | assumption | refine pb_alloc ?_ _ | refine pb_drew ?_ | refine pb_drewN ?_ _ | refine pb_set ?_ (by simp; try omega) _ | refine pb_trans ?_ (by assumption)))))).mono ?_); rintro e w3 ⟨rfl, hb3⟩)
          | (go_at_call 17; refine (known_any _ _).mono ?_; rintro e w4 ⟨rfl, hb4⟩))
        go_ret
        exact ⟨rfl, by (repeat (first | exact Below.refl _ _ | assumption | refine pb_alloc ?_ _ | refine pb_drew ?_ | refine pb_drewN ?_ _ | refine pb_set ?_ (by simp; try omega) _ | refine pb_trans ?_ (by assumption)))⟩
      · have hq : (v == u) = false := by simp [hvu]
        have h3 := begin_migrates hv hu hvu h1 h2
        clear hvu
        go_enter Tryd.func8, Tryd.ntmps8
        go_wp2_with (first
          | (go_at_call 10; refine (shown_any a _ (hE _ (by (repeat (first | exact Below.refl _ _ | assumption | refine pb_alloc ?_ _ | refine pb_drew ?_ | refine pb_drewN ?_ _ | refine pb_set ?_ (by simp; try omega) _ | refine pb_trans ?_ (by assumption)))))).mono ?_; rintro e w1 ⟨rfl, hb1⟩)
          | (go_at_call 16; (with_reducible refine (begin_eq h1 _ (hE _ (by (repeat (first | exact Below.refl _ _ | assumption | refine pb_alloc ?_ _ | refine pb_drew ?_ | refine pb_drewN ?_ _ | refine pb_set ?_ (by simp; try omega) _ | refine pb_trans ?_ (by assumption)))))).mono ?_); rintro e w2 ⟨rfl, hb2⟩)
          | (go_at_call 16; (with_reducible refine (begin_eq h2 _ (hE _ (by (repeat (first | exact Below.refl _ _ | assumption | refine pb_alloc ?_ _ | refine pb_drew ?_ | refine pb_drewN ?_ _ | refine pb_set ?_ (by simp; try omega) _ | refine pb_trans ?_ (by assumption)))))).mono ?_); rintro e w3 ⟨rfl, hb3⟩; have kA : Blk w3 w2.heap.size #[.int .i64 v, .int .u32 ((0 : Nat) : Int), .string (bs d)] 24 := Blk.call (by (repeat (first | assumption | exact Blk.new (by simp) | refine Blk.alloc ?_ _ | refine Blk.drew ?_ | refine Blk.drewN ?_ _))) hb3; have cA := kA.cell; have hlA := kA.lt)
          | (go_at_call 12; refine (migrate_eq h3 _ (hE _ (by (repeat (first | exact Below.refl _ _ | assumption | refine pb_alloc ?_ _ | refine pb_drew ?_ | refine pb_drewN ?_ _ | refine pb_set ?_ (by simp; try omega) _ | refine pb_trans ?_ (by assumption)))))).mono ?_; rintro e w4 ⟨rfl, hb4⟩; replace kA : Blk w4 w2.heap.size #[.int .i64 v, .int .u32 ((0 : Nat) : Int), .string (bs d)] 24 := Blk.call (by (repeat (first | assumption | exact Blk.new (by simp) | refine Blk.alloc ?_ _ | refine Blk.drew ?_ | refine Blk.drewN ?_ _))) hb4; have kB : Blk w4 w3.heap.size #[.int .i64 u, .int .u32 ((0 : Nat) : Int), .string (bs d2)] 24 := Blk.call (by (repeat (first | assumption | exact Blk.new (by simp) | refine Blk.alloc ?_ _ | refine Blk.drew ?_ | refine Blk.drewN ?_ _))) hb4; clear cA; have cA := kA.cell; have cB := kB.cell; have hlA4 := kA.lt; have hlB4 := kB.lt))
        go_ret
        exact ⟨rfl, by (repeat (first | exact Below.refl _ _ | assumption | refine pb_alloc ?_ _ | refine pb_drew ?_ | refine pb_drewN ?_ _ | refine pb_set ?_ (by simp; try omega) _ | refine pb_trans ?_ (by assumption)))⟩
end Go.Proofs.YtpiccdmaakipaaaDoor
