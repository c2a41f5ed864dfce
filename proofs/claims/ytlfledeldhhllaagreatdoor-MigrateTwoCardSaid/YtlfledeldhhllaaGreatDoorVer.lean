/- WALKS of the registry's Known and Check, of the program alone. No condition. -/
import Derived.Test.YtlfledeldhhllaaGreatDoorLib
import Derived.Test.YtlfledeldhhllaaGreatDoorProg
import Derived.Outline
namespace Go.Proofs.YtlfledeldhhllaaGreatDoor
open Go Go.RowKit Go.Shelf
attribute [local go_sem] Oper.semAt_some

/-- Is it a version? -/
def known (v : Int) : Bool := decide (1 ≤ v) && decide (v ≤ 3)

set_option maxHeartbeats 1000000 in
/-- The iterator over all versions: 1, 2, 3. -/
theorem versions_iter (F : Fence) (n : Nat) (hF : F.fn 52) (hro : F.round = none) (hn : 1 ≤ n) :
    Iter F n Tryz.prog 52 #[] (fun v : Int => #[Value.int .i64 v]) (fun (s : Nat) x => s < 3 ∧ x = (s : Int) + 1) (fun s _ => s + 1) (fun s => s = 3) (fun _ _ => True) 0 := by
  intro l J Jx W hJ hJx hRd hY h0
  refine callsIn_of_wp Tryz.func52 rfl hF ?_ hro
  simp only [Tryz.ntmps52, List.size_toArray, List.length_cons, List.length_nil, Nat.reduceAdd, Nat.reduceSub, Array.replicate_succ, Array.replicate_zero, List.push_toArray, List.append_toArray, List.nil_append, List.cons_append]
  gi_wp2
  gi_loopw [2] (fun p wr => ∃ (s : Nat) (X : Nat → Prop), p = .int .i64 ((s : Int) + 1) ∧ s ≤ 3 ∧ J s X wr) (fun p _ => 4 - (intOf p).toNat)
  case atStart => exact ⟨0, _, rfl, by omega, h0⟩
  case round =>
    obtain ⟨s, X, rfl, hs, hJs⟩ := hrel
    by_cases hlt : s < 3
    · obtain ⟨fn, tmps, assign, body, hy, hR⟩ := hY s _ X _ hJs ⟨hlt, rfl⟩
      gi_wp2
      refine hR.mono ?_
      rintro e W' (⟨rfl, hJ', _⟩ | ⟨rfl, hx'⟩)
      · gi_wp2
        go_roundw
        case rel => exact ⟨s + 1, X, by go_num, by omega, hJ'⟩
        case measure => simp [intOf]; omega
      · gi_wp2
        refine bodyPost_ret (results_none rfl _ _ _) rfl ?_
        exact ⟨⟨_, rfl⟩, .inr ⟨X, hx'⟩⟩
    · gi_wp2
      go_end0
      obtain rfl : s = 3 := by omega
      exact ⟨⟨_, rfl⟩, .inl ⟨3, X, rfl, hJs⟩⟩

set_option maxHeartbeats 1000000 in
theorem known_any (v : Int) (w : World) : Calls Tryz.prog 28 #[.int .i64 v] w fun e w' => e = .returned (.bool (known v)) ∧ Below w.heap.size w w' := by
  refine calls_of_wp_marks Tryz.func28 rfl ?_
  simp only [Tryz.ntmps28, List.size_toArray, List.length_cons, List.length_nil, Nat.reduceAdd, Nat.reduceSub, Array.replicate_succ, Array.replicate_zero, List.push_toArray, List.append_toArray, List.nil_append, List.cons_append]
  go_wp2
  go_step3
  go_wp2
  go_step3
  go_wp2
  obtain ⟨W0, hW0⟩ : ∃ W0, W0 = (w.alloc (.cells #[.int .i64 v] 3)).alloc (.cells #[.bool false] 4) := ⟨_, rfl⟩
  rw [← hW0]
  have hsz : W0.heap.size = w.heap.size + 2 := by rw [hW0]; simp
  have hb0 : Below w.heap.size w W0 := by rw [hW0]; exact ((Below.refl _ _).alloc (Nat.le_refl _) _).alloc (by simp) _
  have c0 : W0.cell? ⟨w.heap.size, 0, none⟩ = some (.int .i64 v) := by rw [hW0]; simp
  have c1 : W0.cell? ⟨w.heap.size + 1, 0, none⟩ = some (.bool false) := by rw [hW0]; simp
  have f1 : W0.frozen? ⟨w.heap.size + 1, 0, none⟩ = false := by rw [hW0]; simp
  clear hW0
  refine wp_range (gf := 52) (lb := #[]) rfl (enters_of Tryz.func52 (by kernel_rfl) rfl) (versions_iter Fence.wide 2 trivial rfl (by omega)) (fun _ => rfl)
    (fun s X W => (∀ j : Nat, j < s → v ≠ (j : Int) + 1) ∧ Fr (fun _ => False) W0 X W)
    (fun c X W => c = .exit 0 ∧ known v = true ∧ Fr (fun k => k = w.heap.size + 1) W0 X W ∧ W.cell? ⟨w.heap.size + 1, 0, none⟩ = some (.bool true))
    (fun s X X' W W' h hm hx => ⟨h.1, h.2.step hm hx⟩)
    (fun c s X X' W W' h hm hx => ⟨h.1, h.2.1, h.2.2.1.step hm hx, (h.2.2.1.cell hm (by simp; omega)).trans h.2.2.2⟩)
    (fun _ _ _ _ => trivial) ⟨fun j h => absurd h (Nat.not_lt_zero _), Fr.refl _ _⟩
    (fun x => { tmps := #[.int .i64 v, .pointer (some ⟨w.heap.size, 0, none⟩), .bool false, .pointer (some ⟨w.heap.size + 1, 0, none⟩), .int .i64 x, .func (.func 52) #[] #[], .int .i64 x, undef, undef, undef, undef], defers := [] }) ?assign ?body ?done ?stop
  case assign =>
    intro l x W K hK
    gi_wp2
    exact hK
  case body =>
    rintro l s x X W ⟨hv, hfr⟩ ⟨hs, rfl⟩ hl _
    have d0 : W.cell? ⟨w.heap.size, 0, none⟩ = some (.int .i64 v) := (hfr.2.cell (by simp; omega) (fun h => h)).trans c0
    have d1 : W.cell? ⟨w.heap.size + 1, 0, none⟩ = some (.bool false) := (hfr.2.cell (by simp; omega) (fun h => h)).trans c1
    have e1 : W.frozen? ⟨w.heap.size + 1, 0, none⟩ = false := (hfr.2.frozen (by simp; omega) (fun h => h)).trans f1
    by_cases hx : v = (s : Int) + 1
    · have hk : Hid (known v = true) := by show known v = true; simp [known]; omega
      subst hx
      gi_wp2
      refine ⟨⟨rfl, hk.out, (hfr.wider (fun _ h => h.elim)).mod (Mod.setCell (X := fun k => w.heap.size + 1 = k) W _ _ rfl) (fun _ _ h => h.symm), ?_⟩, Saves.of_mod (Mod.setCell (X := fun k => k = w.heap.size + 1) W _ _ rfl) (fun k _ hX he => ?_)⟩
      · exact World.cell?_setCell_same' _ _ _ (by rw [d1]; rfl)
      · have := hfr.1 k hX; omega
    · gi_wp2
      refine ⟨⟨fun j hj => ?_, hfr⟩, Saves.refl _ _⟩
      by_cases h : j = s
      · rw [h]; exact hx
      · exact hv j (by omega)
  case done =>
    rintro D s X W hD hXD rfl ⟨hv, hfr⟩ hK
    have d1 : W.cell? ⟨w.heap.size + 1, 0, none⟩ = some (.bool false) := (hfr.2.cell (by simp; omega) (fun h => h)).trans c1
    go_wp2
    rw [Exit.noGoto_ret]
    have hn : known v = false := by
      have h1 := hv 0 (by omega); have h2 := hv 1 (by omega); have h3 := hv 2 (by omega)
      simp [known]; omega
    exact end_mark1 hK (results_tmp rfl _ _ _) ⟨by rw [hn]; rfl, below_putObj (hb0.trans (hfr.below (by omega) (fun _ h => h.elim))) (by omega) _⟩
  case stop =>
    rintro D c X W hD hXD ⟨rfl, hk, hfr, d1⟩ hK
    go_wp2
    rw [Exit.noGoto_ret]
    exact end_mark1 hK (results_tmp rfl _ _ _) ⟨by rw [hk]; rfl, below_putObj (hb0.trans (hfr.below (by omega) (fun _ h => by omega))) (by omega) _⟩

/-- May a version be switched to another one? 0, or the error's number. -/
def checkE (a b : Int) : Int := if known a && known b then (if a = b then 131 else 0) else 130

theorem check_any (a b : Int) (w : World) : Calls Tryz.prog 41 #[.int .i64 a, .int .i64 b] w fun e w' => e = .returned (.int .i64 (checkE a b)) ∧ Below w.heap.size w w' := by
  cases ha : known a
  · go_enter Tryz.func41, Tryz.ntmps41
    go_wp2_with (go_at_call 28; refine (known_any _ _).mono ?_; rintro e w' ⟨rfl, hb⟩)
    go_ret
    exact ⟨by simp [checkE, ha], by assumption⟩
  · cases hk : known b
    · go_enter Tryz.func41, Tryz.ntmps41
      go_wp2_with (go_at_call 28; refine (known_any _ _).mono ?_; rintro e w' ⟨rfl, hb⟩)
      go_ret
      exact ⟨by simp [checkE, ha, hk], Below.trans (by assumption) (Below.mono (by assumption) (Below.size (by assumption)))⟩
    · by_cases hab : a = b
      · have hab' : (a == b) = true := by simp [hab]
        go_enter Tryz.func41, Tryz.ntmps41
        go_wp2_with (go_at_call 28; refine (known_any _ _).mono ?_; rintro e w' ⟨rfl, hb⟩)
        go_ret
        exact ⟨by subst hab; simp [checkE, ha], Below.trans (by assumption) (Below.mono (by assumption) (Below.size (by assumption)))⟩
      · have hab' : (a == b) = false := by simp [hab]
        go_enter Tryz.func41, Tryz.ntmps41
        go_wp2_with (go_at_call 28; refine (known_any _ _).mono ?_; rintro e w' ⟨rfl, hb⟩)
        go_ret
        exact ⟨by simp [checkE, ha, hk, hab], Below.trans (by assumption) (Below.mono (by assumption) (Below.size (by assumption)))⟩
end Go.Proofs.YtlfledeldhhllaaGreatDoor
