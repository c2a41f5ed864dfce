/- WHAT A FOLD IS IN MEMORY; walks of isNil, now, Count, New, all. Condition: the fold is one that calls have made. -/
import Derived.Test.YtlfledeldhhllaaGreatDoorEp1
import Derived.Test.YtlfledeldhhllaaGreatDoorIds3
import Derived.Test.YtlfledeldhhllaaGreatDoorValEra
import Derived.IntWalk
namespace Go.Proofs.YtlfledeldhhllaaGreatDoor
open Go Go.RowKit Go.Shelf Go.Extern.Stop Go.Stop Go.Extern Go.Lib
attribute [local go_sem] Oper.semAt_some wide_fn wide_depth

def foldCells (bb : Nat) (ev : Value) (f : FoldS) : Array Value := #[.pointer (some ⟨bb, 0, none⟩), ev, .int .i64 f.count, .bool f.sw]
def FoldAt (B : Nat) (f : FoldS) (t : List Nat) (ow : Own) (W : World) : Prop :=
  f.eras ≠ [] ∧ ∃ bb ev, Blk W B (foldCells bb ev f) 77 ∧ BookAt bb f.book (t ++ [0]) ow W ∧ Row W 42 3 ev f.eras.length (f.eras.flatMap eraCells) ∧ ow B = t ∧ ∀ g, ev.ownBlock = some g → ow g = t
theorem FoldAt.loc (B : Nat) (f : FoldS) (t : List Nat) : Local t (FoldAt B f t) := by
  rintro ow ow' W W' ⟨hne, bb, ev, hB, hbk, hR, o1, o2⟩ hs hk
  have kB := hk B hB.lt (by rw [o1]; exact Sub.rfl' t)
  refine ⟨hne, bb, ev, hB.kept kB.2, ?_, hR.kept (fun g hg => (hk g (hR.lt hg) (by rw [o2 g hg]; exact Sub.rfl' t)).2), kB.1.trans o1, fun g hg => ?_⟩
  · exact (BookAt.loc bb f.book (t ++ [0])) ow ow' W W' hbk hs (fun k hk1 hk2 => hk k hk1 ((Sub.child t 0).trans hk2))
  · exact ((hk g (hR.lt hg) (by rw [o2 g hg]; exact Sub.rfl' t)).1).trans (o2 g hg)
theorem eraT : ElemT Tryz.prog 75 42 3 24 (.agg #[.int .u32 0, .int .i64 0, .int .i64 0]) := ⟨Tryz.underlying75, by kernel_rfl, rfl, by decide, by decide⟩
theorem eraCells_one (l : List EraD) : ∀ u ∈ l.flatMap eraCells, u.oneCell' = true := by
  intro u hu
  obtain ⟨m, _, hm⟩ := List.mem_flatMap.1 hu
  simp [eraCells] at hm
  rcases hm with rfl | rfl | rfl <;> rfl
theorem foldPtr_nil_no (a : Addr) (w : World) : (binOp .eql 56 (.pointer (some a)) (.pointer none)).run Tryz.prog w = .ok (.bool false) w := by kernel_rfl
theorem foldPtr_nil_yes (w : World) : (binOp .eql 56 (.pointer none) (.pointer none)).run Tryz.prog w = .ok (.bool true) w := by kernel_rfl

theorem era_f0 (a b c : Int) (w : World) : (Instr.field 42 (.agg #[.int .u32 a, .int .i64 b, .int .i64 c]) 0).run Tryz.prog w = .ok (.int .u32 a) w := by kernel_rfl
theorem era_f1 (a b c : Int) (w : World) : (Instr.field 42 (.agg #[.int .u32 a, .int .i64 b, .int .i64 c]) 1).run Tryz.prog w = .ok (.int .i64 b) w := by kernel_rfl
theorem isNil_none (w : World) : Calls Tryz.prog 31 #[.pointer none] w fun e w' => e = .returned (.bool true) ∧ w' = w := by
  have h0 := foldPtr_nil_yes w
  go_enter Tryz.func31, Tryz.ntmps31
  go_wp2
  go_ret
  exact ⟨rfl, rfl⟩
theorem isNil_no (B : Nat) (f : FoldS) (t : List Nat) (ow : Own) (w : World) (h : FoldAt B f t ow w) : Calls Tryz.prog 31 #[.pointer (some ⟨B, 0, none⟩)] w fun e w' => e = .returned (.bool false) ∧ w' = w := by
  obtain ⟨hne, bb, ev, hB, -, hR, -⟩ := h
  have h0 := foldPtr_nil_no ⟨B, 0, none⟩ w
  obtain ⟨a, c, rfl⟩ := hR.src.shape
  have e0 := hB.cell
  unfold foldCells at e0
  have t0 : ((f.eras.length : Int) == 0) = false := by simpa using hne
  clear hB hR hne
  go_enter Tryz.func31, Tryz.ntmps31
  go_wp2
  go_ret
  exact ⟨rfl, rfl⟩

theorem nowP_at {l : List EraD} {m : Nat} (h : l.length = m + 1) : l[m]? = some (nowP l) := by
  unfold nowP
  rw [List.getLast?_eq_getElem?, h, Nat.add_sub_cancel, List.getElem?_eq_getElem (by omega)]
  rfl
set_option maxRecDepth 8000 in
theorem now_any (B : Nat) (f : FoldS) (t : List Nat) (ow : Own) (w : World) (h : FoldAt B f t ow w) (hl : f.eras.length ≤ 1073741824) : Calls Tryz.prog 33 #[.pointer (some ⟨B, 0, none⟩)] w fun e w' => e = .returned (eraV (nowP f.eras)) ∧ Below w.heap.size w w' := by
  obtain ⟨hne, bb, ev, hB, -, hR, -⟩ := h
  obtain ⟨m, hm⟩ : ∃ m, f.eras.length = m + 1 := ⟨f.eras.length - 1, by have := List.length_pos_iff.2 hne; omega⟩
  rcases hR.form with ⟨-, h, -⟩ | ⟨g, cap, rfl, hc, hcm⟩
  · omega
  have hx := nowP_at hm
  have hcell : ∀ j, j < 3 → w.cell? ⟨g, m * 3 + j, none⟩ = (eraCells (nowP f.eras))[j]? := fun j hj => by
    have h1 := flatEra_at f.eras m _ hx j hj
    rw [← h1, hR.cellAt _ (by omega)]
  obtain ⟨⟨ep, ve, st⟩, hn⟩ : ∃ n, nowP f.eras = n := ⟨_, rfl⟩
  rw [hn] at hcell ⊢
  have c0 : w.cell? ⟨g, m * 3, none⟩ = some (.int .u32 ep) := hcell 0 (by omega)
  have c1 : w.cell? ⟨g, m * 3 + 1, none⟩ = some (.int .i64 ve) := hcell 1 (by omega)
  have c2 : w.cell? ⟨g, m * 3 + 2, none⟩ = some (.int .i64 st) := hcell 2 (by omega)
  have hg := hR.lt (g := g) rfl
  have hBl := hB.lt
  rw [hm] at hB hc
  clear hcell hx hn hR hne
  unfold eraV
  simp only
  have hmi : (m : Int) + 1 ≤ 1073741824 := by omega
  have hwr : IntKind.i64.wrap (m : Int) = m := IntWalk.i64_in _ (by omega)
  have hmi0 : (0 : Int) ≤ m := by omega
  have hmi1 : (m : Int) < (m : Int) + 1 := by omega
  clear hm hl
  go_enter Tryz.func33, Tryz.ntmps33
  go_wp2
  unfold foldCells at hB
  refine wp_region_sched [(0, true), (1, true), (2, true), (3, true), (4, true), (5, true), (6, true), (7, true), (8, true), (9, true), (10, true), (11, true), (12, false)] (some 12) (fun w' => Blk w' B #[.pointer (some ⟨bb, 0, none⟩), .slice (some ⟨g, 0, none⟩) (m + 1) cap, .int .i64 f.count, .bool f.sw] 77 ∧ w'.cell? ⟨g, m * 3, none⟩ = some (.int .u32 ep) ∧ w'.cell? ⟨g, m * 3 + 1, none⟩ = some (.int .i64 ve) ∧ w'.cell? ⟨g, m * 3 + 2, none⟩ = some (.int .i64 st) ∧ True) (by kernel_rfl) (by kernel_rfl)
    ⟨(hB.alloc _).drew, cell_alloc c0 _, cell_alloc c1 _, cell_alloc c2 _, trivial⟩ ?_
  (repeat (refine wpSched_quiet (v := ?_) rfl rfl (fun w' hS => ?_) (fun K hK => ?_); rotate_left; (focus ((try have e1 := hS.1.cell); (try have e2 := hS.2.1.cell); (try have e3 := hS.2.2.1.cell); (try have e4 := hS.2.2.2.1.cell); (try have f1 := hS.1); (try have f2 := hS.2.1); (try have f3 := hS.2.2.1); (try have f4 := hS.2.2.2.1); (try have f5 := hS.2.2.2.2.1); clear hS; go_simp; (try with_reducible rfl))); (go_simp; refine hK _ ?_; clear hK K)))
  refine wpSched_loud rfl (fun K hK => ?_)
  go_wp2
  refine hK.out _ _ (fun h => absurd rfl h) ?_
  clear hK K
  refine wpSched_nil ?_
  go_wp2
  exact bodyPost_ret (v := .agg #[.int .u32 ep, .int .i64 ve, .int .i64 st]) (by simp [results, Tryz.results33, go_sem]) rfl ⟨rfl, by (repeat (first | exact Below.refl _ _ | with_reducible assumption | refine pb_alloc ?_ _ | refine pb_drew ?_ | refine pb_drewN ?_ _ | refine pb_set ?_ (by simp; try omega) _ | refine pb_trans ?_ (by with_reducible assumption)))⟩

theorem all_any (B : Nat) (f : FoldS) (t : List Nat) (ow : Own) (w : World) (h : FoldAt B f t ow w) : Calls Tryz.prog 49 #[.pointer (some ⟨B, 0, none⟩)] w fun e w' =>
    ∃ ev, e = .returned (.func (.func 82) #[] #[.pointer (some ⟨w.heap.size, 0, none⟩)]) ∧ w' = w.alloc (.cells #[ev] 75) ∧ Row w 42 3 ev f.eras.length (f.eras.flatMap eraCells) ∧ ∀ g, ev.ownBlock = some g → ow g = t := by
  obtain ⟨hne, bb, ev, hB, -, hR, -, ho⟩ := h
  obtain ⟨a, n, c, rfl⟩ := hR.shape
  have e0 := hB.cell
  unfold foldCells at e0
  clear hB hne
  replace ho : Hid (∀ _, _) := ho
  go_enter Tryz.func49, Tryz.ntmps49
  go_wp2_with (go_at_call 70; refine (valEra_any _ ⟨_, _, _, rfl⟩ _).mono ?_; rintro e w1 ⟨rfl, rfl⟩)
  go_ret
  exact ⟨_, rfl, rfl, hR, ho.out⟩
end Go.Proofs.YtlfledeldhhllaaGreatDoor
