/- PROVED HERE: WALKS: slices.Delete of messages (none, all), migrate's each and release. Condition: the local is one that calls have made. WALK: migrate's release, of one that is not blocked. Condition: the local is one that calls have made. WALKS: migrate's New, Apply. Condition: the local is one that calls have made; the registry's error variable holds its error. -/
import Derived.Lib.SliceRun
import Derived.Test.YtaopeioebpfdeaaGreatDoorK14
namespace Go.Proofs.YtaopeioebpfdeaaGreatDoor
open Go Go.RowKit Go.Shelf Go.Extern.Stop Go.Stop Go.Extern
attribute [local go_sem] Oper.semAt_some wide_fn wide_depth

theorem append_none (a b : Option Addr) (c c' : Nat) (ty : TypeId) (w : World) : (Builtin.append_ #[42, 42] ty #[.slice a 0 c, .slice b 0 c']).run Tryz.prog w = .ok (.slice a 0 c) w := by
  obtain ⟨i, hi, hz0, hz1, hz2⟩ := info_parts msgT.info
  cases a <;> cases b <;> simp [Builtin.append_, run_underlying msgT.under, sizeOf, typeInfo, hi, Builtin.lenOf, Builtin.firstCells, loadCells, loadCellsFrom, storeCells]
theorem heap_setCells (g : Nat) : ∀ (vs : List Value) (o : Nat) (w : World) (cur : Array Value) (e : TypeId), w.heap[g]? = some (.cells cur e (0, 0)) →
    (∃ cur', (w.setCells g o vs).heap[g]? = some (.cells cur' e (0, 0)) ∧ cur'.size = cur.size) ∧ Mod (fun k => k = g) w (w.setCells g o vs)
  | [], _, w, cur, e, h => ⟨⟨cur, h, rfl⟩, Mod.refl _ _⟩
  | v :: vs, o, w, cur, e, h => by
    have h1 : Blk (w.setCell ⟨g, o, none⟩ v) g (cur.setIfInBounds o v) e := Blk.set (w := w) h v
    obtain ⟨⟨cur', h2, h3⟩, h4⟩ := heap_setCells g vs (o + 1) _ _ e h1
    refine ⟨⟨cur', h2, by simpa using h3⟩, (Mod.setCell (X := fun k => k = g) w ⟨g, o, none⟩ v rfl).trans h4 (fun _ _ e => e) (fun _ _ e => e)⟩
theorem clear_msgs {w : World} {g n cap : Nat} {cur : Array Value} (hn : 0 < n) (h : w.heap[g]? = some (.cells cur 34 (0, 0))) (hs : n * 3 ≤ cur.size) (ty : TypeId) :
    (Builtin.clear_ #[42] ty #[.slice (some ⟨g, 0, none⟩) n cap]).run Tryz.prog w = .ok (.tuple #[]) (w.setCells g 0 (Builtin.zeroCells #[.int .i64 0, .int .u32 0, .string ⟨#[]⟩] n).toList) := by
  have hb : Blk w g cur 34 := h
  have hv : ∀ w : World, (zeroValue 34).run Tryz.prog w = .ok (.agg #[.int .i64 0, .int .u32 0, .string ⟨#[]⟩]) w := fun w => by kernel_rfl
  have hlen : (Builtin.zeroCells #[.int .i64 0, .int .u32 0, .string ⟨#[]⟩] n).toList.length = n * 3 := by simp [Builtin.zeroCells]
  have hst := run_storeCells_cells (P := Tryz.prog) g 0 (Builtin.zeroCells #[.int .i64 0, .int .u32 0, .string ⟨#[]⟩] n).toList 0 w
    (fun j hj => by rw [hb.cell]; simp; rw [hlen] at hj; omega) (fun j hj => hb.frozen _) (fun u hu => by
      simp [Builtin.zeroCells] at hu
      obtain ⟨i, hi, rfl⟩ := hu
      have : i % 3 = 0 ∨ i % 3 = 1 ∨ i % 3 = 2 := by omega
      rcases this with h | h | h <;> rw [h] <;> rfl)
  obtain ⟨m, rfl⟩ : ∃ m, n = m + 1 := ⟨n - 1, by omega⟩
  simp only [Nat.add_zero] at hst
  simp [Builtin.clear_, run_underlying msgT.under, hv, Value.cells, hst]

theorem delete_zero (v : Value) (hv : ∃ a n c, v = .slice a n c ∧ n ≤ c ∧ c ≤ 9223372036854775807) (w : World) : Calls Tryz.prog 164 #[v, .int .i64 0, .int .i64 0] w fun e w' => e = .returned v ∧ w' = w := by
  obtain ⟨a, n, c, rfl, h1, h2⟩ := hv
  have y0 : (n : Int) ≤ c := by omega
  have y1 : (c : Int) ≤ 9223372036854775807 := by omega
  go_enter Tryz.func164, Tryz.ntmps164
  go_wp2
  go_ret
  exact ⟨rfl, rfl⟩
/-- What a deletion of all comes to. -/
def DelPost (g cap : Nat) (w : World) (e : Ending) (w' : World) : Prop :=
  e = .returned (.slice (some ⟨g, 0, none⟩) 0 cap) ∧ Mod (fun k => k = g) w w' ∧ Row w' 34 3 (.slice (some ⟨g, 0, none⟩) 0 cap) 0 []
theorem delete_all (g n cap : Nat) (xs : List Value) (hn : 0 < n) (w : World) (h : Row w 34 3 (.slice (some ⟨g, 0, none⟩) n cap) n xs) : Calls Tryz.prog 164 #[.slice (some ⟨g, 0, none⟩) n cap, .int .i64 0, .int .i64 n] w (DelPost g cap w) := by
  rcases h.2 with ⟨h0, -⟩ | ⟨g', cap', cur, h0, -, hg, hc, hm, hs, -⟩
  · cases h0
  cases h0
  unfold maxLen at hm
  obtain ⟨zs, hzs⟩ : ∃ zs, (Builtin.zeroCells #[.int .i64 0, .int .u32 0, .string ⟨#[]⟩] n).toList = zs := ⟨_, rfl⟩
  have hcl : ∀ ty, (Builtin.clear_ #[42] ty #[.slice (some ⟨g, 0, none⟩) n cap]).run Tryz.prog w.drew = .ok (.tuple #[]) (w.drew.setCells g 0 zs) := fun ty => by
    rw [← hzs]; exact clear_msgs (w := w.drew) hn hg (by rw [hs]; exact Nat.mul_le_mul_right 3 hc) ty
  obtain ⟨⟨cur', hg', hs'⟩, hmod⟩ := heap_setCells g zs 0 w.drew cur 34 hg
  have hpost : DelPost g cap w (.returned (.slice (some ⟨g, 0, none⟩) 0 cap)) (w.drew.setCells g 0 zs) :=
    ⟨rfl, (Mod.drew _ w).trans hmod (fun _ _ e => e) (fun _ _ e => e), rfl, .inr ⟨g, cap, cur', rfl, Nat.zero_le _, hg', Nat.zero_le _, by unfold maxLen; omega, by rw [hs', hs], by simp⟩⟩
  have y0 : (n : Int) ≤ cap := by omega
  have y1 : (cap : Int) ≤ 9223372036854775807 := by omega
  have y2 : (0 : Int) < n := by omega
  have y3 : ((0 : Int) == (n : Int)) = false := by simp; omega
  have hap := append_none
  generalize hW : w.drew.setCells g 0 zs = W at *
  replace hW : Hid (_ = _) := hW
  replace hpost : Hid (DelPost _ _ _ _ _) := hpost
  replace hap : Hid (∀ _, _) := hap
  clear h hg hs hg' hs' hmod hzs
  by_cases hcn : cap = n
  · subst hcn
    go_enter Tryz.func164, Tryz.ntmps164
    go_wp2_with fail
    refine wp_region_sched [(0, true), (1, true), (2, true), (3, true), (4, true), (5, true), (6, false), (7, true)] none (fun _ => True) (by kernel_rfl) (by kernel_rfl) trivial ?_
    (repeat (refine wpSched_quiet (v := ?_) rfl rfl (fun w' hS => ?_) (fun K hK => ?_); rotate_left; (focus ((try have e1 := hS.1.cell); (try have e2 := hS.2.1.cell); (try have e3 := hS.2.2.1.cell); (try have e4 := hS.2.2.2.1.cell); (try have f1 := hS.1); (try have f2 := hS.2.1); (try have f3 := hS.2.2.1); (try have f4 := hS.2.2.2.1); (try have f5 := hS.2.2.2.2.1); clear hS; go_simp; (try with_reducible rfl))); (go_simp; refine hK _ ?_; clear hK K)))
    refine wpSched_loud rfl (fun K hK => ?_)
    refine wpList_append_by rfl _ _ _ rfl rfl rfl (hap.out _ _ _ _ _ _) ?_
    unfold wpList
    refine hK.out _ _ (fun _ => trivial) ?_
    clear hK K
    (repeat (refine wpSched_quiet (v := ?_) rfl rfl (fun w' hS => ?_) (fun K hK => ?_); rotate_left; (focus ((try have e1 := hS.1.cell); (try have e2 := hS.2.1.cell); (try have e3 := hS.2.2.1.cell); (try have e4 := hS.2.2.2.1.cell); (try have f1 := hS.1); (try have f2 := hS.2.1); (try have f3 := hS.2.2.1); (try have f4 := hS.2.2.2.1); (try have f5 := hS.2.2.2.2.1); clear hS; go_simp; (try with_reducible rfl))); (go_simp; refine hK _ ?_; clear hK K)))
    refine wpSched_nil ?_
    go_wp2
    go_ret
    exact hpost.out
  ·
    go_enter Tryz.func164, Tryz.ntmps164
    go_wp2_with fail
    refine wp_region_sched [(0, true), (1, true), (2, true), (3, true), (4, true), (5, true), (6, false), (7, true)] none (fun _ => True) (by kernel_rfl) (by kernel_rfl) trivial ?_
    (repeat (refine wpSched_quiet (v := ?_) rfl rfl (fun w' hS => ?_) (fun K hK => ?_); rotate_left; (focus ((try have e1 := hS.1.cell); (try have e2 := hS.2.1.cell); (try have e3 := hS.2.2.1.cell); (try have e4 := hS.2.2.2.1.cell); (try have f1 := hS.1); (try have f2 := hS.2.1); (try have f3 := hS.2.2.1); (try have f4 := hS.2.2.2.1); (try have f5 := hS.2.2.2.2.1); clear hS; go_simp; (try with_reducible rfl))); (go_simp; refine hK _ ?_; clear hK K)))
    refine wpSched_loud rfl (fun K hK => ?_)
    refine wpList_append_by rfl _ _ _ rfl rfl rfl (hap.out _ _ _ _ _ _) ?_
    unfold wpList
    refine hK.out _ _ (fun _ => trivial) ?_
    clear hK K
    (repeat (refine wpSched_quiet (v := ?_) rfl rfl (fun w' hS => ?_) (fun K hK => ?_); rotate_left; (focus ((try have e1 := hS.1.cell); (try have e2 := hS.2.1.cell); (try have e3 := hS.2.2.1.cell); (try have e4 := hS.2.2.2.1.cell); (try have f1 := hS.1); (try have f2 := hS.2.1); (try have f3 := hS.2.2.1); (try have f4 := hS.2.2.2.1); (try have f5 := hS.2.2.2.2.1); clear hS; go_simp; (try with_reducible rfl))); (go_simp; refine hK _ ?_; clear hK K)))
    refine wpSched_nil ?_
    go_wp2
    go_ret
    exact hpost.out

theorem mgEach_any (v : Value) (hv : ∃ a n c, v = .slice a n c) (w : World) : Calls Tryz.prog 163 #[v] w fun e w' =>
    e = .returned (.func (.func 93) #[] #[.pointer (some ⟨w.heap.size, 0, none⟩)]) ∧ w' = w.alloc (.cells #[v] 42) := by
  obtain ⟨a, n, c, rfl⟩ := hv
  go_enter Tryz.func163, Tryz.ntmps163
  go_wp2_with (go_at_call 61; refine (valMsg_any _ ⟨_, _, _, rfl⟩ _).mono ?_; rintro e w1 ⟨rfl, rfl⟩)
  go_ret
  exact ⟨rfl, rfl⟩
/-- What release comes to. -/
def RelPost (B : Nat) (R : LocalS × List MsgD) (t : List Nat) (ow : Own) (w : World) (e : Ending) (w' : World) : Prop :=
  ∃ v ow', e = .returned v ∧ Step t ow w ow' w' ∧ LocalAt B R.1 t ow' w' ∧ Row w' 34 3 v R.2.length (R.2.flatMap msgCells) ∧ (∀ g, v.ownBlock = some g → w.heap.size ≤ g ∧ ow' g = [])
set_option maxRecDepth 8000 in
set_option maxHeartbeats 1000000 in
theorem release_blocked (B : Nat) (L : LocalS) (t : List Nat) (_ht : t ≠ []) (ow : Own) (w : World) (h : LocalAt B L t ow w) (hb : L.blk = true) (hl : L.held.length + L.log.length ≤ 536870912) :
    Calls Tryz.prog 134 #[.pointer (some ⟨B, 0, none⟩)] w (RelPost B (L, []) t ow w) := by
  obtain ⟨hk, fb, hv, lv, hB0, hF0, hH0, hG0, o1, o2, o3⟩ := h
  unfold localCells at hB0
  have hgB : ∀ g, hv.ownBlock = some g → g ≠ B ∧ g < w.heap.size := fun g hg => ⟨hH0.ne_blk hB0 (by decide) hg, hH0.lt hg⟩
  have hgL : ∀ g, lv.ownBlock = some g → g ≠ B ∧ g < w.heap.size := fun g hg => ⟨hG0.ne_blk hB0 (by decide) hg, hG0.lt hg⟩
  have hgHL : ∀ g, lv.ownBlock = some g → hv.ownBlock ≠ some g := fun g h1 h2 => by have := (o3 g h1).symm.trans (o2 g h2); simp at this
  obtain ⟨ha, hn, hc, rfl⟩ := hH0.shape
  obtain ⟨la, ln, lc, rfl⟩ := hG0.shape
  have hdel : ∀ W', Row W' 34 3 (.slice ha hn hc) L.held.length (L.held.flatMap msgCells) → Calls Tryz.prog 164 #[.slice ha hn hc, .int .i64 0, .int .i64 (([] : List MsgD).length : Nat)] W' fun e w' => ∃ hv2, e = .returned hv2 ∧ Mod (fun k => (Value.slice ha hn hc).ownBlock = some k) W' w' ∧ Row w' 34 3 hv2 L.held.length (L.held.flatMap msgCells) ∧ hv2.ownBlock = (Value.slice ha hn hc).ownBlock := fun W' hR => by
    refine (delete_zero _ ⟨ha, hn, hc, rfl, ?_⟩ W').mono ?_
    · rcases hR.form with ⟨h, -⟩ | ⟨g, cap, h, h1, h2⟩
      · cases h; omega
      · cases h; unfold maxLen at h2; omega
    · rintro e w1 ⟨rfl, rfl⟩
      exact ⟨_, rfl, Mod.refl _ _, hR, rfl⟩
  obtain ⟨xs, hxs⟩ : ∃ xs : List MsgD, xs = [] := ⟨_, rfl⟩
  rw [show ((L, []) : LocalS × List MsgD) = ({ L with held := L.held, log := L.log ++ [] }, []) by simp]
  rw [← hxs] at hdel ⊢
  have hlen : L.log.length + xs.length ≤ 1073741824 := by rw [hxs]; simp; omega
  have e0 := hB0.cell
  have hlB := hB0.lt
  replace hF0 : Hid (FoldAt _ _ _ _ _) := hF0
  replace hgB : Hid (∀ _, _) := hgB
  replace hgL : Hid (∀ _, _) := hgL
  replace hgHL : Hid (∀ _, _) := hgHL
  replace o2 : Hid (∀ _, _) := o2
  replace o3 : Hid (∀ _, _) := o3
  replace hk : Hid (_ = _) := hk
  replace hdel : Hid (∀ _, _) := hdel
  replace hxs : Hid (_ = _) := hxs
  refine calls_of_wp_marks Tryz.func134 rfl ?_
  simp only [Tryz.ntmps134, List.size_toArray, List.length_cons, List.length_nil, Nat.reduceAdd, Nat.reduceSub, Array.replicate_succ, Array.replicate_zero, List.push_toArray, List.append_toArray, List.nil_append, List.cons_append]
  go_wp2
  go_step3
  go_wp2
  go_step3
  go_wp2_with fail
  refine (mgEach_any _ ⟨_, _, _, rfl⟩ _).mono ?_
  rintro e w1 ⟨rfl, rfl⟩
  go_wp2_with fail
  obtain ⟨W0, hW0⟩ : ∃ W0, W0 = (((w.alloc (.cells #[.pointer (some ⟨B, 0, none⟩)] 57)).alloc (.cells #[.slice none 0 0] 42)).alloc (.cells #[.slice ha hn hc] 42)) := ⟨_, rfl⟩
  have hsz : W0.heap.size = w.heap.size + 3 := by rw [hW0]; simp
  have hb0 : Below w.heap.size w W0 := by rw [hW0]; (repeat (first | exact Below.refl _ _ | with_reducible assumption | refine pb_alloc ?_ _ | refine pb_drew ?_ | refine pb_drewN ?_ _ | refine pb_set ?_ (by simp; try omega) _ | refine pb_trans ?_ (by with_reducible assumption)))
  have kpb0 : Blk W0 w.heap.size #[.pointer (some ⟨B, 0, none⟩)] 57 := by rw [hW0]; (repeat (first | with_reducible assumption | (refine Blk.new ?_; simp; done) | refine Blk.alloc ?_ _ | refine Blk.drew ?_ | refine Blk.drewN ?_ _ | refine Blk.call ?_ (by with_reducible assumption)))
  have knb0 : Blk W0 (w.heap.size + 1) #[.slice none 0 0] 42 := by rw [hW0]; (repeat (first | with_reducible assumption | (refine Blk.new ?_; simp; done) | refine Blk.alloc ?_ _ | refine Blk.drew ?_ | refine Blk.drewN ?_ _ | refine Blk.call ?_ (by with_reducible assumption)))
  have kcb0 : Blk W0 (w.heap.size + 1 + 1) #[.slice ha hn hc] 42 := by rw [hW0]; (repeat (first | with_reducible assumption | (refine Blk.new ?_; simp; done) | refine Blk.alloc ?_ _ | refine Blk.drew ?_ | refine Blk.drewN ?_ _ | refine Blk.call ?_ (by with_reducible assumption)))
  have hHW0 := hH0.below hb0
  rw [← hW0]
  clear hW0 e0
  refine wp_rangeBox (gf := 93) (lb := #[.pointer (some ⟨w.heap.size + 1 + 1, 0, none⟩)]) rfl (enters_of Tryz.func93 (by kernel_rfl) rfl)
      (valMsg_iter (w.heap.size + 1 + 1) (.slice ha hn hc) L.held (by omega)) (fun _ => rfl)
      (fun k X W => Fr (fun _ => False) W0 X W)
      (fun c X W => c = .exit 0 ∧ Fr (fun _ => False) W0 X W)
      (fun k X X' W W' h hm hx => h.step hm hx)
      (fun c s X X' W W' h hm hx => ⟨h.1, h.2.step hm hx⟩)
      (fun k X W h => ⟨kcb0.mod h.2 (fun h => h), (hHW0.mod h.2 (fun g hg e => e)).src⟩)
      (fun k X W h => ⟨by have := h.2.size; omega, fun k hk => (h.1 k hk).2⟩)
      (Fr.refl _ _)
      4 34 (fun x => #[.int .i64 x.1.1, .int .u32 x.1.2, .string (bs x.2)]) ?assign ?body ?done ?stop
  case assign =>
    intro l' x W K hK
    rw [laidIn_one] at hK ⊢
    unfold msgV at hK ⊢
    gi_wp2
    exact hK
  case body =>
    rintro l' k x cb X X1 W1 W h1 hfr hnx hcb hcw hXc kx hXl _
    obtain ⟨⟨xi, xc⟩, xd⟩ := x
    have kp := kpb0.mod hfr.2 (fun h => h)
    have kB := (hB0.call hb0).mod hfr.2 (fun h => h)
    rw [hb] at kB
    have ep := kp.cell
    have eB := kB.cell
    rw [laidIn_one]
    unfold msgV
    simp only at kx
    gi_wp2
    exact ⟨⟨rfl, hfr⟩, Saves.refl _ _⟩
  case done =>
    rintro D k X W hD hXD hfin hfr hdef
    have hbW : Below w.heap.size w W := hb0.trans (hfr.below (by omega) (fun k hk => hk.elim))
    have kpb := kpb0.mod hfr.2 (fun h => h)
    have kpv : Blk W (w.heap.size + 1) #[.slice none xs.length 0] 42 := by rw [hxs.out]; exact knb0.mod hfr.2 (fun h => h)
    have rowpv : Row W 34 3 (.slice none xs.length 0) xs.length (xs.flatMap msgCells) := by rw [hxs.out]; exact row_nil _ _ _
    have hpvn : ∀ g, (Value.slice none xs.length 0).ownBlock = some g → w.heap.size ≤ g ∧ g ≠ D := fun g hg => by cases hg
    have hDl := (Array.getElem?_eq_some_iff.1 hdef).1
    have hDw : w.heap.size ≤ D := by omega
    have hlB' := hlB
    obtain ⟨pa, pc, hpp⟩ : ∃ (pa : Option Addr) (pc : Nat), (pa, pc) = (none, 0) := ⟨_, _, rfl⟩
    simp only [Prod.mk.injEq] at hpp
    rw [← hpp.1, ← hpp.2] at kpv rowpv hpvn
    clear hpp
    replace hgB : ∀ _, _ := hgB.out
    replace hgL : ∀ _, _ := hgL.out
    replace hgHL : ∀ _, _ := hgHL.out
    have kB := hB0.call hbW
    have hHW := hH0.below hbW
    have hGW := hG0.below hbW
    have hl1 := kpv.lt
    have hl2 := kB.lt
    have hl3 := kpb.lt
    have hdelW := hdel.out W.drew hHW
    replace hdelW : Hid (Calls _ _ _ _ _) := hdelW
    replace hpvn : Hid (∀ _, _) := hpvn
    replace rowpv : Hid (Row _ _ _ _ _ _) := rowpv
    replace hGW : Hid (Row _ _ _ _ _ _) := hGW
    replace hHW : Hid (Row _ _ _ _ _ _) := hHW
    have hDB : D ≠ B := fun e => by omega
    have hnB : w.heap.size ≠ B := fun e => by omega
    have hnB1 : w.heap.size + 1 ≠ B := fun e => by omega
    replace hdef : Hid (_ = _) := hdef
    replace hgB : Hid (∀ _, _) := hgB
    replace hgL : Hid (∀ _, _) := hgL
    replace hgHL : Hid (∀ _, _) := hgHL
    have kB' := kB
    have kpb' := kpb
    have kpv' := kpv
    replace kB' : Hid (Blk _ _ _ _) := kB'
    replace kpb' : Hid (Blk _ _ _ _) := kpb'
    replace kpv' : Hid (Blk _ _ _ _) := kpv'
    go_wp2_with fail
    refine wp_region_sched [(0, true), (1, true), (2, true), (3, true), (4, true), (5, true), (6, true), (7, false), (8, true), (9, true), (10, false)] (some 10) (fun w' => Blk w' (w.heap.size) #[.pointer (some ⟨B, 0, none⟩)] 57 ∧ Blk w' B #[.pointer (some ⟨fb, 0, none⟩), .int .i64 L.st.1, .int .u32 L.st.2.1, .string (bs L.st.2.2), .bool L.blk, .slice ha hn hc, .slice la ln lc] 108 ∧ Blk w' (w.heap.size + 1) #[.slice pa xs.length pc] 42 ∧ True) (by kernel_rfl) (by kernel_rfl) ⟨kpb, kB, kpv, trivial⟩ ?_
    clear kB kpb kpv
    (repeat (refine wpSched_quiet (v := ?_) rfl rfl (fun w' hS => ?_) (fun K hK => ?_); rotate_left; (focus ((try have e1 := hS.1.cell); (try have e2 := hS.2.1.cell); (try have e3 := hS.2.2.1.cell); (try have e4 := hS.2.2.2.1.cell); (try have f1 := hS.1); (try have f2 := hS.2.1); (try have f3 := hS.2.2.1); (try have f4 := hS.2.2.2.1); (try have f5 := hS.2.2.2.2.1); clear hS; go_simp; (try with_reducible rfl))); (go_simp; refine hK _ ?_; clear hK K)))
    refine wpSched_loud rfl (fun K hK => ?_)
    go_wp2_with fail
    refine hdelW.out.mono ?_
    rintro e w1 ⟨hv2, rfl, hm, hR2, hown2⟩
    obtain ⟨ha2, hn2, hc2, rfl⟩ := hR2.shape
    have kB1 := kB'.out.drew.mod hm (fun e => (hgB.out B e).1 rfl)
    have kpb1 := kpb'.out.drew.mod hm (fun e => by have := (hgB.out _ e).2; omega)
    have kpv1 := kpv'.out.drew.mod hm (fun e => by have := (hgB.out _ e).2; omega)
    go_wp2
    refine hK.out _ _ (fun _ => ⟨kpb1, kB1, kpv1, trivial⟩) ?_
    clear hK K
    have f1 := kB1.frozen
    have c1 := kB1.cell
    have l1 := kB1.lt
    replace hR2 : Hid (Row _ _ _ _ _ _) := hR2
    replace hown2 : Hid (_ = _) := hown2
    (repeat (refine wpSched_quiet (v := ?_) rfl rfl (fun w' hS => ?_) (fun K hK => ?_); rotate_left; (focus ((try have e1 := hS.1.cell); (try have e2 := hS.2.1.cell); (try have e3 := hS.2.2.1.cell); (try have e4 := hS.2.2.2.1.cell); (try have f1 := hS.1); (try have f2 := hS.2.1); (try have f3 := hS.2.2.1); (try have f4 := hS.2.2.2.1); (try have f5 := hS.2.2.2.2.1); clear hS; go_simp; (try with_reducible rfl))); (go_simp; refine hK _ ?_; clear hK K)))
    refine wpSched_loud rfl (fun K hK => ?_)
    go_wp2
    refine hK.out _ _ (fun h => absurd rfl h) ?_
    clear hK K f1 c1
    refine wpSched_nil ?_
    go_wp2_with fail
    have kB2 := kB1.set (o := 5) (.slice ha2 hn2 hc2)
    have kpb2 := kpb1.other (p := ⟨B, 5, none⟩) hnB (.slice ha2 hn2 hc2)
    have kpv2 := kpv1.other (p := ⟨B, 5, none⟩) hnB1 (.slice ha2 hn2 hc2)
    obtain ⟨W2, hW2⟩ : ∃ W2, W2 = w1.setCell ⟨B, 5, none⟩ (.slice ha2 hn2 hc2) := ⟨_, rfl⟩
    have hM2 : Mod (fun k => k = B ∨ (Value.slice ha hn hc).ownBlock = some k ∨ (Value.slice la ln lc).ownBlock = some k) W W2 := by
      rw [hW2]
      exact ((Mod.drew (fun k => k = B ∨ (Value.slice ha hn hc).ownBlock = some k ∨ (Value.slice la ln lc).ownBlock = some k) W).trans hm (fun _ _ e => e) (fun _ _ e => .inr (.inl e))).thenSet (p := ⟨B, 5, none⟩) (.inl rfl) _
    have hset2 : ∀ k, k ≠ B → W2.heap[k]? = w1.heap[k]? := fun k hk => by rw [hW2]; exact Below.heap_setCell _ _ _ _ hk
    have hG2 : Row W2 34 3 (.slice la ln lc) L.log.length (L.log.flatMap msgCells) := (hGW.out.mod ((Mod.drew (fun _ => False) W).trans hm (Z := fun k => (Value.slice ha hn hc).ownBlock = some k) (fun _ _ e => e.elim) (fun _ _ e => e)) (fun g hg e => hgHL.out g hg e)).kept (fun g hg => hset2 g (hgL.out g hg).1)
    have hp2 : Row W2 34 3 (.slice pa xs.length pc) xs.length (xs.flatMap msgCells) := (rowpv.out.mod ((Mod.drew (fun _ => False) W).trans hm (Z := fun k => (Value.slice ha hn hc).ownBlock = some k) (fun _ _ e => e.elim) (fun _ _ e => e)) (fun g hg e => by have := (hpvn.out g hg).1; have := (hgB.out g e).2; omega)).kept (fun g hg => hset2 g (fun e => by have := (hpvn.out g hg).1; omega))
    have hH2 := hR2.out.kept (w' := W2) (fun g hg => hset2 g (hgB.out g (by rw [← hown2.out]; exact hg)).1)
    have hdef2 : W2.heap[D]? = some (.deferred (some [])) := by
      rw [hset2 D hDB, hm.block D (by simpa using hDl) (fun e => by have := (hgB.out D e).2; omega)]; exact hdef.out
    rw [← hW2] at kB2 kpb2 kpv2 ⊢
    have hs2 : W.heap.size ≤ W2.heap.size := hM2.size
    clear hW2 hm kB1 kpb1 kpv1 hR2 l1
    obtain ⟨lv', W3, hrun, hrow, hgr, hown⟩ := row_append msgT (w := W2.drew) hG2 hp2.src (msgCells_one xs) hlen 42
    obtain ⟨la3, ln3, lc3, rfl⟩ := hrow.shape
    have kB3 := kB2.drew.kept (w' := W3) (hgr.block B kB2.lt (fun e => (hgL.out B e.symm).1 rfl))
    have kpb3 := kpb2.drew.kept (w' := W3) (hgr.block _ kpb2.lt (fun e => by have := (hgL.out _ e.symm).2; omega))
    have kpv3 := kpv2.drew.kept (w' := W3) (hgr.block _ kpv2.lt (fun e => by have := (hgL.out _ e.symm).2; omega))
    replace hrow : Hid (Row _ _ _ _ _ _) := hrow
    replace hG2 : Hid (Row _ _ _ _ _ _) := hG2
    replace hp2 : Hid (Row _ _ _ _ _ _) := hp2
    replace hH2 : Hid (Row _ _ _ _ _ _) := hH2
    replace hown : Hid (_ ∨ _) := hown
    replace hdef2 : Hid (_ = _) := hdef2
    replace hset2 : Hid (∀ _, _) := hset2
    replace hrun : Hid (_ = _) := hrun
    replace kB3 : Hid (Blk _ _ _ _) := kB3
    replace kpb3 : Hid (Blk _ _ _ _) := kpb3
    replace kpv3 : Hid (Blk _ _ _ _) := kpv3
    refine wp_region_sched [(0, true), (1, true), (2, true), (3, true), (4, true), (5, true), (6, false), (7, true), (8, true), (9, false)] (some 9) (fun w' => Blk w' (w.heap.size) #[.pointer (some ⟨B, 0, none⟩)] 57 ∧ Blk w' B #[.pointer (some ⟨fb, 0, none⟩), .int .i64 L.st.1, .int .u32 L.st.2.1, .string (bs L.st.2.2), .bool L.blk, .slice ha2 hn2 hc2, .slice la ln lc] 108 ∧ Blk w' (w.heap.size + 1) #[.slice pa xs.length pc] 42 ∧ True) (by kernel_rfl) (by kernel_rfl) ⟨kpb2, kB2, kpv2, trivial⟩ ?_
    clear kB2 kpb2 kpv2
    (repeat (refine wpSched_quiet (v := ?_) rfl rfl (fun w' hS => ?_) (fun K hK => ?_); rotate_left; (focus ((try have e1 := hS.1.cell); (try have e2 := hS.2.1.cell); (try have e3 := hS.2.2.1.cell); (try have e4 := hS.2.2.2.1.cell); (try have f1 := hS.1); (try have f2 := hS.2.1); (try have f3 := hS.2.2.1); (try have f4 := hS.2.2.2.1); (try have f5 := hS.2.2.2.2.1); clear hS; go_simp; (try with_reducible rfl))); (go_simp; refine hK _ ?_; clear hK K)))
    refine wpSched_loud rfl (fun K hK => ?_)
    refine wpList_append_by rfl _ _ _ rfl rfl rfl hrun.out ?_
    unfold wpList
    refine hK.out _ _ (fun _ => ⟨kpb3.out, kB3.out, kpv3.out, trivial⟩) ?_
    clear hK K
    have f3 := kB3.out.frozen
    have c3 := kB3.out.cell
    have l3 := kB3.out.lt
    (repeat (refine wpSched_quiet (v := ?_) rfl rfl (fun w' hS => ?_) (fun K hK => ?_); rotate_left; (focus ((try have e1 := hS.1.cell); (try have e2 := hS.2.1.cell); (try have e3 := hS.2.2.1.cell); (try have e4 := hS.2.2.2.1.cell); (try have f1 := hS.1); (try have f2 := hS.2.1); (try have f3 := hS.2.2.1); (try have f4 := hS.2.2.2.1); (try have f5 := hS.2.2.2.2.1); clear hS; go_simp; (try with_reducible rfl))); (go_simp; refine hK _ ?_; clear hK K)))
    refine wpSched_loud rfl (fun K hK => ?_)
    go_wp2
    refine hK.out _ _ (fun h => absurd rfl h) ?_
    clear hK K f3 c3
    refine wpSched_nil ?_
    have kpv4 := kpv3.out.other (p := ⟨B, 6, none⟩) hnB1 (.slice la3 ln3 lc3)
    have kB4 := kB3.out.set (o := 6) (.slice la3 ln3 lc3)
    have cp4 := kpv4.cell
    replace kB4 : Hid (Blk _ _ _ _) := kB4
    go_wp2
    rw [Exit.noGoto_ret]
    have hg5 : ∀ g, (Value.slice la3 ln3 lc3).ownBlock = some g → ((Value.slice la ln lc).ownBlock = some g ∨ g = W2.heap.size) := fun g hg => by
      have := hown.out
      rw [hg] at this
      rcases this with h | h
      · exact .inl h.symm
      · right; simpa using h
    have hoth : ∀ k, k < W2.heap.size → k ≠ B → (Value.slice la ln lc).ownBlock ≠ some k → (W3.setCell ⟨B, 6, none⟩ (.slice la3 ln3 lc3)).heap[k]? = W2.heap[k]? := fun k hk h1 h2 =>
      (Below.heap_setCell _ _ _ _ h1).trans (hgr.block k hk (fun e => h2 e.symm))
    have hM4 : Mod (fun k => k = B ∨ (Value.slice ha hn hc).ownBlock = some k ∨ (Value.slice la ln lc).ownBlock = some k) W (W3.setCell ⟨B, 6, none⟩ (.slice la3 ln3 lc3)) :=
      ((hM2.thenDrew).trans (Mod.grown (X := fun k => (Value.slice la ln lc).ownBlock = some k) hgr (fun k h => h)) (fun _ _ e => e) (fun _ _ e => .inr (.inr e))).thenSet (p := ⟨B, 6, none⟩) (.inl rfl) _
    have hM5 := (Mod.of_below (fun k => k = B ∨ (Value.slice ha hn hc).ownBlock = some k ∨ (Value.slice la ln lc).ownBlock = some k) hbW).trans hM4 (fun _ _ e => e) (fun _ _ e => e)
    have hdef4 : (W3.setCell ⟨B, 6, none⟩ (.slice la3 ln3 lc3)).heap[D]? = some (.deferred (some [])) := (hoth D (by omega) hDB (fun e => by have := (hgL.out D e).2; omega)).trans hdef2.out
    have hput : ∀ k, k ≠ D → ((W3.setCell ⟨B, 6, none⟩ (.slice la3 ln3 lc3)).putObj D (.deferred none)).heap[k]? = (W3.setCell ⟨B, 6, none⟩ (.slice la3 ln3 lc3)).heap[k]? := fun k hk => World.putObj_heap_other hk
    have hpvl : ∀ g, (Value.slice pa xs.length pc).ownBlock = some g → g < W.heap.size := fun g hg => rowpv.out.lt hg
    refine end_mark1 (D := D) (v := .slice pa xs.length pc) hdef4 (by simp [results, Tryz.results134, go_sem]) ?_
    refine ⟨_, ow.ext w.heap.size (fun k => (Value.slice la3 ln3 lc3).ownBlock = some k) (t ++ [2]), rfl, ?_, ⟨hk.out, fb, .slice ha2 hn2 hc2, .slice la3 ln3 lc3, kB4.out.putObj (Ne.symm hDB) _, ?_, ?_, ?_, ?_, ?_, ?_⟩, ?_, ?_⟩
    · refine Step.putNew ⟨hM5.mono (fun k _ e => ?_), fun k hk => Own.ext_old hk⟩ D _ hDw
      rcases e with e | e | e
      · subst e; rw [o1]; exact Sub.rfl' t
      · rw [o2.out k e]; exact Sub.child t 1
      · rw [o3.out k e]; exact Sub.child t 2
    · refine FoldAt.loc fb L.fold (t ++ [0]) _ _ _ _ hF0.out (by have := hM5.size; simpa using this) (fun k hk1 hs => ⟨Own.ext_old hk1, (hput k (by omega)).trans (hM5.block k hk1 (fun e => ?_))⟩)
      rcases e with e | e | e
      · subst e; rw [o1] at hs; exact not_child_sub t 0 hs
      · rw [o2.out k e] at hs; exact (apart_child t (show (0 : Nat) ≠ 1 by omega)).1 hs
      · rw [o3.out k e] at hs; exact (apart_child t (show (0 : Nat) ≠ 2 by omega)).1 hs
    · refine hH2.out.kept (fun g hg => ?_)
      have h1 : (Value.slice ha hn hc).ownBlock = some g := by rw [← hown2.out]; exact hg
      rw [hput g (by have := (hgB.out g h1).2; omega)]
      exact hoth g (hH2.out.lt hg) (hgB.out g h1).1 (fun e => hgHL.out g e h1)
    · simp only [List.length_append, List.flatMap_append]
      refine hrow.out.kept (fun g hg => ?_)
      have h1 : g ≠ B ∧ g ≠ D := by
        rcases hg5 g hg with h | h
        · have := hgL.out g h; omega
        · have := hM2.size; omega
      rw [hput g h1.2]
      exact Below.heap_setCell _ _ _ _ h1.1
    · rw [Own.ext_old hB0.lt, o1]
    · intro g hg
      have h1 : (Value.slice ha hn hc).ownBlock = some g := by rw [← hown2.out]; exact hg
      rw [Own.ext_old (hgB.out g h1).2, o2.out g h1]
    · intro g hg
      rcases hg5 g hg with h | h
      · rw [Own.ext_old (hgL.out g h).2, o3.out g h]
      · rw [Own.ext_new (by have := hbW.size; omega) hg]
    · refine hp2.out.kept (fun g hg => ?_)
      have h1 := hpvn.out g hg
      rw [hput g h1.2]
      exact hoth g (by have := hpvl g hg; omega) (by omega) (fun e => by have := (hgL.out g e).2; omega)
    · intro g hg
      have h1 := hpvn.out g hg
      refine ⟨h1.1, Own.ext_none h1.1 (fun e => ?_)⟩
      have h2 := hpvl g hg
      rcases hg5 g e with h | h
      · have := (hgL.out g h).2; omega
      · omega
  case stop =>
    rintro D c X W hD hXD ⟨rfl, hfr⟩ hdef
    have hbW : Below w.heap.size w W := hb0.trans (hfr.below (by omega) (fun k hk => hk.elim))
    have kpb := kpb0.mod hfr.2 (fun h => h)
    have kpv : Blk W (w.heap.size + 1) #[.slice none xs.length 0] 42 := by rw [hxs.out]; exact knb0.mod hfr.2 (fun h => h)
    have rowpv : Row W 34 3 (.slice none xs.length 0) xs.length (xs.flatMap msgCells) := by rw [hxs.out]; exact row_nil _ _ _
    have hpvn : ∀ g, (Value.slice none xs.length 0).ownBlock = some g → w.heap.size ≤ g ∧ g ≠ D := fun g hg => by cases hg
    have hDl := (Array.getElem?_eq_some_iff.1 hdef).1
    have hDw : w.heap.size ≤ D := by omega
    have hlB' := hlB
    obtain ⟨pa, pc, hpp⟩ : ∃ (pa : Option Addr) (pc : Nat), (pa, pc) = (none, 0) := ⟨_, _, rfl⟩
    simp only [Prod.mk.injEq] at hpp
    rw [← hpp.1, ← hpp.2] at kpv rowpv hpvn
    clear hpp
    replace hgB : ∀ _, _ := hgB.out
    replace hgL : ∀ _, _ := hgL.out
    replace hgHL : ∀ _, _ := hgHL.out
    have kB := hB0.call hbW
    have hHW := hH0.below hbW
    have hGW := hG0.below hbW
    have hl1 := kpv.lt
    have hl2 := kB.lt
    have hl3 := kpb.lt
    have hdelW := hdel.out W.drew hHW
    replace hdelW : Hid (Calls _ _ _ _ _) := hdelW
    replace hpvn : Hid (∀ _, _) := hpvn
    replace rowpv : Hid (Row _ _ _ _ _ _) := rowpv
    replace hGW : Hid (Row _ _ _ _ _ _) := hGW
    replace hHW : Hid (Row _ _ _ _ _ _) := hHW
    have hDB : D ≠ B := fun e => by omega
    have hnB : w.heap.size ≠ B := fun e => by omega
    have hnB1 : w.heap.size + 1 ≠ B := fun e => by omega
    replace hdef : Hid (_ = _) := hdef
    replace hgB : Hid (∀ _, _) := hgB
    replace hgL : Hid (∀ _, _) := hgL
    replace hgHL : Hid (∀ _, _) := hgHL
    have kB' := kB
    have kpb' := kpb
    have kpv' := kpv
    replace kB' : Hid (Blk _ _ _ _) := kB'
    replace kpb' : Hid (Blk _ _ _ _) := kpb'
    replace kpv' : Hid (Blk _ _ _ _) := kpv'
    go_wp2_with fail
    refine wp_region_sched [(0, true), (1, true), (2, true), (3, true), (4, true), (5, true), (6, true), (7, false), (8, true), (9, true), (10, false)] (some 10) (fun w' => Blk w' (w.heap.size) #[.pointer (some ⟨B, 0, none⟩)] 57 ∧ Blk w' B #[.pointer (some ⟨fb, 0, none⟩), .int .i64 L.st.1, .int .u32 L.st.2.1, .string (bs L.st.2.2), .bool L.blk, .slice ha hn hc, .slice la ln lc] 108 ∧ Blk w' (w.heap.size + 1) #[.slice pa xs.length pc] 42 ∧ True) (by kernel_rfl) (by kernel_rfl) ⟨kpb, kB, kpv, trivial⟩ ?_
    clear kB kpb kpv
    (repeat (refine wpSched_quiet (v := ?_) rfl rfl (fun w' hS => ?_) (fun K hK => ?_); rotate_left; (focus ((try have e1 := hS.1.cell); (try have e2 := hS.2.1.cell); (try have e3 := hS.2.2.1.cell); (try have e4 := hS.2.2.2.1.cell); (try have f1 := hS.1); (try have f2 := hS.2.1); (try have f3 := hS.2.2.1); (try have f4 := hS.2.2.2.1); (try have f5 := hS.2.2.2.2.1); clear hS; go_simp; (try with_reducible rfl))); (go_simp; refine hK _ ?_; clear hK K)))
    refine wpSched_loud rfl (fun K hK => ?_)
    go_wp2_with fail
    refine hdelW.out.mono ?_
    rintro e w1 ⟨hv2, rfl, hm, hR2, hown2⟩
    obtain ⟨ha2, hn2, hc2, rfl⟩ := hR2.shape
    have kB1 := kB'.out.drew.mod hm (fun e => (hgB.out B e).1 rfl)
    have kpb1 := kpb'.out.drew.mod hm (fun e => by have := (hgB.out _ e).2; omega)
    have kpv1 := kpv'.out.drew.mod hm (fun e => by have := (hgB.out _ e).2; omega)
    go_wp2
    refine hK.out _ _ (fun _ => ⟨kpb1, kB1, kpv1, trivial⟩) ?_
    clear hK K
    have f1 := kB1.frozen
    have c1 := kB1.cell
    have l1 := kB1.lt
    replace hR2 : Hid (Row _ _ _ _ _ _) := hR2
    replace hown2 : Hid (_ = _) := hown2
    (repeat (refine wpSched_quiet (v := ?_) rfl rfl (fun w' hS => ?_) (fun K hK => ?_); rotate_left; (focus ((try have e1 := hS.1.cell); (try have e2 := hS.2.1.cell); (try have e3 := hS.2.2.1.cell); (try have e4 := hS.2.2.2.1.cell); (try have f1 := hS.1); (try have f2 := hS.2.1); (try have f3 := hS.2.2.1); (try have f4 := hS.2.2.2.1); (try have f5 := hS.2.2.2.2.1); clear hS; go_simp; (try with_reducible rfl))); (go_simp; refine hK _ ?_; clear hK K)))
    refine wpSched_loud rfl (fun K hK => ?_)
    go_wp2
    refine hK.out _ _ (fun h => absurd rfl h) ?_
    clear hK K f1 c1
    refine wpSched_nil ?_
    go_wp2_with fail
    have kB2 := kB1.set (o := 5) (.slice ha2 hn2 hc2)
    have kpb2 := kpb1.other (p := ⟨B, 5, none⟩) hnB (.slice ha2 hn2 hc2)
    have kpv2 := kpv1.other (p := ⟨B, 5, none⟩) hnB1 (.slice ha2 hn2 hc2)
    obtain ⟨W2, hW2⟩ : ∃ W2, W2 = w1.setCell ⟨B, 5, none⟩ (.slice ha2 hn2 hc2) := ⟨_, rfl⟩
    have hM2 : Mod (fun k => k = B ∨ (Value.slice ha hn hc).ownBlock = some k ∨ (Value.slice la ln lc).ownBlock = some k) W W2 := by
      rw [hW2]
      exact ((Mod.drew (fun k => k = B ∨ (Value.slice ha hn hc).ownBlock = some k ∨ (Value.slice la ln lc).ownBlock = some k) W).trans hm (fun _ _ e => e) (fun _ _ e => .inr (.inl e))).thenSet (p := ⟨B, 5, none⟩) (.inl rfl) _
    have hset2 : ∀ k, k ≠ B → W2.heap[k]? = w1.heap[k]? := fun k hk => by rw [hW2]; exact Below.heap_setCell _ _ _ _ hk
    have hG2 : Row W2 34 3 (.slice la ln lc) L.log.length (L.log.flatMap msgCells) := (hGW.out.mod ((Mod.drew (fun _ => False) W).trans hm (Z := fun k => (Value.slice ha hn hc).ownBlock = some k) (fun _ _ e => e.elim) (fun _ _ e => e)) (fun g hg e => hgHL.out g hg e)).kept (fun g hg => hset2 g (hgL.out g hg).1)
    have hp2 : Row W2 34 3 (.slice pa xs.length pc) xs.length (xs.flatMap msgCells) := (rowpv.out.mod ((Mod.drew (fun _ => False) W).trans hm (Z := fun k => (Value.slice ha hn hc).ownBlock = some k) (fun _ _ e => e.elim) (fun _ _ e => e)) (fun g hg e => by have := (hpvn.out g hg).1; have := (hgB.out g e).2; omega)).kept (fun g hg => hset2 g (fun e => by have := (hpvn.out g hg).1; omega))
    have hH2 := hR2.out.kept (w' := W2) (fun g hg => hset2 g (hgB.out g (by rw [← hown2.out]; exact hg)).1)
    have hdef2 : W2.heap[D]? = some (.deferred (some [])) := by
      rw [hset2 D hDB, hm.block D (by simpa using hDl) (fun e => by have := (hgB.out D e).2; omega)]; exact hdef.out
    rw [← hW2] at kB2 kpb2 kpv2 ⊢
    have hs2 : W.heap.size ≤ W2.heap.size := hM2.size
    clear hW2 hm kB1 kpb1 kpv1 hR2 l1
    obtain ⟨lv', W3, hrun, hrow, hgr, hown⟩ := row_append msgT (w := W2.drew) hG2 hp2.src (msgCells_one xs) hlen 42
    obtain ⟨la3, ln3, lc3, rfl⟩ := hrow.shape
    have kB3 := kB2.drew.kept (w' := W3) (hgr.block B kB2.lt (fun e => (hgL.out B e.symm).1 rfl))
    have kpb3 := kpb2.drew.kept (w' := W3) (hgr.block _ kpb2.lt (fun e => by have := (hgL.out _ e.symm).2; omega))
    have kpv3 := kpv2.drew.kept (w' := W3) (hgr.block _ kpv2.lt (fun e => by have := (hgL.out _ e.symm).2; omega))
    replace hrow : Hid (Row _ _ _ _ _ _) := hrow
    replace hG2 : Hid (Row _ _ _ _ _ _) := hG2
    replace hp2 : Hid (Row _ _ _ _ _ _) := hp2
    replace hH2 : Hid (Row _ _ _ _ _ _) := hH2
    replace hown : Hid (_ ∨ _) := hown
    replace hdef2 : Hid (_ = _) := hdef2
    replace hset2 : Hid (∀ _, _) := hset2
    replace hrun : Hid (_ = _) := hrun
    replace kB3 : Hid (Blk _ _ _ _) := kB3
    replace kpb3 : Hid (Blk _ _ _ _) := kpb3
    replace kpv3 : Hid (Blk _ _ _ _) := kpv3
    refine wp_region_sched [(0, true), (1, true), (2, true), (3, true), (4, true), (5, true), (6, false), (7, true), (8, true), (9, false)] (some 9) (fun w' => Blk w' (w.heap.size) #[.pointer (some ⟨B, 0, none⟩)] 57 ∧ Blk w' B #[.pointer (some ⟨fb, 0, none⟩), .int .i64 L.st.1, .int .u32 L.st.2.1, .string (bs L.st.2.2), .bool L.blk, .slice ha2 hn2 hc2, .slice la ln lc] 108 ∧ Blk w' (w.heap.size + 1) #[.slice pa xs.length pc] 42 ∧ True) (by kernel_rfl) (by kernel_rfl) ⟨kpb2, kB2, kpv2, trivial⟩ ?_
    clear kB2 kpb2 kpv2
    (repeat (refine wpSched_quiet (v := ?_) rfl rfl (fun w' hS => ?_) (fun K hK => ?_); rotate_left; (focus ((try have e1 := hS.1.cell); (try have e2 := hS.2.1.cell); (try have e3 := hS.2.2.1.cell); (try have e4 := hS.2.2.2.1.cell); (try have f1 := hS.1); (try have f2 := hS.2.1); (try have f3 := hS.2.2.1); (try have f4 := hS.2.2.2.1); (try have f5 := hS.2.2.2.2.1); clear hS; go_simp; (try with_reducible rfl))); (go_simp; refine hK _ ?_; clear hK K)))
    refine wpSched_loud rfl (fun K hK => ?_)
    refine wpList_append_by rfl _ _ _ rfl rfl rfl hrun.out ?_
    unfold wpList
    refine hK.out _ _ (fun _ => ⟨kpb3.out, kB3.out, kpv3.out, trivial⟩) ?_
    clear hK K
    have f3 := kB3.out.frozen
    have c3 := kB3.out.cell
    have l3 := kB3.out.lt
    (repeat (refine wpSched_quiet (v := ?_) rfl rfl (fun w' hS => ?_) (fun K hK => ?_); rotate_left; (focus ((try have e1 := hS.1.cell); (try have e2 := hS.2.1.cell); (try have e3 := hS.2.2.1.cell); (try have e4 := hS.2.2.2.1.cell); (try have f1 := hS.1); (try have f2 := hS.2.1); (try have f3 := hS.2.2.1); (try have f4 := hS.2.2.2.1); (try have f5 := hS.2.2.2.2.1); clear hS; go_simp; (try with_reducible rfl))); (go_simp; refine hK _ ?_; clear hK K)))
    refine wpSched_loud rfl (fun K hK => ?_)
    go_wp2
    refine hK.out _ _ (fun h => absurd rfl h) ?_
    clear hK K f3 c3
    refine wpSched_nil ?_
    have kpv4 := kpv3.out.other (p := ⟨B, 6, none⟩) hnB1 (.slice la3 ln3 lc3)
    have kB4 := kB3.out.set (o := 6) (.slice la3 ln3 lc3)
    have cp4 := kpv4.cell
    replace kB4 : Hid (Blk _ _ _ _) := kB4
    go_wp2
    rw [Exit.noGoto_ret]
    have hg5 : ∀ g, (Value.slice la3 ln3 lc3).ownBlock = some g → ((Value.slice la ln lc).ownBlock = some g ∨ g = W2.heap.size) := fun g hg => by
      have := hown.out
      rw [hg] at this
      rcases this with h | h
      · exact .inl h.symm
      · right; simpa using h
    have hoth : ∀ k, k < W2.heap.size → k ≠ B → (Value.slice la ln lc).ownBlock ≠ some k → (W3.setCell ⟨B, 6, none⟩ (.slice la3 ln3 lc3)).heap[k]? = W2.heap[k]? := fun k hk h1 h2 =>
      (Below.heap_setCell _ _ _ _ h1).trans (hgr.block k hk (fun e => h2 e.symm))
    have hM4 : Mod (fun k => k = B ∨ (Value.slice ha hn hc).ownBlock = some k ∨ (Value.slice la ln lc).ownBlock = some k) W (W3.setCell ⟨B, 6, none⟩ (.slice la3 ln3 lc3)) :=
      ((hM2.thenDrew).trans (Mod.grown (X := fun k => (Value.slice la ln lc).ownBlock = some k) hgr (fun k h => h)) (fun _ _ e => e) (fun _ _ e => .inr (.inr e))).thenSet (p := ⟨B, 6, none⟩) (.inl rfl) _
    have hM5 := (Mod.of_below (fun k => k = B ∨ (Value.slice ha hn hc).ownBlock = some k ∨ (Value.slice la ln lc).ownBlock = some k) hbW).trans hM4 (fun _ _ e => e) (fun _ _ e => e)
    have hdef4 : (W3.setCell ⟨B, 6, none⟩ (.slice la3 ln3 lc3)).heap[D]? = some (.deferred (some [])) := (hoth D (by omega) hDB (fun e => by have := (hgL.out D e).2; omega)).trans hdef2.out
    have hput : ∀ k, k ≠ D → ((W3.setCell ⟨B, 6, none⟩ (.slice la3 ln3 lc3)).putObj D (.deferred none)).heap[k]? = (W3.setCell ⟨B, 6, none⟩ (.slice la3 ln3 lc3)).heap[k]? := fun k hk => World.putObj_heap_other hk
    have hpvl : ∀ g, (Value.slice pa xs.length pc).ownBlock = some g → g < W.heap.size := fun g hg => rowpv.out.lt hg
    refine end_mark1 (D := D) (v := .slice pa xs.length pc) hdef4 (by simp [results, Tryz.results134, go_sem]) ?_
    refine ⟨_, ow.ext w.heap.size (fun k => (Value.slice la3 ln3 lc3).ownBlock = some k) (t ++ [2]), rfl, ?_, ⟨hk.out, fb, .slice ha2 hn2 hc2, .slice la3 ln3 lc3, kB4.out.putObj (Ne.symm hDB) _, ?_, ?_, ?_, ?_, ?_, ?_⟩, ?_, ?_⟩
    · refine Step.putNew ⟨hM5.mono (fun k _ e => ?_), fun k hk => Own.ext_old hk⟩ D _ hDw
      rcases e with e | e | e
      · subst e; rw [o1]; exact Sub.rfl' t
      · rw [o2.out k e]; exact Sub.child t 1
      · rw [o3.out k e]; exact Sub.child t 2
    · refine FoldAt.loc fb L.fold (t ++ [0]) _ _ _ _ hF0.out (by have := hM5.size; simpa using this) (fun k hk1 hs => ⟨Own.ext_old hk1, (hput k (by omega)).trans (hM5.block k hk1 (fun e => ?_))⟩)
      rcases e with e | e | e
      · subst e; rw [o1] at hs; exact not_child_sub t 0 hs
      · rw [o2.out k e] at hs; exact (apart_child t (show (0 : Nat) ≠ 1 by omega)).1 hs
      · rw [o3.out k e] at hs; exact (apart_child t (show (0 : Nat) ≠ 2 by omega)).1 hs
    · refine hH2.out.kept (fun g hg => ?_)
      have h1 : (Value.slice ha hn hc).ownBlock = some g := by rw [← hown2.out]; exact hg
      rw [hput g (by have := (hgB.out g h1).2; omega)]
      exact hoth g (hH2.out.lt hg) (hgB.out g h1).1 (fun e => hgHL.out g e h1)
    · simp only [List.length_append, List.flatMap_append]
      refine hrow.out.kept (fun g hg => ?_)
      have h1 : g ≠ B ∧ g ≠ D := by
        rcases hg5 g hg with h | h
        · have := hgL.out g h; omega
        · have := hM2.size; omega
      rw [hput g h1.2]
      exact Below.heap_setCell _ _ _ _ h1.1
    · rw [Own.ext_old hB0.lt, o1]
    · intro g hg
      have h1 : (Value.slice ha hn hc).ownBlock = some g := by rw [← hown2.out]; exact hg
      rw [Own.ext_old (hgB.out g h1).2, o2.out g h1]
    · intro g hg
      rcases hg5 g hg with h | h
      · rw [Own.ext_old (hgL.out g h).2, o3.out g h]
      · rw [Own.ext_new (by have := hbW.size; omega) hg]
    · refine hp2.out.kept (fun g hg => ?_)
      have h1 := hpvn.out g hg
      rw [hput g h1.2]
      exact hoth g (by have := hpvl g hg; omega) (by omega) (fun e => by have := (hgL.out g e).2; omega)
    · intro g hg
      have h1 := hpvn.out g hg
      refine ⟨h1.1, Own.ext_none h1.1 (fun e => ?_)⟩
      have h2 := hpvl g hg
      rcases hg5 g e with h | h
      · have := (hgL.out g h).2; omega
      · omega
end Go.Proofs.YtaopeioebpfdeaaGreatDoor

namespace Go.Proofs.YtaopeioebpfdeaaGreatDoor
open Go Go.RowKit Go.Shelf Go.Extern.Stop Go.Stop Go.Extern
attribute [local go_sem] Oper.semAt_some wide_fn wide_depth

/-- What holds ahead of each round of release's loop. -/
def NowAt (l : List MsgD) (pb : Nat) (W0 : World) (k : Nat) (X : Nat → Prop) (W : World) : Prop :=
  Fr (fun k => k = pb) W0 X W ∧ k ≤ l.length ∧ ∃ pv, Blk W pb #[pv] 42 ∧ Row W 34 3 pv (l.take k).length ((l.take k).flatMap msgCells) ∧ (∀ g, pv.ownBlock = some g → W0.heap.size ≤ g ∧ ¬ X g)
theorem NowAt.stab {l : List MsgD} {pb : Nat} {W0 : World} {k : Nat} {X X' : Nat → Prop} {W W' : World} (h1 : pb < W0.heap.size)
    (h : NowAt l pb W0 k X W) (hm : Mod X W W') (hx : ∀ k, X' k → X k ∨ (W.heap.size ≤ k ∧ k < W'.heap.size)) : NowAt l pb W0 k X' W' := by
  obtain ⟨hfr, hk, pv, kp, kw, hn⟩ := h
  refine ⟨hfr.step hm hx, hk, pv, kp.kept (hfr.block hm h1), kw.mod hm (fun g hg => (hn g hg).2), fun g hg => ⟨(hn g hg).1, fun hX => ?_⟩⟩
  rcases hx g hX with h | h
  · exact (hn g hg).2 h
  · have := kw.lt hg; omega

set_option maxRecDepth 8000 in
set_option maxHeartbeats 1000000 in
theorem release_free (B : Nat) (L : LocalS) (t : List Nat) (ow : Own) (w : World) (h : LocalAt B L t ow w) (hb : L.blk = false) (hl : L.held.length + L.log.length ≤ 536870912) :
    Calls Tryz.prog 134 #[.pointer (some ⟨B, 0, none⟩)] w (RelPost B ({ L with held := [], log := L.log ++ L.held }, L.held) t ow w) := by
  obtain ⟨hk, fb, hv, lv, hB0, hF0, hH0, hG0, o1, o2, o3⟩ := h
  unfold localCells at hB0
  have hgB : ∀ g, hv.ownBlock = some g → g ≠ B ∧ g < w.heap.size := fun g hg => ⟨hH0.ne_blk hB0 (by decide) hg, hH0.lt hg⟩
  have hgL : ∀ g, lv.ownBlock = some g → g ≠ B ∧ g < w.heap.size := fun g hg => ⟨hG0.ne_blk hB0 (by decide) hg, hG0.lt hg⟩
  have hgHL : ∀ g, lv.ownBlock = some g → hv.ownBlock ≠ some g := fun g h1 h2 => by have := (o3 g h1).symm.trans (o2 g h2); simp at this
  obtain ⟨ha, hn, hc, rfl⟩ := hH0.shape
  obtain ⟨la, ln, lc, rfl⟩ := hG0.shape
  have hdel : ∀ W', Row W' 34 3 (.slice ha hn hc) L.held.length (L.held.flatMap msgCells) → Calls Tryz.prog 164 #[.slice ha hn hc, .int .i64 0, .int .i64 (L.held.length : Nat)] W' fun e w' => ∃ hv2, e = .returned hv2 ∧ Mod (fun k => (Value.slice ha hn hc).ownBlock = some k) W' w' ∧ Row w' 34 3 hv2 ([] : List MsgD).length (([] : List MsgD).flatMap msgCells) ∧ hv2.ownBlock = (Value.slice ha hn hc).ownBlock := fun W' hR => by
    rcases hR.form with ⟨h, h0, -⟩ | ⟨g, cap, h, h1, h2⟩
    · cases h
      rw [h0]
      refine (delete_zero _ ⟨none, 0, 0, rfl, by omega, by omega⟩ W').mono ?_
      rintro e w1 ⟨rfl, rfl⟩
      exact ⟨_, rfl, Mod.refl _ _, row_nil _ _ _, rfl⟩
    · cases h
      by_cases h0 : L.held.length = 0
      · unfold maxLen at h2
        have hl0 : L.held = [] := List.eq_nil_of_length_eq_zero h0
        rw [hl0] at hR ⊢
        refine (delete_zero _ ⟨_, _, _, rfl, by simp, by omega⟩ W').mono ?_
        rintro e w1 ⟨rfl, rfl⟩
        exact ⟨_, rfl, Mod.refl _ _, hR, rfl⟩
      · refine (delete_all g _ hc _ (by omega) W' hR).mono ?_
        rintro e w1 ⟨rfl, h3, h4⟩
        exact ⟨_, rfl, h3.mono (fun k _ e => by subst e; rfl), h4, rfl⟩
  obtain ⟨xs, hxs⟩ : ∃ xs : List MsgD, xs = L.held := ⟨_, rfl⟩
  rw [show (({ L with held := [], log := L.log ++ L.held }, L.held) : LocalS × List MsgD) = ({ L with held := [], log := L.log ++ xs }, xs) by rw [hxs]]
  rw [← hxs] at hdel
  rw [← hxs] at hH0
  have hlx : xs.length ≤ 536870912 := by rw [hxs]; omega
  have hlen : L.log.length + xs.length ≤ 1073741824 := by rw [hxs]; omega
  have e0 := hB0.cell
  have hlB := hB0.lt
  replace hF0 : Hid (FoldAt _ _ _ _ _) := hF0
  replace hgB : Hid (∀ _, _) := hgB
  replace hgL : Hid (∀ _, _) := hgL
  replace hgHL : Hid (∀ _, _) := hgHL
  replace o2 : Hid (∀ _, _) := o2
  replace o3 : Hid (∀ _, _) := o3
  replace hk : Hid (_ = _) := hk
  replace hdel : Hid (∀ _, _) := hdel
  replace hxs : Hid (_ = _) := hxs
  refine calls_of_wp_marks Tryz.func134 rfl ?_
  simp only [Tryz.ntmps134, List.size_toArray, List.length_cons, List.length_nil, Nat.reduceAdd, Nat.reduceSub, Array.replicate_succ, Array.replicate_zero, List.push_toArray, List.append_toArray, List.nil_append, List.cons_append]
  go_wp2
  go_step3
  go_wp2
  go_step3
  go_wp2_with fail
  refine (mgEach_any _ ⟨_, _, _, rfl⟩ _).mono ?_
  rintro e w1 ⟨rfl, rfl⟩
  go_wp2_with fail
  obtain ⟨W0, hW0⟩ : ∃ W0, W0 = (((w.alloc (.cells #[.pointer (some ⟨B, 0, none⟩)] 57)).alloc (.cells #[.slice none 0 0] 42)).alloc (.cells #[.slice ha hn hc] 42)) := ⟨_, rfl⟩
  have hsz : W0.heap.size = w.heap.size + 3 := by rw [hW0]; simp
  have hb0 : Below w.heap.size w W0 := by rw [hW0]; (repeat (first | exact Below.refl _ _ | with_reducible assumption | refine pb_alloc ?_ _ | refine pb_drew ?_ | refine pb_drewN ?_ _ | refine pb_set ?_ (by simp; try omega) _ | refine pb_trans ?_ (by with_reducible assumption)))
  have kpb0 : Blk W0 w.heap.size #[.pointer (some ⟨B, 0, none⟩)] 57 := by rw [hW0]; (repeat (first | with_reducible assumption | (refine Blk.new ?_; simp; done) | refine Blk.alloc ?_ _ | refine Blk.drew ?_ | refine Blk.drewN ?_ _ | refine Blk.call ?_ (by with_reducible assumption)))
  have knb0 : Blk W0 (w.heap.size + 1) #[.slice none 0 0] 42 := by rw [hW0]; (repeat (first | with_reducible assumption | (refine Blk.new ?_; simp; done) | refine Blk.alloc ?_ _ | refine Blk.drew ?_ | refine Blk.drewN ?_ _ | refine Blk.call ?_ (by with_reducible assumption)))
  have kcb0 : Blk W0 (w.heap.size + 1 + 1) #[.slice ha hn hc] 42 := by rw [hW0]; (repeat (first | with_reducible assumption | (refine Blk.new ?_; simp; done) | refine Blk.alloc ?_ _ | refine Blk.drew ?_ | refine Blk.drewN ?_ _ | refine Blk.call ?_ (by with_reducible assumption)))
  have hHW0 := hH0.below hb0
  rw [← hW0]
  clear hW0 e0
  refine wp_rangeBox (gf := 93) (lb := #[.pointer (some ⟨w.heap.size + 1 + 1, 0, none⟩)]) rfl (enters_of Tryz.func93 (by kernel_rfl) rfl)
      (valMsg_iter (w.heap.size + 1 + 1) (.slice ha hn hc) xs (by omega)) (fun _ => rfl)
      (fun k X W => NowAt xs (w.heap.size + 1) W0 k X W)
      (fun c X W => False)
      (fun k X X' W W' h hm hx => h.stab (by omega) hm hx)
      (fun c s X X' W W' h hm hx => h)
      (fun k X W h => ⟨kcb0.mod h.1.2 (by omega), (hHW0.mod h.1.2 (fun g hg e => by have := (hgB.out g hg).2; omega)).src⟩)
      (fun k X W h => ⟨by have := h.1.2.size; omega, fun k hk => (h.1.1 k hk).2⟩)
      ⟨Fr.refl _ _, Nat.zero_le _, _, knb0, row_nil _ _ _, by simp [Value.ownBlock]⟩
      4 34 (fun x => #[.int .i64 x.1.1, .int .u32 x.1.2, .string (bs x.2)]) ?assign ?body ?done ?stop
  case assign =>
    intro l' x W K hK
    rw [laidIn_one] at hK ⊢
    unfold msgV at hK ⊢
    gi_wp2
    exact hK
  case body =>
    rintro l' k x cb X X1 W1 W h1 ⟨hfr, hkk, pv, kp', kw', hnn⟩ hnx hcb hcw hXc kx hXl _
    obtain ⟨⟨xi, xc⟩, xd⟩ := x
    have kp := kpb0.mod hfr.2 (by omega)
    have kB := (hB0.call hb0).mod hfr.2 (by omega)
    rw [hb] at kB
    have ep := kp.cell
    have eB := kB.cell
    have ex := kx.cell
    simp only at ex
    have lx := kx.lt
    have ln' := kp'.lt
    have en := kp'.cell
    have lp := kp.lt
    have lB := kB.lt
    have hkl := (List.getElem?_eq_some_iff.1 hnx).1
    have hlenA : (xs.take k).length + 1 ≤ 1073741824 := by rw [List.length_take]; omega
    replace hlenA : Hid (_ ≤ _) := hlenA
    replace hnn : Hid (∀ _, _) := hnn
    rw [laidIn_one]
    unfold msgV
    gi_wp2_with (gi_at_builtin
                 obtain ⟨nv', W3, hrun, hrow, hgr, hown⟩ := row_append msgT (kw'.below ((Below.refl _ _).alloc (Nat.le_refl _) (.cells #[.int .i64 xi, .int .u32 (xc : Int), .string (bs xd)] 34))) (src_blk (n := 1) (size := 3) (cap := 1) (Blk.new (w := W) (cs := #[.int .i64 xi, .int .u32 (xc : Int), .string (bs xd)]) (t := 34) rfl) rfl (Nat.le_refl 1)) (msgCells_one [((xi, xc), xd)]) hlenA.out 42
                 refine wpListIn_append_by rfl _ _ _ rfl rfl rfl hrun ?_
                 have kp3 : Blk W3 (w.heap.size + 1) #[pv] 42 := (kp'.alloc _).kept (hgr.block _ (by simp; omega) (fun e => by have := (hnn.out _ e.symm).1; omega))
                 have en3 := kp3.cell
                 have fn3 := kp3.frozen
                 have lN3 := kp3.lt
                 obtain ⟨sa, sm, sc, rfl⟩ := hrow.shape
                 clear hrun)
    have hm : Mod (fun k => k = w.heap.size + 1 ∨ pv.ownBlock = some k) W (W3.setCell ⟨w.heap.size + 1, 0, none⟩ (.slice sa sm sc)) :=
      (((Mod.refl (fun k => k = w.heap.size + 1 ∨ pv.ownBlock = some k) W).thenAlloc _).trans (Mod.grown hgr (fun k h => .inr h)) (fun _ _ e => e) (fun _ _ e => e)).thenSet (p := ⟨w.heap.size + 1, 0, none⟩) (.inl rfl) _
    have htk : xs.take (k + 1) = xs.take k ++ [((xi, xc), xd)] := by rw [List.take_add_one, hnx]; rfl
    refine ⟨⟨hfr.mod hm (fun k hk h => ?_), by omega, _, kp3.set _, ?_, ?_⟩, Saves.of_mod hm (fun k hk hX h => ?_)⟩
    · rcases h with h | h
      · exact h
      · have := (hnn.out k h).1; omega
    · rw [htk]
      simp only [List.length_append, List.length_singleton, List.flatMap_append]
      refine Row.kept (w := W3) hrow (fun g hg => Below.heap_setCell _ _ _ _ (show g ≠ w.heap.size + 1 from fun e => ?_))
      rw [hg] at hown
      rcases hown with h | h
      · have := (hnn.out _ h.symm).1; omega
      · simp at h; omega
    · intro g hg
      rw [hg] at hown
      rcases hown with h | h
      · exact hnn.out g h.symm
      · simp at h
        have := hfr.2.size
        exact ⟨by omega, fun hX => by have := (hfr.1 g hX).2; omega⟩
    · have := hfr.1 k hX
      rcases h with h | h
      · omega
      · exact (hnn.out k h).2 hX
  case done =>
    rintro D k X W hD hXD hfin ⟨hfr, hkk, pv, kpv, kw', hnn⟩ hdef
    obtain rfl : k = xs.length := hfin
    rw [List.take_length] at kw'
    obtain ⟨pa, pc, rfl⟩ := kw'.src.shape
    have hbW : Below w.heap.size w W := hb0.trans (hfr.below (by omega) (fun k hk => by omega))
    have kpb := kpb0.mod hfr.2 (by omega)
    have rowpv := kw'
    have hDl := (Array.getElem?_eq_some_iff.1 hdef).1
    have hDw : w.heap.size ≤ D := by omega
    have hpvn : ∀ g, (Value.slice pa xs.length pc).ownBlock = some g → w.heap.size ≤ g ∧ g ≠ D := fun g hg => ⟨by have := (hnn g hg).1; omega, fun e => (hnn g hg).2 (e ▸ hXD)⟩
    have hlB' := hlB
    replace hgB : ∀ _, _ := hgB.out
    replace hgL : ∀ _, _ := hgL.out
    replace hgHL : ∀ _, _ := hgHL.out
    clear hnn kw' hfr hkk
    have kB := hB0.call hbW
    have hHW := hH0.below hbW
    have hGW := hG0.below hbW
    have hl1 := kpv.lt
    have hl2 := kB.lt
    have hl3 := kpb.lt
    have hdelW := hdel.out W.drew hHW
    replace hdelW : Hid (Calls _ _ _ _ _) := hdelW
    replace hpvn : Hid (∀ _, _) := hpvn
    replace rowpv : Hid (Row _ _ _ _ _ _) := rowpv
    replace hGW : Hid (Row _ _ _ _ _ _) := hGW
    replace hHW : Hid (Row _ _ _ _ _ _) := hHW
    have hDB : D ≠ B := fun e => by omega
    have hnB : w.heap.size ≠ B := fun e => by omega
    have hnB1 : w.heap.size + 1 ≠ B := fun e => by omega
    replace hdef : Hid (_ = _) := hdef
    replace hgB : Hid (∀ _, _) := hgB
    replace hgL : Hid (∀ _, _) := hgL
    replace hgHL : Hid (∀ _, _) := hgHL
    have kB' := kB
    have kpb' := kpb
    have kpv' := kpv
    replace kB' : Hid (Blk _ _ _ _) := kB'
    replace kpb' : Hid (Blk _ _ _ _) := kpb'
    replace kpv' : Hid (Blk _ _ _ _) := kpv'
    go_wp2_with fail
    refine wp_region_sched [(0, true), (1, true), (2, true), (3, true), (4, true), (5, true), (6, true), (7, false), (8, true), (9, true), (10, false)] (some 10) (fun w' => Blk w' (w.heap.size) #[.pointer (some ⟨B, 0, none⟩)] 57 ∧ Blk w' B #[.pointer (some ⟨fb, 0, none⟩), .int .i64 L.st.1, .int .u32 L.st.2.1, .string (bs L.st.2.2), .bool L.blk, .slice ha hn hc, .slice la ln lc] 108 ∧ Blk w' (w.heap.size + 1) #[.slice pa xs.length pc] 42 ∧ True) (by kernel_rfl) (by kernel_rfl) ⟨kpb, kB, kpv, trivial⟩ ?_
    clear kB kpb kpv
    (repeat (refine wpSched_quiet (v := ?_) rfl rfl (fun w' hS => ?_) (fun K hK => ?_); rotate_left; (focus ((try have e1 := hS.1.cell); (try have e2 := hS.2.1.cell); (try have e3 := hS.2.2.1.cell); (try have e4 := hS.2.2.2.1.cell); (try have f1 := hS.1); (try have f2 := hS.2.1); (try have f3 := hS.2.2.1); (try have f4 := hS.2.2.2.1); (try have f5 := hS.2.2.2.2.1); clear hS; go_simp; (try with_reducible rfl))); (go_simp; refine hK _ ?_; clear hK K)))
    refine wpSched_loud rfl (fun K hK => ?_)
    go_wp2_with fail
    refine hdelW.out.mono ?_
    rintro e w1 ⟨hv2, rfl, hm, hR2, hown2⟩
    obtain ⟨ha2, hn2, hc2, rfl⟩ := hR2.shape
    have kB1 := kB'.out.drew.mod hm (fun e => (hgB.out B e).1 rfl)
    have kpb1 := kpb'.out.drew.mod hm (fun e => by have := (hgB.out _ e).2; omega)
    have kpv1 := kpv'.out.drew.mod hm (fun e => by have := (hgB.out _ e).2; omega)
    go_wp2
    refine hK.out _ _ (fun _ => ⟨kpb1, kB1, kpv1, trivial⟩) ?_
    clear hK K
    have f1 := kB1.frozen
    have c1 := kB1.cell
    have l1 := kB1.lt
    replace hR2 : Hid (Row _ _ _ _ _ _) := hR2
    replace hown2 : Hid (_ = _) := hown2
    (repeat (refine wpSched_quiet (v := ?_) rfl rfl (fun w' hS => ?_) (fun K hK => ?_); rotate_left; (focus ((try have e1 := hS.1.cell); (try have e2 := hS.2.1.cell); (try have e3 := hS.2.2.1.cell); (try have e4 := hS.2.2.2.1.cell); (try have f1 := hS.1); (try have f2 := hS.2.1); (try have f3 := hS.2.2.1); (try have f4 := hS.2.2.2.1); (try have f5 := hS.2.2.2.2.1); clear hS; go_simp; (try with_reducible rfl))); (go_simp; refine hK _ ?_; clear hK K)))
    refine wpSched_loud rfl (fun K hK => ?_)
    go_wp2
    refine hK.out _ _ (fun h => absurd rfl h) ?_
    clear hK K f1 c1
    refine wpSched_nil ?_
    go_wp2_with fail
    have kB2 := kB1.set (o := 5) (.slice ha2 hn2 hc2)
    have kpb2 := kpb1.other (p := ⟨B, 5, none⟩) hnB (.slice ha2 hn2 hc2)
    have kpv2 := kpv1.other (p := ⟨B, 5, none⟩) hnB1 (.slice ha2 hn2 hc2)
    obtain ⟨W2, hW2⟩ : ∃ W2, W2 = w1.setCell ⟨B, 5, none⟩ (.slice ha2 hn2 hc2) := ⟨_, rfl⟩
    have hM2 : Mod (fun k => k = B ∨ (Value.slice ha hn hc).ownBlock = some k ∨ (Value.slice la ln lc).ownBlock = some k) W W2 := by
      rw [hW2]
      exact ((Mod.drew (fun k => k = B ∨ (Value.slice ha hn hc).ownBlock = some k ∨ (Value.slice la ln lc).ownBlock = some k) W).trans hm (fun _ _ e => e) (fun _ _ e => .inr (.inl e))).thenSet (p := ⟨B, 5, none⟩) (.inl rfl) _
    have hset2 : ∀ k, k ≠ B → W2.heap[k]? = w1.heap[k]? := fun k hk => by rw [hW2]; exact Below.heap_setCell _ _ _ _ hk
    have hG2 : Row W2 34 3 (.slice la ln lc) L.log.length (L.log.flatMap msgCells) := (hGW.out.mod ((Mod.drew (fun _ => False) W).trans hm (Z := fun k => (Value.slice ha hn hc).ownBlock = some k) (fun _ _ e => e.elim) (fun _ _ e => e)) (fun g hg e => hgHL.out g hg e)).kept (fun g hg => hset2 g (hgL.out g hg).1)
    have hp2 : Row W2 34 3 (.slice pa xs.length pc) xs.length (xs.flatMap msgCells) := (rowpv.out.mod ((Mod.drew (fun _ => False) W).trans hm (Z := fun k => (Value.slice ha hn hc).ownBlock = some k) (fun _ _ e => e.elim) (fun _ _ e => e)) (fun g hg e => by have := (hpvn.out g hg).1; have := (hgB.out g e).2; omega)).kept (fun g hg => hset2 g (fun e => by have := (hpvn.out g hg).1; omega))
    have hH2 := hR2.out.kept (w' := W2) (fun g hg => hset2 g (hgB.out g (by rw [← hown2.out]; exact hg)).1)
    have hdef2 : W2.heap[D]? = some (.deferred (some [])) := by
      rw [hset2 D hDB, hm.block D (by simpa using hDl) (fun e => by have := (hgB.out D e).2; omega)]; exact hdef.out
    rw [← hW2] at kB2 kpb2 kpv2 ⊢
    have hs2 : W.heap.size ≤ W2.heap.size := hM2.size
    clear hW2 hm kB1 kpb1 kpv1 hR2 l1
    obtain ⟨lv', W3, hrun, hrow, hgr, hown⟩ := row_append msgT (w := W2.drew) hG2 hp2.src (msgCells_one xs) hlen 42
    obtain ⟨la3, ln3, lc3, rfl⟩ := hrow.shape
    have kB3 := kB2.drew.kept (w' := W3) (hgr.block B kB2.lt (fun e => (hgL.out B e.symm).1 rfl))
    have kpb3 := kpb2.drew.kept (w' := W3) (hgr.block _ kpb2.lt (fun e => by have := (hgL.out _ e.symm).2; omega))
    have kpv3 := kpv2.drew.kept (w' := W3) (hgr.block _ kpv2.lt (fun e => by have := (hgL.out _ e.symm).2; omega))
    replace hrow : Hid (Row _ _ _ _ _ _) := hrow
    replace hG2 : Hid (Row _ _ _ _ _ _) := hG2
    replace hp2 : Hid (Row _ _ _ _ _ _) := hp2
    replace hH2 : Hid (Row _ _ _ _ _ _) := hH2
    replace hown : Hid (_ ∨ _) := hown
    replace hdef2 : Hid (_ = _) := hdef2
    replace hset2 : Hid (∀ _, _) := hset2
    replace hrun : Hid (_ = _) := hrun
    replace kB3 : Hid (Blk _ _ _ _) := kB3
    replace kpb3 : Hid (Blk _ _ _ _) := kpb3
    replace kpv3 : Hid (Blk _ _ _ _) := kpv3
    refine wp_region_sched [(0, true), (1, true), (2, true), (3, true), (4, true), (5, true), (6, false), (7, true), (8, true), (9, false)] (some 9) (fun w' => Blk w' (w.heap.size) #[.pointer (some ⟨B, 0, none⟩)] 57 ∧ Blk w' B #[.pointer (some ⟨fb, 0, none⟩), .int .i64 L.st.1, .int .u32 L.st.2.1, .string (bs L.st.2.2), .bool L.blk, .slice ha2 hn2 hc2, .slice la ln lc] 108 ∧ Blk w' (w.heap.size + 1) #[.slice pa xs.length pc] 42 ∧ True) (by kernel_rfl) (by kernel_rfl) ⟨kpb2, kB2, kpv2, trivial⟩ ?_
    clear kB2 kpb2 kpv2
    (repeat (refine wpSched_quiet (v := ?_) rfl rfl (fun w' hS => ?_) (fun K hK => ?_); rotate_left; (focus ((try have e1 := hS.1.cell); (try have e2 := hS.2.1.cell); (try have e3 := hS.2.2.1.cell); (try have e4 := hS.2.2.2.1.cell); (try have f1 := hS.1); (try have f2 := hS.2.1); (try have f3 := hS.2.2.1); (try have f4 := hS.2.2.2.1); (try have f5 := hS.2.2.2.2.1); clear hS; go_simp; (try with_reducible rfl))); (go_simp; refine hK _ ?_; clear hK K)))
    refine wpSched_loud rfl (fun K hK => ?_)
    refine wpList_append_by rfl _ _ _ rfl rfl rfl hrun.out ?_
    unfold wpList
    refine hK.out _ _ (fun _ => ⟨kpb3.out, kB3.out, kpv3.out, trivial⟩) ?_
    clear hK K
    have f3 := kB3.out.frozen
    have c3 := kB3.out.cell
    have l3 := kB3.out.lt
    (repeat (refine wpSched_quiet (v := ?_) rfl rfl (fun w' hS => ?_) (fun K hK => ?_); rotate_left; (focus ((try have e1 := hS.1.cell); (try have e2 := hS.2.1.cell); (try have e3 := hS.2.2.1.cell); (try have e4 := hS.2.2.2.1.cell); (try have f1 := hS.1); (try have f2 := hS.2.1); (try have f3 := hS.2.2.1); (try have f4 := hS.2.2.2.1); (try have f5 := hS.2.2.2.2.1); clear hS; go_simp; (try with_reducible rfl))); (go_simp; refine hK _ ?_; clear hK K)))
    refine wpSched_loud rfl (fun K hK => ?_)
    go_wp2
    refine hK.out _ _ (fun h => absurd rfl h) ?_
    clear hK K f3 c3
    refine wpSched_nil ?_
    have kpv4 := kpv3.out.other (p := ⟨B, 6, none⟩) hnB1 (.slice la3 ln3 lc3)
    have kB4 := kB3.out.set (o := 6) (.slice la3 ln3 lc3)
    have cp4 := kpv4.cell
    replace kB4 : Hid (Blk _ _ _ _) := kB4
    go_wp2
    rw [Exit.noGoto_ret]
    have hg5 : ∀ g, (Value.slice la3 ln3 lc3).ownBlock = some g → ((Value.slice la ln lc).ownBlock = some g ∨ g = W2.heap.size) := fun g hg => by
      have := hown.out
      rw [hg] at this
      rcases this with h | h
      · exact .inl h.symm
      · right; simpa using h
    have hoth : ∀ k, k < W2.heap.size → k ≠ B → (Value.slice la ln lc).ownBlock ≠ some k → (W3.setCell ⟨B, 6, none⟩ (.slice la3 ln3 lc3)).heap[k]? = W2.heap[k]? := fun k hk h1 h2 =>
      (Below.heap_setCell _ _ _ _ h1).trans (hgr.block k hk (fun e => h2 e.symm))
    have hM4 : Mod (fun k => k = B ∨ (Value.slice ha hn hc).ownBlock = some k ∨ (Value.slice la ln lc).ownBlock = some k) W (W3.setCell ⟨B, 6, none⟩ (.slice la3 ln3 lc3)) :=
      ((hM2.thenDrew).trans (Mod.grown (X := fun k => (Value.slice la ln lc).ownBlock = some k) hgr (fun k h => h)) (fun _ _ e => e) (fun _ _ e => .inr (.inr e))).thenSet (p := ⟨B, 6, none⟩) (.inl rfl) _
    have hM5 := (Mod.of_below (fun k => k = B ∨ (Value.slice ha hn hc).ownBlock = some k ∨ (Value.slice la ln lc).ownBlock = some k) hbW).trans hM4 (fun _ _ e => e) (fun _ _ e => e)
    have hdef4 : (W3.setCell ⟨B, 6, none⟩ (.slice la3 ln3 lc3)).heap[D]? = some (.deferred (some [])) := (hoth D (by omega) hDB (fun e => by have := (hgL.out D e).2; omega)).trans hdef2.out
    have hput : ∀ k, k ≠ D → ((W3.setCell ⟨B, 6, none⟩ (.slice la3 ln3 lc3)).putObj D (.deferred none)).heap[k]? = (W3.setCell ⟨B, 6, none⟩ (.slice la3 ln3 lc3)).heap[k]? := fun k hk => World.putObj_heap_other hk
    have hpvl : ∀ g, (Value.slice pa xs.length pc).ownBlock = some g → g < W.heap.size := fun g hg => rowpv.out.lt hg
    refine end_mark1 (D := D) (v := .slice pa xs.length pc) hdef4 (by simp [results, Tryz.results134, go_sem]) ?_
    refine ⟨_, ow.ext w.heap.size (fun k => (Value.slice la3 ln3 lc3).ownBlock = some k) (t ++ [2]), rfl, ?_, ⟨hk.out, fb, .slice ha2 hn2 hc2, .slice la3 ln3 lc3, kB4.out.putObj (Ne.symm hDB) _, ?_, ?_, ?_, ?_, ?_, ?_⟩, ?_, ?_⟩
    · refine Step.putNew ⟨hM5.mono (fun k _ e => ?_), fun k hk => Own.ext_old hk⟩ D _ hDw
      rcases e with e | e | e
      · subst e; rw [o1]; exact Sub.rfl' t
      · rw [o2.out k e]; exact Sub.child t 1
      · rw [o3.out k e]; exact Sub.child t 2
    · refine FoldAt.loc fb L.fold (t ++ [0]) _ _ _ _ hF0.out (by have := hM5.size; simpa using this) (fun k hk1 hs => ⟨Own.ext_old hk1, (hput k (by omega)).trans (hM5.block k hk1 (fun e => ?_))⟩)
      rcases e with e | e | e
      · subst e; rw [o1] at hs; exact not_child_sub t 0 hs
      · rw [o2.out k e] at hs; exact (apart_child t (show (0 : Nat) ≠ 1 by omega)).1 hs
      · rw [o3.out k e] at hs; exact (apart_child t (show (0 : Nat) ≠ 2 by omega)).1 hs
    · refine hH2.out.kept (fun g hg => ?_)
      have h1 : (Value.slice ha hn hc).ownBlock = some g := by rw [← hown2.out]; exact hg
      rw [hput g (by have := (hgB.out g h1).2; omega)]
      exact hoth g (hH2.out.lt hg) (hgB.out g h1).1 (fun e => hgHL.out g e h1)
    · simp only [List.length_append, List.flatMap_append]
      refine hrow.out.kept (fun g hg => ?_)
      have h1 : g ≠ B ∧ g ≠ D := by
        rcases hg5 g hg with h | h
        · have := hgL.out g h; omega
        · have := hM2.size; omega
      rw [hput g h1.2]
      exact Below.heap_setCell _ _ _ _ h1.1
    · rw [Own.ext_old hB0.lt, o1]
    · intro g hg
      have h1 : (Value.slice ha hn hc).ownBlock = some g := by rw [← hown2.out]; exact hg
      rw [Own.ext_old (hgB.out g h1).2, o2.out g h1]
    · intro g hg
      rcases hg5 g hg with h | h
      · rw [Own.ext_old (hgL.out g h).2, o3.out g h]
      · rw [Own.ext_new (by have := hbW.size; omega) hg]
    · refine hp2.out.kept (fun g hg => ?_)
      have h1 := hpvn.out g hg
      rw [hput g h1.2]
      exact hoth g (by have := hpvl g hg; omega) (by omega) (fun e => by have := (hgL.out g e).2; omega)
    · intro g hg
      have h1 := hpvn.out g hg
      refine ⟨h1.1, Own.ext_none h1.1 (fun e => ?_)⟩
      have h2 := hpvl g hg
      rcases hg5 g e with h | h
      · have := (hgL.out g h).2; omega
      · omega
  case stop => rintro D c X W hD hXD h; exact h.elim
/-- release. -/
theorem release_any (B : Nat) (L : LocalS) (t : List Nat) (ht : t ≠ []) (ow : Own) (w : World) (h : LocalAt B L t ow w) (hl : L.held.length + L.log.length ≤ 536870912) :
    Calls Tryz.prog 134 #[.pointer (some ⟨B, 0, none⟩)] w (RelPost B (releaseL L) t ow w) := by
  cases hb : L.blk
  · rw [show releaseL L = ({ L with held := [], log := L.log ++ L.held }, L.held) by unfold releaseL; rw [hb]; rfl]
    exact release_free B L t ow w h hb hl
  · rw [show releaseL L = (L, []) by unfold releaseL; rw [hb]; rfl]
    exact release_blocked B L t ht ow w h hb hl
end Go.Proofs.YtaopeioebpfdeaaGreatDoor

namespace Go.Proofs.YtaopeioebpfdeaaGreatDoor
open Go Go.RowKit Go.Shelf Go.Extern.Stop Go.Stop Go.Extern
attribute [local go_sem] Oper.semAt_some wide_fn wide_depth

theorem lNew_no (v : Int) (hv : known v = false) (w : World) : Calls Tryz.prog 57 #[.int .i64 v] w fun e w' => e = .returned (.tuple #[.pointer none, .int .i64 130]) ∧ Below w.heap.size w w' := by
  have hn := fnew_no v hv
  replace hn : Hid (∀ _, _) := hn
  go_enter Tryz.func57, Tryz.ntmps57
  go_wp2_with (go_at_call 91; refine (hn.out _).mono ?_; rintro e w1 ⟨rfl, hb1⟩)
  go_ret2
  exact ⟨rfl, hb1⟩
/-- What New comes to. -/
def LNewPost (L : LocalS) (t : List Nat) (ow : Own) (w : World) (e : Ending) (w' : World) : Prop :=
  ∃ B ow', e = .returned (.tuple #[.pointer (some ⟨B, 0, none⟩), .int .i64 0]) ∧ Step t ow w ow' w' ∧ Below w.heap.size w w' ∧ LocalAt B L t ow' w'
theorem begin_one {v : Int} (h : known v = true) : ∃ d, beginP v = ((v, 0, d), 0) := by
  have : v = 1 ∨ v = 2 ∨ v = 3 := by simp [known] at h; omega
  rcases this with rfl | rfl | rfl <;> exact ⟨_, rfl⟩
/-- The first state of a version. -/
def stBegin (v : Int) : StD := (beginP v).1
theorem FoldAt.own {B : Nat} {f : FoldS} {t : List Nat} {ow ow' : Own} {W : World} (h : FoldAt B f t ow W) (hk : ∀ k, Sub t (ow k) → k < W.heap.size → ow' k = ow k) : FoldAt B f t ow' W :=
  FoldAt.loc B f t ow ow' W W h (Nat.le_refl _) (fun k hk1 hs => ⟨hk k hs hk1, rfl⟩)
set_option maxRecDepth 8000 in
set_option maxHeartbeats 1000000 in
theorem lNew_any (a : Addr) (v : Int) (hv : known v = true) (t : List Nat) (ow : Own) (w : World) (he : ErrAt w a) : Calls Tryz.prog 57 #[.int .i64 v] w (LNewPost (newL v (stBegin v)) t ow w) := by
  obtain ⟨d, hd⟩ := begin_one hv
  have hst : stBegin v = (v, 0, d) := by unfold stBegin; rw [hd]
  have hn := fnew_any v hv (t ++ [0]) (ow.cut w) w
  have hbg := fun W (hW : Below w.heap.size w W) => begin_eq (a := a) hd W (he.below hW he.lt)
  rw [hst]
  replace hn : Hid (Calls _ _ _ _ _) := hn
  replace hbg : Hid (∀ _, _) := hbg
  replace hd : Hid (_ = _) := hd
  replace hst : Hid (_ = _) := hst
  replace hv : Hid (_ = _) := hv
  go_enter Tryz.func57, Tryz.ntmps57
  go_wp2_with fail
  refine hn.out.mono ?_
  rintro e w1 ⟨fb, ow1, rfl, hs1, hb1, hF1⟩
  replace hF1 : Hid (FoldAt _ _ _ _ _) := hF1
  go_wp2_with fail
  refine (hbg.out _ hb1).mono ?_
  rintro e w2 ⟨rfl, hb2⟩
  go_wp2
  have hbw : Below w.heap.size w w2 := pb_trans hb1 hb2
  have hz1 := hb1.size
  have hz2 := hb2.size
  refine bodyPost_ret (v := .tuple #[.pointer (some ⟨w2.heap.size + 1, 0, none⟩), .int .i64 0]) (by simp [results, Tryz.results57, go_sem]) rfl ?_
  refine ⟨w2.heap.size + 1, fun k => if k = w2.heap.size + 1 then t else ow1.cut w1 k, rfl, ⟨Mod.of_below _ (pb_alloc (pb_alloc hbw _) _), fun k hk => ?_⟩, pb_alloc (pb_alloc hbw _) _, hv.out, fb, .slice none 0 0, .slice none 0 0, Blk.new (by simp), ?_, row_nil _ _ _, row_nil _ _ _, if_pos rfl, by simp [Value.ownBlock], by simp [Value.ownBlock]⟩
  · show (if k = w2.heap.size + 1 then t else ow1.cut w1 k) = ow k
    rw [if_neg (by omega), Own.cut_old (by omega), hs1.agree k hk, Own.cut_old hk]
  · refine FoldAt.loc fb _ (t ++ [0]) ow1 _ w1 _ hF1.out (by simp; omega) (fun k hk hs => ⟨?_, ?_⟩)
    · show (if k = w2.heap.size + 1 then t else ow1.cut w1 k) = ow1 k
      rw [if_neg (by omega), Own.cut_old hk]
    · exact (pb_alloc (pb_alloc hb2 _) _).block k hk

theorem ErrAt.step {t : List Nat} (ht : t ≠ []) {ow ow' : Own} {w w' : World} {a : Addr} (h : ErrAt w a) (hs : Step t ow w ow' w') (ho : ow 0 = []) : ErrAt w' a :=
  (hs.cell (p := ⟨0, 0, none⟩) h.lt (by rw [ho]; exact not_sub_nil ht)).trans h
theorem LocalAt.fold {B fb : Nat} {L : LocalS} {f' : FoldS} {t : List Nat} {ow ow' : Own} {w w' : World} {hv lv : Value} (hk : known L.st.1 = true) (hB : Blk w B (localCells fb hv lv L) 108)
    (hH : Row w 34 3 hv L.held.length (L.held.flatMap msgCells)) (hG : Row w 34 3 lv L.log.length (L.log.flatMap msgCells)) (o1 : ow B = t) (o2 : ∀ g, hv.ownBlock = some g → ow g = t ++ [1]) (o3 : ∀ g, lv.ownBlock = some g → ow g = t ++ [2])
    (hs : Step (t ++ [0]) ow w ow' w') (hF : FoldAt fb f' (t ++ [0]) ow' w') : LocalAt B { L with fold := f' } t ow' w' := by
  refine ⟨hk, fb, hv, lv, hB.kept (hs.block hB.lt (by rw [o1]; exact not_child_sub t 0)), hF, ?_, ?_, (hs.agree B hB.lt).trans o1, fun g hg => (hs.agree g (hH.lt hg)).trans (o2 g hg), fun g hg => (hs.agree g (hG.lt hg)).trans (o3 g hg)⟩
  · exact hH.step hs (fun g hg e => by rw [o2 g hg] at e; exact (apart_child t (show (0 : Nat) ≠ 1 by omega)).1 e)
  · exact hG.step hs (fun g hg e => by rw [o3 g hg] at e; exact (apart_child t (show (0 : Nat) ≠ 2 by omega)).1 e)
/-- What Apply comes to. -/
def LApplyPost (B : Nat) (t : List Nat) (ow : Own) (w : World) (R : LocalS × List MsgD × Int) (e : Ending) (w' : World) : Prop :=
  ∃ v ow', e = .returned (.tuple #[v, .int .i64 R.2.2]) ∧ Step t ow w ow' w' ∧ LocalAt B R.1 t ow' w' ∧ Row w' 34 3 v R.2.1.length (R.2.1.flatMap msgCells) ∧ (∀ g, v.ownBlock = some g → w.heap.size ≤ g ∧ ow' g = [])
set_option maxRecDepth 8000 in
set_option maxHeartbeats 1000000 in
theorem lApply_any (a : Addr) (B : Nat) (L : LocalS) (t : List Nat) (ht : t ≠ []) (ow : Own) (e : EntryD) (mv : Value) (fails : Bool) (w : World) (he : ErrAt w a) (hge : ow 0 = []) (h : LocalAt B L t ow w)
    (hm : MsgsAt w mv e.msgs) (hmt : ∀ a l c, mv = .slice (some a) l c → ¬ Sub t (ow a.block)) (hl : bookN L.fold.book + 64 ≤ 268435456) (hl2 : L.fold.eras.length ≤ 536870911) (hm2 : e.msgs.length ≤ 1073741824) (hct : 0 ≤ L.fold.count ∧ L.fold.count ≤ 1073741824)
    (hl3 : L.held.length + L.log.length + (applyP L.fold e).2.1.length ≤ 268435456) (hl4 : (applyP L.fold e).1.eras.length ≤ 536870912) :
    Calls Tryz.prog 106 #[.pointer (some ⟨B, 0, none⟩), entV e mv, .bool fails] w (LApplyPost B t ow w (applyL L e fails)) := by
  obtain ⟨R, hRR⟩ : ∃ R, applyL L e fails = R := ⟨_, rfl⟩
  rw [hRR]
  unfold applyL at hRR
  have hnil := fun W (hW : Below w.heap.size w W) => lNil_any B L t ow W ((LocalAt.loc B L t).below h hW)
  obtain ⟨hk, fb, hv, lv, hB0, hF0, hH0, hG0, o1, o2, o3⟩ := h
  obtain ⟨W1, hW1⟩ : ∃ W1, W1 = (w.alloc (.cells #[.int .i64 e.kind, .int .u32 e.epoch, .int .i64 e.ver, mv] 65)).drew := ⟨_, rfl⟩
  have hb1 : Below w.heap.size w W1 := by rw [hW1]; (repeat (first | exact Below.refl _ _ | with_reducible assumption | refine pb_alloc ?_ _ | refine pb_drew ?_ | refine pb_drewN ?_ _ | refine pb_set ?_ (by simp; try omega) _ | refine pb_trans ?_ (by with_reducible assumption)))
  have kx : Blk W1 w.heap.size #[.int .i64 e.kind, .int .u32 e.epoch, .int .i64 e.ver, mv] 65 := by rw [hW1]; (repeat (first | with_reducible assumption | (refine Blk.new ?_; simp; done) | refine Blk.alloc ?_ _ | refine Blk.drew ?_ | refine Blk.drewN ?_ _ | refine Blk.call ?_ (by with_reducible assumption)))
  have hBl := hB0.lt
  have kB := hB0.call hb1
  have htc : t ++ [0] ≠ [] := by simp
  have hsub : ∀ k, k < w.heap.size → ow.cut w k = ow k := fun k hk => Own.cut_old hk
  have hap := apply_any fb L.fold (t ++ [0]) htc (ow.cut w) e mv W1 ((FoldAt.loc fb L.fold (t ++ [0])).cut hF0 hb1) (hm.below hb1) (fun a l c h hs => by
      rcases Nat.lt_or_ge a.block w.heap.size with h1 | h1
      · rw [Own.cut_old h1] at hs; exact hmt a l c h ((Sub.child t 0).trans hs)
      · rw [Own.cut_new h1] at hs; exact not_sub_nil htc hs) (by omega) (by omega) hm2 hct
  obtain ⟨⟨f', ms, bg, er⟩, hA⟩ : ∃ A, applyP L.fold e = A := ⟨_, rfl⟩
  rw [hA] at hap hRR hl3 hl4
  unfold entV at hap ⊢
  have hfo := fun (ow' : Own) (w' : World) (hs : Step (t ++ [0]) (ow.cut w) W1 ow' w') (hF : FoldAt fb f' (t ++ [0]) ow' w') => LocalAt.fold (ow := ow.cut w) hk kB (hH0.below hb1) (hG0.below hb1) (by rw [hsub B hBl, o1]) (fun g hg => by rw [hsub g (hH0.lt hg), o2 g hg]) (fun g hg => by rw [hsub g (hG0.lt hg), o3 g hg]) hs hF
  have o1' : ow.cut w B = t := by rw [hsub B hBl, o1]
  have heW := he.below hb1 he.lt
  have hge1 : ow.cut w 0 = [] := by rw [hsub _ he.lt, hge]
  simp only at hRR hl3 hl4
  unfold localCells at kB
  replace hfo : Hid (∀ _, _) := hfo
  replace hap : Hid (Calls _ _ _ _ _) := hap
  replace hnil : Hid (∀ _, _) := hnil
  replace hA : Hid (_ = _) := hA
  replace hge1 : Hid (_ = _) := hge1
  replace o1' : Hid (_ = _) := o1'
  replace heW : Hid (ErrAt _ _) := heW
  replace hl4 : Hid (_ ≤ _) := hl4
  clear hF0 hB0 hH0 hG0 o1 o2 o3 hm hmt he hge hk hsub
  by_cases her : er = 0
  · subst her
    rw [if_neg (by simp)] at hRR
    have hmid : midL L (f', ms, bg, 0) fails = (if bg then migrateL { L with fold := f' } (nowP f'.eras).2.1 fails else { L with fold := f' }) := rfl
    rw [hmid] at hRR
    clear hmid
    cases bg
    · simp only [Bool.false_eq_true, if_false] at hRR
      have hfin := hRR
      clear hRR
      replace hfin : Hid (_ = _) := hfin
      go_enter Tryz.func106, Tryz.ntmps106
      go_wp2_with fail
      refine (hnil.out _ (by (repeat (first | exact Below.refl _ _ | with_reducible assumption | refine pb_alloc ?_ _ | refine pb_drew ?_ | refine pb_drewN ?_ _ | refine pb_set ?_ (by simp; try omega) _ | refine pb_trans ?_ (by with_reducible assumption))))).mono ?_
      rintro r w1 ⟨rfl, rfl⟩
      go_wp2_with fail
      refine wp_region_sched [(0, true), (1, true), (2, true), (3, true), (4, true), (5, true), (6, false), (7, true), (8, true), (9, true), (10, true), (11, true), (12, true), (13, true)] none (fun w' => Blk w' w.heap.size #[.int .i64 e.kind, .int .u32 e.epoch, .int .i64 e.ver, mv] 65 ∧ Blk w' B #[.pointer (some ⟨fb, 0, none⟩), .int .i64 L.st.1, .int .u32 L.st.2.1, .string (bs L.st.2.2), .bool L.blk, hv, lv] 108 ∧ True) (by kernel_rfl) (by kernel_rfl) (by rw [← hW1]; exact ⟨kx, kB, trivial⟩) ?_
      rw [← hW1]
      clear hW1
      (repeat (refine wpSched_quiet (v := ?_) rfl rfl (fun w' hS => ?_) (fun K hK => ?_); rotate_left; (focus ((try have e1 := hS.1.cell); (try have e2 := hS.2.1.cell); (try have e3 := hS.2.2.1.cell); (try have e4 := hS.2.2.2.1.cell); (try have f1 := hS.1); (try have f2 := hS.2.1); (try have f3 := hS.2.2.1); (try have f4 := hS.2.2.2.1); (try have f5 := hS.2.2.2.2.1); clear hS; go_simp; (try with_reducible rfl))); (go_simp; refine hK _ ?_; clear hK K)))
      refine wpSched_loud rfl (fun K hK => ?_)
      go_wp2_with fail
      refine hap.out.mono ?_
      rintro r w2 ⟨nv, ow2, rfl, hs2, hF2, hR2, hn2⟩
      have hL1 := hfo.out ow2 w2 hs2 hF2
      have hst2 : Step t ow w ow2 w2 := (Step.wrap hb1 hs2).mono (Sub.child t 0)
      have hE2 := heW.out.step htc hs2 hge1.out
      replace hE2 : Hid (ErrAt _ _) := hE2
      have kx2 := kx.kept (hs2.free htc (Nat.le_refl _) kx.lt).1
      have kB2 := kB.kept (hs2.block kB.lt (by rw [o1'.out]; exact not_child_sub t 0))
      replace hL1 : Hid (LocalAt _ _ _ _ _) := hL1
      replace hn2 : Hid (∀ _, _) := hn2
      go_wp2
      refine hK.out _ _ (fun _ => ⟨kx2, kB2, trivial⟩) ?_
      clear hK K hs2 hF2 kx2 kB2 kx kB heW hfo hap hnil
      (repeat (refine wpSched_quiet (v := ?_) rfl rfl (fun w' hS => ?_) (fun K hK => ?_); rotate_left; (focus ((try have e1 := hS.1.cell); (try have e2 := hS.2.1.cell); (try have e3 := hS.2.2.1.cell); (try have e4 := hS.2.2.2.1.cell); (try have f1 := hS.1); (try have f2 := hS.2.1); (try have f3 := hS.2.2.1); (try have f4 := hS.2.2.2.1); (try have f5 := hS.2.2.2.2.1); clear hS; go_simp; (try with_reducible rfl))); (go_simp; refine hK _ ?_; clear hK K)))
      refine wpSched_nil ?_
      have hL2 := hL1.out
      have hb3 : ({ L with fold := f' } : LocalS).held.length + ms.length ≤ 1073741824 := by show L.held.length + ms.length ≤ _; omega
      have hb4 : (holdL { L with fold := f' } ms).held.length + (holdL { L with fold := f' } ms).log.length ≤ 536870912 := by simp only [holdL, List.length_append]; omega
      have hst3 := hst2
      have hR3 := hR2
      generalize ({ L with fold := f' } : LocalS) = L2 at *
      have hho := lHold_any B L2 t ow2 nv ms w2 hL2 hR3.src hb3
      replace hho : Hid (Calls _ _ _ _ _) := hho
      go_wp2_with fail
      refine hho.out.mono ?_
      rintro r w4 ⟨rfl, ow4, hs4, hL4⟩
      have hre := release_any B (holdL L2 ms) t ht ow4 w4 hL4 hb4
      replace hre : Hid (Calls _ _ _ _ _) := hre
      replace hL4 : Hid (LocalAt _ _ _ _ _) := hL4
      go_wp2_with fail
      refine hre.out.mono ?_
      rintro r w5 ⟨v5, ow5, rfl, hs5, hL5, hR5, hn5⟩
      replace hL5 : Hid (LocalAt _ _ _ _ _) := hL5
      replace hn5 : Hid (∀ _, _) := hn5
      go_wp2
      refine bodyPost_ret (v := .tuple #[v5, .int .i64 0]) (by simp [results, Tryz.results106, go_sem]) rfl ?_
      rw [← hfin.out]
      exact ⟨v5, ow5, rfl, (hst3.trans hs4).trans hs5, hL5.out, hR5, fun g hg => ⟨by have := (hn5.out g hg).1; have := hst3.size; have := hs4.size; omega, (hn5.out g hg).2⟩⟩
    · simp only [if_true] at hRR
      have hfin := hRR
      clear hRR
      obtain ⟨⟨ep, ve, st⟩, hn⟩ : ∃ n, nowP f'.eras = n := ⟨_, rfl⟩
      rw [hn] at hfin
      simp only at hfin
      have hf1 := era_f1 ep ve st
      replace hfin : Hid (_ = _) := hfin
      go_enter Tryz.func106, Tryz.ntmps106
      go_wp2_with fail
      refine (hnil.out _ (by (repeat (first | exact Below.refl _ _ | with_reducible assumption | refine pb_alloc ?_ _ | refine pb_drew ?_ | refine pb_drewN ?_ _ | refine pb_set ?_ (by simp; try omega) _ | refine pb_trans ?_ (by with_reducible assumption))))).mono ?_
      rintro r w1 ⟨rfl, rfl⟩
      go_wp2_with fail
      refine wp_region_sched [(0, true), (1, true), (2, true), (3, true), (4, true), (5, true), (6, false), (7, true), (8, true), (9, true), (10, true), (11, true), (12, true), (13, true)] none (fun w' => Blk w' w.heap.size #[.int .i64 e.kind, .int .u32 e.epoch, .int .i64 e.ver, mv] 65 ∧ Blk w' B #[.pointer (some ⟨fb, 0, none⟩), .int .i64 L.st.1, .int .u32 L.st.2.1, .string (bs L.st.2.2), .bool L.blk, hv, lv] 108 ∧ True) (by kernel_rfl) (by kernel_rfl) (by rw [← hW1]; exact ⟨kx, kB, trivial⟩) ?_
      rw [← hW1]
      clear hW1
      (repeat (refine wpSched_quiet (v := ?_) rfl rfl (fun w' hS => ?_) (fun K hK => ?_); rotate_left; (focus ((try have e1 := hS.1.cell); (try have e2 := hS.2.1.cell); (try have e3 := hS.2.2.1.cell); (try have e4 := hS.2.2.2.1.cell); (try have f1 := hS.1); (try have f2 := hS.2.1); (try have f3 := hS.2.2.1); (try have f4 := hS.2.2.2.1); (try have f5 := hS.2.2.2.2.1); clear hS; go_simp; (try with_reducible rfl))); (go_simp; refine hK _ ?_; clear hK K)))
      refine wpSched_loud rfl (fun K hK => ?_)
      go_wp2_with fail
      refine hap.out.mono ?_
      rintro r w2 ⟨nv, ow2, rfl, hs2, hF2, hR2, hn2⟩
      have hL1 := hfo.out ow2 w2 hs2 hF2
      have hst2 : Step t ow w ow2 w2 := (Step.wrap hb1 hs2).mono (Sub.child t 0)
      have hE2 := heW.out.step htc hs2 hge1.out
      replace hE2 : Hid (ErrAt _ _) := hE2
      have kx2 := kx.kept (hs2.free htc (Nat.le_refl _) kx.lt).1
      have kB2 := kB.kept (hs2.block kB.lt (by rw [o1'.out]; exact not_child_sub t 0))
      replace hL1 : Hid (LocalAt _ _ _ _ _) := hL1
      replace hn2 : Hid (∀ _, _) := hn2
      go_wp2
      refine hK.out _ _ (fun _ => ⟨kx2, kB2, trivial⟩) ?_
      clear hK K hs2 hF2 kx2 kB2 kx kB heW hfo hap hnil
      (repeat (refine wpSched_quiet (v := ?_) rfl rfl (fun w' hS => ?_) (fun K hK => ?_); rotate_left; (focus ((try have e1 := hS.1.cell); (try have e2 := hS.2.1.cell); (try have e3 := hS.2.2.1.cell); (try have e4 := hS.2.2.2.1.cell); (try have f1 := hS.1); (try have f2 := hS.2.1); (try have f3 := hS.2.2.1); (try have f4 := hS.2.2.2.1); (try have f5 := hS.2.2.2.2.1); clear hS; go_simp; (try with_reducible rfl))); (go_simp; refine hK _ ?_; clear hK K)))
      refine wpSched_nil ?_
      have hnow := lNow_any B { L with fold := f' } t ow2 w2 hL1.out hl4.out
      simp only [hn] at hnow
      unfold eraV at hnow
      replace hnow : Hid (Calls _ _ _ _ _) := hnow
      replace hn : Hid (_ = _) := hn
      go_wp2_with fail
      refine hnow.out.mono ?_
      rintro r w6 ⟨rfl, hb6⟩
      have hmig := lMigrate_any a B { L with fold := f' } t ow2 ve fails w6 (hE2.out.below hb6 hE2.out.lt) ((LocalAt.loc B _ t).below hL1.out hb6)
      have hb3 : (migrateL { L with fold := f' } ve fails).held.length + ms.length ≤ 1073741824 := by show L.held.length + ms.length ≤ _; omega
      have hb4 : (holdL (migrateL { L with fold := f' } ve fails) ms).held.length + (holdL (migrateL { L with fold := f' } ve fails) ms).log.length ≤ 536870912 := by simp only [holdL, migrateL, List.length_append]; omega
      generalize migrateL { L with fold := f' } ve fails = L2 at *
      replace hmig : Hid (Calls _ _ _ _ _) := hmig
      go_wp2_with fail
      refine hmig.out.mono ?_
      rintro r w3 ⟨rfl, ow3, hs3, hL2⟩
      have hst3 := (hst2.trans (Step.of_below t ow2 hb6)).trans hs3
      have hR3 := (hR2.below hb6).step hs3 (fun g hg e => by rw [(hn2.out g hg).2] at e; exact not_sub_nil ht e)
      have hho := lHold_any B L2 t ow3 nv ms w3 hL2 hR3.src hb3
      replace hho : Hid (Calls _ _ _ _ _) := hho
      go_wp2_with fail
      refine hho.out.mono ?_
      rintro r w4 ⟨rfl, ow4, hs4, hL4⟩
      have hre := release_any B (holdL L2 ms) t ht ow4 w4 hL4 hb4
      replace hre : Hid (Calls _ _ _ _ _) := hre
      replace hL4 : Hid (LocalAt _ _ _ _ _) := hL4
      go_wp2_with fail
      refine hre.out.mono ?_
      rintro r w5 ⟨v5, ow5, rfl, hs5, hL5, hR5, hn5⟩
      replace hL5 : Hid (LocalAt _ _ _ _ _) := hL5
      replace hn5 : Hid (∀ _, _) := hn5
      go_wp2
      refine bodyPost_ret (v := .tuple #[v5, .int .i64 0]) (by simp [results, Tryz.results106, go_sem]) rfl ?_
      rw [← hfin.out]
      exact ⟨v5, ow5, rfl, (hst3.trans hs4).trans hs5, hL5.out, hR5, fun g hg => ⟨by have := (hn5.out g hg).1; have := hst3.size; have := hs4.size; omega, (hn5.out g hg).2⟩⟩
  · rw [if_pos (by simpa using her)] at hRR
    have t1 : (er != 0) = true := by simpa using her
    have hfin := hRR
    clear hRR
    replace hfin : Hid (_ = _) := hfin
    replace her : Hid (_ → _) := her
    go_enter Tryz.func106, Tryz.ntmps106
    go_wp2_with fail
    refine (hnil.out _ (by (repeat (first | exact Below.refl _ _ | with_reducible assumption | refine pb_alloc ?_ _ | refine pb_drew ?_ | refine pb_drewN ?_ _ | refine pb_set ?_ (by simp; try omega) _ | refine pb_trans ?_ (by with_reducible assumption))))).mono ?_
    rintro r w1 ⟨rfl, rfl⟩
    go_wp2_with fail
    refine wp_region_sched [(0, true), (1, true), (2, true), (3, true), (4, true), (5, true), (6, false), (7, true), (8, true), (9, true), (10, true), (11, true), (12, true), (13, true)] none (fun w' => Blk w' w.heap.size #[.int .i64 e.kind, .int .u32 e.epoch, .int .i64 e.ver, mv] 65 ∧ Blk w' B #[.pointer (some ⟨fb, 0, none⟩), .int .i64 L.st.1, .int .u32 L.st.2.1, .string (bs L.st.2.2), .bool L.blk, hv, lv] 108 ∧ True) (by kernel_rfl) (by kernel_rfl) (by rw [← hW1]; exact ⟨kx, kB, trivial⟩) ?_
    rw [← hW1]
    clear hW1
    (repeat (refine wpSched_quiet (v := ?_) rfl rfl (fun w' hS => ?_) (fun K hK => ?_); rotate_left; (focus ((try have e1 := hS.1.cell); (try have e2 := hS.2.1.cell); (try have e3 := hS.2.2.1.cell); (try have e4 := hS.2.2.2.1.cell); (try have f1 := hS.1); (try have f2 := hS.2.1); (try have f3 := hS.2.2.1); (try have f4 := hS.2.2.2.1); (try have f5 := hS.2.2.2.2.1); clear hS; go_simp; (try with_reducible rfl))); (go_simp; refine hK _ ?_; clear hK K)))
    refine wpSched_loud rfl (fun K hK => ?_)
    go_wp2_with fail
    refine hap.out.mono ?_
    rintro r w2 ⟨nv, ow2, rfl, hs2, hF2, hR2, hn2⟩
    have hL1 := hfo.out ow2 w2 hs2 hF2
    have hst2 : Step t ow w ow2 w2 := (Step.wrap hb1 hs2).mono (Sub.child t 0)
    have hE2 := heW.out.step htc hs2 hge1.out
    replace hE2 : Hid (ErrAt _ _) := hE2
    have kx2 := kx.kept (hs2.free htc (Nat.le_refl _) kx.lt).1
    have kB2 := kB.kept (hs2.block kB.lt (by rw [o1'.out]; exact not_child_sub t 0))
    replace hL1 : Hid (LocalAt _ _ _ _ _) := hL1
    replace hn2 : Hid (∀ _, _) := hn2
    go_wp2
    refine hK.out _ _ (fun _ => ⟨kx2, kB2, trivial⟩) ?_
    clear hK K hs2 hF2 kx2 kB2 kx kB heW hfo hap hnil
    (repeat (refine wpSched_quiet (v := ?_) rfl rfl (fun w' hS => ?_) (fun K hK => ?_); rotate_left; (focus ((try have e1 := hS.1.cell); (try have e2 := hS.2.1.cell); (try have e3 := hS.2.2.1.cell); (try have e4 := hS.2.2.2.1.cell); (try have f1 := hS.1); (try have f2 := hS.2.1); (try have f3 := hS.2.2.1); (try have f4 := hS.2.2.2.1); (try have f5 := hS.2.2.2.2.1); clear hS; go_simp; (try with_reducible rfl))); (go_simp; refine hK _ ?_; clear hK K)))
    refine wpSched_nil ?_
    go_wp2
    refine bodyPost_ret (v := .tuple #[.slice none 0 0, .int .i64 er]) (by simp [results, Tryz.results106, go_sem]) rfl ?_
    rw [← hfin.out]
    exact ⟨_, ow2, rfl, hst2, hL1.out, row_nil _ _ _, by simp [Value.ownBlock]⟩
end Go.Proofs.YtaopeioebpfdeaaGreatDoor
