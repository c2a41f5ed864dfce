/- PROVED HERE: WALKS: cmp.Or, cmp.Compare of uint32, batch's compare; batch's compare is an order. No condition. slices.SortFunc AT WHAT IS PENDING: what it leaves is what waits, by origin and count. Condition: no two bear one id. WALKS: the sort of nothing; batch's sorted, the iterator over what waits, sorted. Condition: the pool is one that calls have made. WALK: the iterator over what waits, sorted. Condition: the pool is one that calls have made. -/
import Derived.Maps.RangeRun
import Derived.Test.YtaopeioebpfdeaaGreatDoorK02
import Derived.Test.YtaopeioebpfdeaaGreatDoorK22
namespace Go.Proofs.YtaopeioebpfdeaaGreatDoor
open Go Go.RowKit Go.Shelf Go.Extern.Stop Go.Stop Go.Extern Go.Lib Go.Sort
attribute [local go_sem] Oper.semAt_some wide_fn wide_depth

theorem isNaNU_any (x : Nat) (w : World) : Calls Tryz.prog 200 #[.int .u32 x] w fun e w' => e = .returned (.bool false) ∧ w' = w := by
  have t0 : ((x : Int) != (x : Int)) = false := by simp
  go_enter Tryz.func200, Tryz.ntmps200
  go_wp2
  go_ret
  exact ⟨rfl, rfl⟩
theorem cmpU_any (x y : Nat) (w : World) : Calls Tryz.prog 171 #[.int .u32 x, .int .u32 y] w fun e w' => e = .returned (.int .i64 (Lib.compareInt x y)) ∧ w' = w := by
  unfold Lib.compareInt
  have hn := fun z => isNaNU_any z w
  replace hn : Hid (∀ _, _) := hn
  by_cases h1 : (x : Int) < y
  · rw [if_pos h1]
    have t1 : decide (x < y) = true := by simpa using h1
    replace h1 : Hid (_ < _) := h1
    go_enter Tryz.func171, Tryz.ntmps171
    go_wp2_with (go_at_call 200; refine (hn.out _).mono ?_; rintro e w1 ⟨rfl, hw1⟩; obtain rfl := hw1.symm)
    go_ret
    exact ⟨rfl, rfl⟩
  · rw [if_neg h1]
    have t1 : decide (x < y) = false := by simpa using h1
    replace h1 : Hid (_ → _) := h1
    by_cases h2 : (y : Int) < x
    · rw [if_pos h2]
      have t2 : decide (y < x) = true := by simpa using h2
      replace h2 : Hid (_ < _) := h2
      go_enter Tryz.func171, Tryz.ntmps171
      go_wp2_with (go_at_call 200; refine (hn.out _).mono ?_; rintro e w1 ⟨rfl, hw1⟩; obtain rfl := hw1.symm)
      go_ret
      exact ⟨rfl, rfl⟩
    · rw [if_neg h2]
      have t2 : decide (y < x) = false := by simpa using h2
      replace h2 : Hid (_ → _) := h2
      go_enter Tryz.func171, Tryz.ntmps171
      go_wp2_with (go_at_call 200; refine (hn.out _).mono ?_; rintro e w1 ⟨rfl, hw1⟩; obtain rfl := hw1.symm)
      go_ret
      exact ⟨rfl, rfl⟩
set_option maxHeartbeats 1000000 in
theorem or2_any (b : Nat) (x y : Int) (w : World) (h0 : w.cell? ⟨b, 0, none⟩ = some (.int .i64 x)) (h1 : w.cell? ⟨b, 1, none⟩ = some (.int .i64 y)) :
    Calls Tryz.prog 169 #[.slice (some ⟨b, 0, none⟩) 2 2] w fun e w' => e = .returned (.int .i64 (if x ≠ 0 then x else y)) ∧ w' = w := by
  go_enter Tryz.func169, Tryz.ntmps169
  go_wp2
  go_loop [8] (fun p8 => ∃ k : Nat, k ≤ 2 ∧ p8 = .int .i64 k ∧ (1 ≤ k → x = 0) ∧ (2 ≤ k → y = 0)) (fun p8 => 2 - (intOf p8).toNat)
  case atStart => exact ⟨0, by omega, rfl, by simp, by simp⟩
  case round =>
    obtain ⟨k, hk, rfl, hx, hy⟩ := hrel
    rcases (by omega : k = 0 ∨ k = 1 ∨ k = 2) with rfl | rfl | rfl
    · by_cases hx0 : x = 0
      · have t0 : (x != 0) = false := by simp [hx0]
        replace hx0 : Hid (_ = _) := hx0
        go_wp2
        go_round
        case rel => exact ⟨1, by omega, by go_num, fun _ => hx0.out, by omega⟩
        case measure => simp [intOf]
      · have t0 : (x != 0) = true := by simpa using hx0
        have hv : (if x ≠ 0 then x else y) = x := if_pos hx0
        replace hx0 : Hid (_ → _) := hx0
        replace hv : Hid (_ = _) := hv
        go_wp2
        go_ret
        first | exact ⟨rfl, rfl⟩ | exact ⟨by rw [hv.out], rfl⟩
    · have hx0 : x = 0 := hx (by omega)
      have hv : (if x ≠ 0 then x else y) = y := if_neg (by simp [hx0])
      replace hx0 : Hid (_ = _) := hx0
      by_cases hy0 : y = 0
      · have t0 : (y != 0) = false := by simp [hy0]
        replace hy0 : Hid (_ = _) := hy0
        replace hv : Hid (_ = _) := hv
        go_wp2
        go_round
        case rel => exact ⟨2, by omega, by go_num, fun _ => hx0.out, fun _ => hy0.out⟩
        case measure => simp [intOf]
      · have t0 : (y != 0) = true := by simpa using hy0
        replace hy0 : Hid (_ → _) := hy0
        replace hv : Hid (_ = _) := hv
        go_wp2
        go_ret
        first | exact ⟨rfl, rfl⟩ | exact ⟨by rw [hv.out], rfl⟩
    · have hx0 : x = 0 := hx (by omega)
      have hy0 : y = 0 := hy (by omega)
      have hv : (if x ≠ 0 then x else y) = 0 := by rw [if_neg (by simp [hx0]), hy0]
      replace hx0 : Hid (_ = _) := hx0
      replace hy0 : Hid (_ = _) := hy0
      replace hv : Hid (_ = _) := hv
      go_wp2
      go_ret
      first | exact ⟨rfl, rfl⟩ | exact ⟨by rw [hv.out], rfl⟩

/-- What compare comes to. -/
def cmpM (a b : MsgD) : Int := if Lib.compareInt a.1.1 b.1.1 ≠ 0 then Lib.compareInt a.1.1 b.1.1 else Lib.compareInt (a.1.2 : Nat) (b.1.2 : Nat)
set_option maxRecDepth 8000 in
set_option maxHeartbeats 1000000 in
theorem compare_any (x y : MsgD) (w : World) : Calls Tryz.prog 144 #[.agg (msgCells x).toArray, .agg (msgCells y).toArray] w fun e w' => e = .returned (.int .i64 (cmpM x y)) ∧ ∃ q os', w' = grow (w.drewN q) os' := by
  obtain ⟨⟨xi, xc⟩, xd⟩ := x
  obtain ⟨⟨yi, yc⟩, yd⟩ := y
  unfold msgCells cmpM
  simp only
  have hc1 := fun W => Tryz.cmp_Compare_int xi yi W
  have hc2 := fun W => cmpU_any xc yc W
  generalize Lib.compareInt xi yi = r1 at *
  generalize Lib.compareInt (xc : Int) (yc : Int) = r2 at *
  have hor := fun b W h0 h1 => or2_any b r1 r2 W h0 h1
  generalize (if r1 ≠ 0 then r1 else r2) = r at *
  replace hc1 : Hid (∀ _, _) := hc1
  replace hc2 : Hid (∀ _, _) := hc2
  replace hor : Hid (∀ _ _ _ _, _) := hor
  obtain ⟨W1, hW1⟩ : ∃ W1, W1 = (w.alloc (.cells #[.int .i64 xi, .int .u32 xc, .string (bs xd)] 178)).alloc (.cells #[.int .i64 yi, .int .u32 yc, .string (bs yd)] 178) := ⟨_, rfl⟩
  have kx : Blk W1 w.heap.size #[.int .i64 xi, .int .u32 xc, .string (bs xd)] 178 := by rw [hW1]; exact (Blk.new rfl).alloc _
  have ky : Blk W1 (w.heap.size + 1) #[.int .i64 yi, .int .u32 yc, .string (bs yd)] 178 := by rw [hW1]; exact Blk.new (by simp)
  replace hW1 : Hid (_ = _) := hW1
  go_enter Tryz.func144, Tryz.ntmps144
  go_wp2_with fail
  rw [← hW1.out]
  refine wp_region_sched [(0, true), (1, true), (2, true), (3, true), (4, true), (5, true), (6, true), (7, true), (9, true), (10, true), (11, true), (12, true), (13, true), (14, true), (15, true), (16, true), (8, false), (17, false), (18, false), (19, false), (20, true)] none (fun w' => Blk w' w.heap.size #[.int .i64 xi, .int .u32 xc, .string (bs xd)] 178 ∧ Blk w' (w.heap.size + 1) #[.int .i64 yi, .int .u32 yc, .string (bs yd)] 178 ∧ True) (by kernel_rfl) (by kernel_rfl) ⟨kx.drew, ky.drew, trivial⟩ ?_
  (repeat (refine wpSched_quiet (v := ?_) rfl rfl (fun w' hS => ?_) (fun K hK => ?_); rotate_left; (focus ((try have e1 := hS.1.cell); (try have e2 := hS.2.1.cell); (try have e3 := hS.2.2.1.cell); (try have e4 := hS.2.2.2.1.cell); (try have f1 := hS.1); (try have f2 := hS.2.1); (try have f3 := hS.2.2.1); (try have f4 := hS.2.2.2.1); (try have f5 := hS.2.2.2.2.1); clear hS; go_simp; (try with_reducible rfl))); (go_simp; refine hK _ ?_; clear hK K)))
  refine wpSched_loud rfl (fun K hK => ?_)
  go_wp2_with fail
  refine (hc1.out _).mono ?_
  rintro e w2 ⟨rfl, hw2⟩
  obtain rfl := hw2.symm
  go_wp2
  refine hK.out _ _ (fun _ => ⟨kx.drew, ky.drew, trivial⟩) ?_
  clear hK K
  refine wpSched_loud rfl (fun K hK => ?_)
  go_wp2_with fail
  refine (hc2.out _).mono ?_
  rintro e w3 ⟨rfl, hw3⟩
  obtain rfl := hw3.symm
  go_wp2
  refine hK.out _ _ (fun _ => ⟨kx.drew, ky.drew, trivial⟩) ?_
  clear hK K
  refine wpSched_loud rfl (fun K hK => ?_)
  go_wp2
  refine hK.out _ _ (fun _ => ⟨kx.drew.alloc _, ky.drew.alloc _, trivial⟩) ?_
  clear hK K
  refine wpSched_loud rfl (fun K hK => ?_)
  go_wp2_with fail
  refine (hor.out _ _ (by simp) (by simp)).mono ?_
  rintro e w4 ⟨rfl, hw4⟩
  obtain rfl := hw4.symm
  go_wp2
  refine hK.out _ _ (fun _ => ⟨kx.drew.alloc _, ky.drew.alloc _, trivial⟩) ?_
  clear hK K
  (repeat (refine wpSched_quiet (v := ?_) rfl rfl (fun w' hS => ?_) (fun K hK => ?_); rotate_left; (focus ((try have e1 := hS.1.cell); (try have e2 := hS.2.1.cell); (try have e3 := hS.2.2.1.cell); (try have e4 := hS.2.2.2.1.cell); (try have f1 := hS.1); (try have f2 := hS.2.1); (try have f3 := hS.2.2.1); (try have f4 := hS.2.2.2.1); (try have f5 := hS.2.2.2.2.1); clear hS; go_simp; (try with_reducible rfl))); (go_simp; refine hK _ ?_; clear hK K)))
  refine wpSched_nil ?_
  go_wp2
  go_ret
  refine ⟨rfl, 1, #[.cells #[.int .i64 xi, .int .u32 xc, .string (bs xd)] 178, .cells #[.int .i64 yi, .int .u32 yc, .string (bs yd)] 178, .cells #[.int .i64 r1, .int .i64 r2] 3], ?_⟩
  rw [hW1.out, alloc_eq_grow, alloc_eq_grow, alloc_eq_grow, grow_grow, grow_grow]
  rfl
theorem cmpLays (blk off size : Nat) (w : World) : CmpLays Tryz.prog 144 #[] msgCells 3 cmpM blk off size w :=
  fun _ _ _ _ x y => compare_any x y _
end Go.Proofs.YtaopeioebpfdeaaGreatDoor
namespace Go.Proofs.YtaopeioebpfdeaaGreatDoor
open Go Go.RowKit Go.Shelf Go.Extern.Stop Go.Stop Go.Extern Go.Lib Go.Sort
attribute [local go_sem] Oper.semAt_some wide_fn wide_depth

theorem lt_cmpM (x y : MsgD) : ltOf cmpM x y = (decide (x.1.1 < y.1.1) || (decide (x.1.1 = y.1.1) && decide (x.1.2 < y.1.2))) := by
  obtain ⟨⟨xi, xc⟩, xd⟩ := x
  obtain ⟨⟨yi, yc⟩, yd⟩ := y
  unfold ltOf cmpM Lib.compareInt
  simp only
  by_cases h1 : xi < yi
  · simp [h1]
  · by_cases h2 : yi < xi
    · have : ¬ xi = yi := by omega
      simp [h1, h2, this]
    · have h3 : xi = yi := by omega
      subst h3
      by_cases h4 : (xc : Int) < yc
      · have : xc < yc := by omega
        simp [h4, this]
      · by_cases h5 : (yc : Int) < xc
        · have : ¬ xc < yc := by omega
          simp [h4, h5, this]
        · have : ¬ xc < yc := by omega
          simp [h4, h5, this]
theorem swoM : SWO (ltOf cmpM) where
  irrefl x := by rw [lt_cmpM]; simp
  trans x y z h1 h2 := by
    rw [lt_cmpM] at *
    simp only [Bool.or_eq_true, Bool.and_eq_true, decide_eq_true_eq] at *
    omega
  ntrans x y z h1 h2 := by
    rw [lt_cmpM] at *
    simp only [Bool.or_eq_false_iff, Bool.and_eq_false_iff, decide_eq_false_iff_not] at *
    omega
theorem ltM_of_not {a b : MsgD} (h : ltOf cmpM b a = false) : ltM a b = true := by
  rw [lt_cmpM] at h
  simp only [Bool.or_eq_false_iff, Bool.and_eq_false_iff, decide_eq_false_iff_not] at h
  unfold ltM
  simp only [Bool.or_eq_true, Bool.and_eq_true, decide_eq_true_eq]
  omega
theorem ltM_antisymm {a b : MsgD} (h : ltM a b = true) (k : ltM b a = true) : a.1 = b.1 := by
  unfold ltM at h k
  simp only [Bool.or_eq_true, Bool.and_eq_true, decide_eq_true_eq] at h k
  apply Prod.ext <;> omega
theorem ltM_total (a b : MsgD) (h : ltM a b = false) : ltM b a = true := by
  unfold ltM at *
  simp only [Bool.or_eq_false_iff, Bool.and_eq_false_iff, decide_eq_false_iff_not, Bool.or_eq_true, Bool.and_eq_true, decide_eq_true_eq] at *
  omega
theorem ltM_trans {a b c : MsgD} (h : ltM a b = true) (k : ltM b c = true) : ltM a c = true := by
  unfold ltM at *
  simp only [Bool.or_eq_true, Bool.and_eq_true, decide_eq_true_eq] at *
  omega
theorem insM_perm (m : MsgD) : ∀ l, (insM m l).Perm (m :: l)
  | [] => List.Perm.refl _
  | x :: l => by
    unfold insM
    split
    · exact List.Perm.refl _
    · exact ((insM_perm m l).cons x).trans (List.Perm.swap m x l)
theorem sortM_perm : ∀ l, (sortM l).Perm l
  | [] => List.Perm.refl _
  | x :: l => (insM_perm x (sortM l)).trans ((sortM_perm l).cons x)
theorem insM_sorted (m : MsgD) : ∀ l : List MsgD, l.Pairwise (fun a b => ltM a b = true) → (insM m l).Pairwise (fun a b => ltM a b = true)
  | [], _ => by simp [insM]
  | x :: l, h => by
    unfold insM
    split
    · rename_i hx
      refine List.pairwise_cons.2 ⟨fun y hy => ?_, h⟩
      rcases List.mem_cons.1 hy with rfl | hy
      · exact hx
      · exact ltM_trans hx ((List.pairwise_cons.1 h).1 y hy)
    · rename_i hx
      have hx' : ltM x m = true := ltM_total m x (by simpa using hx)
      refine List.pairwise_cons.2 ⟨fun y hy => ?_, insM_sorted m l (List.pairwise_cons.1 h).2⟩
      rcases List.mem_cons.1 ((insM_perm m l).mem_iff.1 hy) with rfl | hy
      · exact hx'
      · exact (List.pairwise_cons.1 h).1 y hy
theorem sortM_sorted : ∀ l : List MsgD, (sortM l).Pairwise (fun a b => ltM a b = true)
  | [] => List.Pairwise.nil
  | x :: l => insM_sorted x _ (sortM_sorted l)
theorem sorted_unique : ∀ (a b : List MsgD), a.Perm b → a.Pairwise (fun a b => ltM a b = true) → b.Pairwise (fun a b => ltM a b = true) → (a.map (·.1)).Nodup → a = b
  | [], b, h, _, _, _ => (List.nil_perm.1 h).symm ▸ rfl
  | x :: a, [], h, _, _, _ => by cases List.perm_nil.1 h
  | x :: a, y :: b, h, ha, hb, hn => by
    have hxb : x ∈ y :: b := h.mem_iff.1 (List.mem_cons_self ..)
    have hya : y ∈ x :: a := h.mem_iff.2 (List.mem_cons_self ..)
    have hxy : x = y := by
      rcases List.mem_cons.1 hya with e | hy
      · exact e.symm
      · rcases List.mem_cons.1 hxb with e | hx
        · exact e
        · have h1 := (List.pairwise_cons.1 ha).1 y hy
          have h2 := (List.pairwise_cons.1 hb).1 x hx
          have h3 := ltM_antisymm h1 h2
          have h4 := (List.nodup_cons.1 hn).1
          exact absurd (List.mem_map.2 ⟨y, hy, h3.symm⟩) h4
    subst hxy
    rw [sorted_unique a b ((List.perm_cons x).1 h) (List.pairwise_cons.1 ha).2 (List.pairwise_cons.1 hb).2 (List.nodup_cons.1 hn).2]

theorem flatK_msgs (l : List MsgD) : flatK msgCells 3 l.toArray = (l.flatMap msgCells).toArray := by
  have hlen : (l.flatMap msgCells).length = l.length * 3 := by
    induction l with
    | nil => rfl
    | cons x l ih => rw [List.flatMap_cons, List.length_append, ih, List.length_cons]; simp [msgCells]; omega
  apply Array.ext
  · simp [hlen]
  · intro t h1 h2
    have ht : t < l.length * 3 := by simpa using h1
    have hk : t / 3 < l.length := by omega
    have hx : l[t / 3]? = some l[t / 3] := List.getElem?_eq_getElem hk
    have hf := flatMsg_at l (t / 3) _ hx (t % 3) (Nat.mod_lt _ (by omega))
    rw [show t / 3 * 3 + t % 3 = t by omega] at hf
    have h3 : (l.flatMap msgCells)[t]? = some ((l.flatMap msgCells).toArray[t]) := by
      rw [List.getElem?_eq_getElem (by rw [hlen]; exact ht)]; simp
    have hget := get_flatK msgCells 3 l.toArray t (by simpa using ht)
    rw [getElem!_pos _ t h1] at hget
    rw [hget]
    rw [h3] at hf
    have h4 : l.toArray[t / 3]! = l[t / 3] := by rw [getElem!_pos _ _ (by simpa using hk)]; simp
    rw [h4]
    have hlt : t % 3 < (msgCells l[t / 3]).length := by simp [msgCells]; omega
    rw [List.getElem?_eq_getElem hlt] at hf
    rw [getElem!_pos (msgCells l[t / 3]) (t % 3) hlt]
    exact (Option.some.inj hf).symm
theorem pendT : ElemT Tryz.prog 229 178 3 32 (.agg #[.int .i64 0, .int .u32 0, .string ⟨#[]⟩]) := ⟨Tryz.underlying229, by kernel_rfl, rfl, by decide, by decide⟩
/-- What the sort's world is. -/
theorem sort_world {W : World} {g n : Nat} {cur : Array Value} {e : TypeId} (hg : W.heap[g]? = some (.cells cur e (0, 0))) (hs : n * 3 ≤ cur.size) (l : List MsgD) (hl : l.length = n) (m : Nat) (os : Array Obj) :
    Mod (fun k => k = g) W (sortWorldK msgCells 3 W g 0 m l.toArray os) ∧ ∃ cur', (sortWorldK msgCells 3 W g 0 m l.toArray os).heap[g]? = some (.cells cur' e (0, 0)) ∧ cur'.size = cur.size ∧ cur'.toList.take (n * 3) = l.flatMap msgCells := by
  have hlen : (l.flatMap msgCells).length = n * 3 := by
    rw [← hl]
    clear hl hs
    induction l with
    | nil => rfl
    | cons x l ih => rw [List.flatMap_cons, List.length_append, ih, List.length_cons]; simp [msgCells]; omega
  have hgl : g < W.heap.size := (Array.getElem?_eq_some_iff.1 hg).1
  have hheap : (sortWorldK msgCells 3 W g 0 m l.toArray os).heap = (W.heap.modify g (onCells (putCells id 0 (l.flatMap msgCells).toArray))) ++ os := by
    rw [← flatK_msgs]; rfl
  refine ⟨⟨rfl, rfl, rfl, by rw [hheap]; simp, fun k hk hn => ?_⟩, putCells id 0 (l.flatMap msgCells).toArray cur, ?_, by simp [putCells], ?_⟩
  · rw [hheap, Array.getElem?_append_left (by simpa using hk), Array.getElem?_modify, if_neg (fun e => hn e.symm)]
  · rw [hheap, Array.getElem?_append_left (by simpa using hgl), Array.getElem?_modify, if_pos rfl, hg]; rfl
  · apply List.ext_getElem?
    intro k
    rw [List.getElem?_take]
    by_cases hk : k < n * 3
    · rw [if_pos hk]
      have hkc : k < cur.size := by omega
      have hkl : k < (l.flatMap msgCells).length := by omega
      unfold putCells
      rw [Array.getElem?_toList, Array.getElem?_mapIdx, Array.getElem?_eq_getElem hkc, Option.map_some, if_pos (by rw [List.size_toArray, hlen]; omega)]
      rw [Nat.sub_zero, getElem!_pos (l.flatMap msgCells).toArray k (by simpa using hkl), List.getElem?_eq_getElem hkl]
      simp
    · rw [if_neg hk, List.getElem?_eq_none (by omega)]

/-- What the sort comes to. -/
def SortPost (g cap : Nat) (l : List MsgD) (W : World) (e : Ending) (W' : World) : Prop :=
  e = .returned (.tuple #[]) ∧ Mod (fun k => k = g) W W' ∧ Row W' 178 3 (.slice (some ⟨g, 0, none⟩) l.length cap) l.length ((sortM l).flatMap msgCells)
theorem sort_any (g cap : Nat) (l : List MsgD) (hn : (l.map (·.1)).Nodup) (hl : l.length ≤ 1073741824) (W : World) (h : Row W 178 3 (.slice (some ⟨g, 0, none⟩) l.length cap) l.length (l.flatMap msgCells)) :
    Calls Tryz.prog 143 #[.slice (some ⟨g, 0, none⟩) l.length cap, .func (.func 144) #[] #[]] W (SortPost g cap l W) := by
  rcases h.2 with ⟨h0, -⟩ | ⟨g', cap', cur, h0, -, hg, hc, hm, hs, ht⟩
  · cases h0
  cases h0
  have eg : ∀ args w, (callFunc 144 args).run Tryz.prog w = .ok (.enter 144 args) w := enters_of Tryz.func144 (by kernel_rfl) rfl
  have hlen : (l.flatMap msgCells).length = l.length * 3 := h.1
  have hH : HoldsK msgCells 3 W g 0 l.toArray := by
    unfold HoldsK
    rw [flatK_msgs]
    intro j hj
    have hj' : j < (l.flatMap msgCells).length := by simpa using hj
    have hB : Blk W g cur 178 := hg
    refine ⟨?_, by rw [hB.frozen]⟩
    rw [hB.cell, Nat.zero_add]
    have h1 : (l.flatMap msgCells)[j]? = cur[j]? := by rw [← ht, List.getElem?_take, if_pos (by omega)]; simp
    rw [← h1, List.getElem?_eq_getElem hj', getElem!_pos (l.flatMap msgCells).toArray j hj]
    simp
  have hcon := AnyQ.slices_SortFunc Tryz.sortPend 3 Tryz.isAgg178 Tryz.sizeOf178 msgCells (fun _ => rfl) (fun x v hv => by simp [msgCells] at hv; rcases hv with rfl | rfl | rfl <;> rfl) cmpM swoM 144 #[] g 0 cap l.toArray W eg (cmpLays g 0 l.toArray.size W) hH (Array.getElem?_eq_some_iff.1 hg).1 (by simp; omega)
  change Calls Tryz.prog 143 _ _ _ at hcon
  refine hcon.mono ?_
  rintro e W' ⟨rfl, d', n, os, hp, hso, rfl⟩
  obtain ⟨l', rfl⟩ : ∃ l' : List MsgD, d' = l'.toArray := ⟨d'.toList, by simp⟩
  have hsz : l'.length = l.length := by simpa using hp.1
  have hperm : l'.Perm l := by
    have h3 : (l'.take l.length).Perm l := by simpa [hsz] using hp.2.2
    rwa [List.take_of_length_le (by omega)] at h3
  have hsorted : l'.Pairwise (fun a b => ltM a b = true) := by
    rw [List.pairwise_iff_getElem]
    intro i j hi hj hij
    have h4 := hso i j (Nat.zero_le _) hij (by simp; omega)
    rw [getElem!_pos l'.toArray j (by simpa using hj), getElem!_pos l'.toArray i (by simpa using hi)] at h4
    exact ltM_of_not (by simpa using h4)
  have heq : l' = sortM l := sorted_unique l' (sortM l) (hperm.trans (sortM_perm l).symm) hsorted (sortM_sorted l) ((hperm.map (·.1)).nodup_iff.2 hn)
  obtain ⟨hmod, cur', hcur, hcs, hct⟩ := sort_world hg (by omega) l' hsz n os
  refine ⟨rfl, hmod, ?_, .inr ⟨g, cap, cur', rfl, Nat.zero_le _, hcur, hc, hm, by omega, ?_⟩⟩
  · rw [← hlen]; exact ((sortM_perm l).flatMap_right msgCells).length_eq
  · rw [hct, heq]
end Go.Proofs.YtaopeioebpfdeaaGreatDoor
namespace Go.Proofs.YtaopeioebpfdeaaGreatDoor
open Go Go.RowKit Go.Shelf Go.Extern.Stop Go.Stop Go.Extern Go.Lib
attribute [local go_sem] Oper.semAt_some wide_fn wide_depth

theorem insertion_none (cf : Value) (w : World) : Calls Tryz.prog 189 #[.slice none 0 0, .int .i64 0, .int .i64 0, cf] w fun e w' => e = .returned (.tuple #[]) ∧ w' = w := by
  go_enter Tryz.func189, Tryz.ntmps189
  go_wp2
  go_loop [8] (fun p8 => p8 = .int .i64 1) (fun _ => 0)
  case atStart => rfl
  case round =>
    subst hrel
    go_wp2
    go_end0
    exact ⟨rfl, rfl⟩
theorem pdq_none (cf : Value) (n : Int) (w : World) : Calls Tryz.prog 167 #[.slice none 0 0, .int .i64 0, .int .i64 0, .int .i64 n, cf] w fun e w' => e = .returned (.tuple #[]) ∧ w' = w := by
  go_enter Tryz.func167, Tryz.ntmps167
  go_wp2
  go_loop [1, 2] (fun p1 p2 => p1 = .int .i64 0 ∧ p2 = .int .i64 0) (fun _ _ => 0)
  case atStart => exact ⟨rfl, rfl⟩
  case round =>
    obtain ⟨rfl, rfl⟩ := hrel
    go_wp2_with fail
    refine (insertion_none _ _).mono ?_
    rintro e w1 ⟨rfl, hw1⟩
    obtain rfl := hw1.symm
    go_wp2
    refine bodyPost_ret (results_none rfl _ _ _) rfl ?_
    exact ⟨rfl, rfl⟩
theorem sort_none (cf : Value) (w : World) : Calls Tryz.prog 143 #[.slice none 0 0, cf] w fun e w' => e = .returned (.tuple #[]) ∧ w' = w := by
  have hb := fun W => Tryz.bits_Len 0 W (by omega) (by omega)
  replace hb : Hid (∀ _, _) := hb
  go_enter Tryz.func143, Tryz.ntmps143
  go_wp2_with fail
  refine (hb.out _).mono ?_
  rintro e w1 ⟨rfl, hw1⟩
  obtain rfl := hw1.symm
  go_wp2_with fail
  refine (pdq_none _ _ _).mono ?_
  rintro e w2 ⟨rfl, hw2⟩
  obtain rfl := hw2.symm
  go_wp2
  go_end0
  exact ⟨rfl, rfl⟩

/-- The messages of the entries that were not handed out yet. -/
def leftMs (L : List (MapEntry × MsgD)) (seen : Array Nat) : List MsgD := (L.filter fun q => !seen.contains q.1.born).map (·.2)
theorem leftMs_none (L : List (MapEntry × MsgD)) : leftMs L #[] = L.map (·.2) := by
  unfold leftMs
  rw [List.filter_eq_self.2]
  intro q _; simp
theorem leftMs_yes (q : MapEntry × MsgD) (L : List (MapEntry × MsgD)) (seen : Array Nat) (h : seen.contains q.1.born = false) : leftMs (q :: L) seen = q.2 :: leftMs L seen := by
  unfold leftMs; rw [List.filter_cons_of_pos (by rw [h]; rfl)]; rfl
theorem leftMs_no (q : MapEntry × MsgD) (L : List (MapEntry × MsgD)) (seen : Array Nat) (h : seen.contains q.1.born = true) : leftMs (q :: L) seen = leftMs L seen := by
  unfold leftMs; rw [List.filter_cons_of_neg (by rw [h]; simp)]
theorem leftMs_push (e : MapEntry) (m : MsgD) : ∀ (L : List (MapEntry × MsgD)) (seen : Array Nat), (L.map (·.1.born)).Nodup → (e, m) ∈ L → seen.contains e.born = false → (leftMs L seen).Perm (m :: leftMs L (seen.push e.born))
  | [], seen, _, h, _ => by cases h
  | q :: L, seen, hn, h, hs => by
    have hn' := List.nodup_cons.1 hn
    rcases List.mem_cons.1 h with h | h
    · subst h
      have hrest : leftMs L (seen.push e.born) = leftMs L seen := by
        unfold leftMs
        congr 1
        apply List.filter_congr
        intro q hq
        have hne : q.1.born ≠ e.born := fun e' => hn'.1 (List.mem_map.2 ⟨q, hq, e'⟩)
        rw [contains_push]
        simp [hne]
      rw [leftMs_yes (e, m) L seen hs, leftMs_no (e, m) L (seen.push e.born) (by rw [contains_push]; simp), hrest]
    · have ih := leftMs_push e m L seen hn'.2 h hs
      have hne : q.1.born ≠ e.born := fun e' => hn'.1 (List.mem_map.2 ⟨(e, m), h, e'.symm⟩)
      cases hx : seen.contains q.1.born
      · rw [leftMs_yes q L seen hx, leftMs_yes q L (seen.push e.born) (by rw [contains_push, hx]; simp [hne])]
        exact (ih.cons q.2).trans (List.Perm.swap _ _ _)
      · rw [leftMs_no q L seen hx, leftMs_no q L (seen.push e.born) (by rw [contains_push, hx]; rfl)]
        exact ih
theorem leftMs_done (L : List (MapEntry × MsgD)) (seen : Array Nat) (h : ∀ q ∈ L, seen.contains q.1.born = true) : leftMs L seen = [] := by
  unfold leftMs
  rw [List.filter_eq_nil_iff.2]
  · rfl
  · intro q hq; rw [h q hq]; simp
theorem sorted_any (B : Nat) (w : World) : Calls Tryz.prog 116 #[.pointer (some ⟨B, 0, none⟩)] w fun e w' =>
    e = .returned (.func (.func 142) #[] #[.pointer (some ⟨w.heap.size, 0, none⟩)]) ∧ w' = w.alloc (.cells #[.pointer (some ⟨B, 0, none⟩)] 76) := by
  go_enter Tryz.func116, Tryz.ntmps116
  go_wp2
  go_ret
  exact ⟨rfl, rfl⟩
end Go.Proofs.YtaopeioebpfdeaaGreatDoor
namespace Go.Proofs.YtaopeioebpfdeaaGreatDoor
open Go Go.RowKit Go.Shelf Go.Extern.Stop Go.Stop Go.Extern Go.Lib
attribute [local go_sem] Oper.semAt_some wide_fn wide_depth

theorem row_pmsg {W : World} {l : List MsgD} {g n cap : Nat} (h : Row W 178 3 (.slice (some ⟨g, 0, none⟩) n cap) n (l.flatMap msgCells)) (hl : l.length = n) {k : Nat} {x : MsgD} (hx : l[k]? = some x) :
    W.cell? ⟨g, 0 + k * 3, none⟩ = some (.int .i64 x.1.1) ∧ W.cell? ⟨g, 0 + k * 3 + 1, none⟩ = some (.int .u32 x.1.2) ∧ W.cell? ⟨g, 0 + k * 3 + 2, none⟩ = some (.string (bs x.2)) := by
  have hs := h.src
  rw [← hl] at hs
  exact src_msg hs hx
theorem zip_vals {es : List MapEntry} {ws : List (MId × MsgD)} (h : Bears idV es (ws.map fun q => (q.1, msgV q.2))) : (es.zip (ws.map (·.2))).map (·.1) = es ∧ (es.zip (ws.map (·.2))).map (·.2) = ws.map (·.2) ∧ ∀ e ∈ es, ∃ m, (e, m) ∈ es.zip (ws.map (·.2)) ∧ e.val = msgV m := by
  induction es generalizing ws with
  | nil =>
    have : ws = [] := by cases ws with | nil => rfl | cons x l => simp [Bears] at h
    subst this
    exact ⟨rfl, rfl, fun e he => by cases he⟩
  | cons e es ih =>
    cases ws with
    | nil => simp [Bears] at h
    | cons q ws =>
      obtain ⟨⟨h1, h2⟩, h3⟩ := Bears.cons.1 h
      obtain ⟨i1, i2, i3⟩ := ih h3
      refine ⟨by simp only [List.map_cons, List.zip_cons_cons]; rw [i1], by simp only [List.map_cons, List.zip_cons_cons]; rw [i2], fun e' he' => ?_⟩
      rcases List.mem_cons.1 he' with rfl | he'
      · exact ⟨q.2, List.mem_cons_self .., h2⟩
      · obtain ⟨m, hm, hv⟩ := i3 e' he'
        exact ⟨m, List.mem_cons_of_mem _ hm, hv⟩
theorem sortM_same {a b : List MsgD} (h : a.Perm b) (hn : (b.map (·.1)).Nodup) : sortM a = sortM b :=
  sorted_unique _ _ ((sortM_perm a).trans (h.trans (sortM_perm b).symm)) (sortM_sorted a) (sortM_sorted b) ((((sortM_perm a).trans h).map (·.1)).nodup_iff.2 hn)
set_option maxRecDepth 8000 in
set_option maxHeartbeats 2000000 in
theorem sorted_iter (cb B : Nat) (p : PoolS) (t : List Nat) (ow : Own) (hlen : p.waits.length ≤ 1000000) :
    Iter Fence.wide 2 Tryz.prog 142 #[.pointer (some ⟨cb, 0, none⟩)] (fun m : MsgD => #[msgV m])
      (fun (k : Nat) x => (sortM (p.waits.map (·.2)))[k]? = some x) (fun k _ => k + 1) (fun k => k = p.waits.length)
      (fun _ W => Blk W cb #[.pointer (some ⟨B, 0, none⟩)] 76 ∧ PoolAt B p t ow W) 0 := by
  intro lp J Jx W hJ hJx hRd hY h0
  obtain ⟨r0, hok, wb, db, hB, hv, -⟩ := hRd _ _ _ h0
  have hwl := hv.lt
  obtain ⟨es, ck, hes, hbears, hpw, hlt⟩ := hv
  have hnd : (es.toList.map (·.born)).Nodup := (List.pairwise_map.2 hpw).imp (fun h => by omega)
  obtain ⟨z1, z2, z3⟩ := zip_vals hbears
  generalize hL : es.toList.zip (p.waits.map (·.2)) = L at *
  have hLn : (L.map (·.1.born)).Nodup := by rw [show L.map (·.1.born) = (L.map (·.1)).map (·.born) by simp, z1]; exact hnd
  have hids : ((p.waits.map (·.2)).map (·.1)).Nodup := by
    have : (p.waits.map (·.2)).map (·.1) = p.waits.map (·.1) := by
      rw [List.map_map]; exact List.map_congr_left (fun q hq => hok.1 q hq)
    rw [this]; exact hok.2.1
  have hwlen : (p.waits.map (·.2)).length = p.waits.length := by simp
  generalize p.waits.map (·.2) = ws at *
  generalize p.waits.length = n at *
  have hrg := run_range_map (P := Tryz.prog) W 162 32 178 wb es ck Tryz.underlying162 hes
  unfold poolCells at hB
  have e0 := r0.cell
  have eB := hB.cell
  clear r0 hB
  replace hL : Hid (_ = _) := hL
  replace hwlen : Hid (_ = _) := hwlen
  replace hids : Hid (List.Nodup _) := hids
  replace z1 : Hid (_ = _) := z1
  replace z2 : Hid (_ = _) := z2
  replace z3 : Hid (∀ _, _) := z3
  replace hlt : Hid (∀ _, _) := hlt
  replace hes : Hid (_ = _) := hes
  have hF : Fence.wide.fn 142 := trivial
  have hro : Fence.wide.round = none := rfl
  refine callsIn_of_wp Tryz.func142 rfl hF ?_ hro
  simp only [Tryz.ntmps142, List.size_toArray, List.length_cons, List.length_nil, Nat.reduceAdd, Nat.reduceSub, Array.replicate_succ, Array.replicate_zero, List.push_toArray, List.append_toArray, List.nil_append, List.cons_append]
  gi_wp2
  clear hrg e0 eB
  gi_loopw [3] (fun p3 wr => ∃ (acc : List MsgD) (seen : Array Nat), wr.heap[W.heap.size]? = some (.mapIter (some wb) ck seen ck) ∧ Below W.heap.size W wr ∧ (acc ++ leftMs L seen).Perm ws ∧ Row wr 178 3 p3 acc.length (acc.flatMap msgCells) ∧ (∀ g, p3.ownBlock = some g → W.heap.size < g)) (fun _ wr => (leftOf es (wr.iterSeen W.heap.size)).size)
  case atStart => exact ⟨[], #[], World.alloc_heap_new _ _, (Below.refl _ _).alloc (Nat.le_refl _) _, by rw [leftMs_none, z2.out]; exact List.Perm.refl _, row_nil _ _ _, by simp [Value.ownBlock]⟩
  case round =>
    obtain ⟨acc, seen, hit, hbw, hperm, hrow, hown⟩ := hrel
    have hb : wr.heap[wb]? = some (.map es ck) := (hbw.block wb hwl).trans hes.out
    have hitl := (Array.getElem?_eq_some_iff.1 hit).1
    have law := run_next_at (P := Tryz.prog) wr 0 W.heap.size wb ck ck seen es ck hit hb hlt.out (Nat.le_refl _)
    rcases law with ⟨h0', hrun⟩ | ⟨e, he, w1, hw1, hrun⟩
    · have hnx : ∀ ty, (Instr.next (.pointer (some ⟨W.heap.size, 0, none⟩)) false ty).run Tryz.prog wr = _ := fun _ => hrun
      clear hrun
      have hall := all_seen es seen h0'
      have hlm : leftMs L seen = [] := leftMs_done L seen (fun q hq => hall q.1 (by rw [← z1.out]; exact List.mem_map.2 ⟨q, hq, rfl⟩))
      rw [hlm, List.append_nil] at hperm
      have hsame := sortM_same hperm hids.out
      have hal : acc.length = n := hperm.length_eq.trans hwlen.out
      have hanod : (acc.map (·.1)).Nodup := (hperm.map (·.1)).nodup_iff.2 hids.out
      have hsl : (sortM acc).length = n := (sortM_perm acc).length_eq.trans hal
      rw [← hsame] at hY
      subst hal
      rcases hrow.form with ⟨rfl, ha0, -⟩ | ⟨g, cap, rfl, hc1, hc2⟩
      · obtain rfl : acc = [] := List.eq_nil_of_length_eq_zero ha0
        have hJ2 : J 0 (fun _ => False) wr := hJ _ _ _ _ _ h0 (Mod.of_below _ hbw) (fun k hk => .inl hk)
        clear hrow hown
        replace hnx : Hid (∀ _, _) := hnx
        replace hnx := hnx.out
        gi_wp2_with fail
        refine (callsIn_wide.2 (sort_none _ _)).mono ?_
        rintro e w2 ⟨rfl, hw2⟩
        obtain rfl := hw2.symm
        clear hnx
        gi_wp2
        gi_loopw [25] (fun p25 ws => p25 = .int .i64 0 ∧ ws = wr) (fun _ _ => 0)
        case atStart => exact ⟨rfl, rfl⟩
        case round =>
          obtain ⟨rfl, rfl⟩ := hrel
          gi_wp2
          go_end0
          exact ⟨⟨_, rfl⟩, .inl ⟨0, _, rfl, hJ2⟩⟩
      · have hsort := sort_any g cap acc hanod (by omega) wr hrow
        have hgw := hown g rfl
        have hgl := hrow.lt (g := g) rfl
        replace hsort : Hid (Calls _ _ _ _ _) := hsort
        clear hrow hown
        gi_wp2_with fail
        refine (callsIn_wide.2 hsort.out).mono ?_
        rintro e W1 ⟨rfl, hmod, hrow1⟩
        have hbw1 : Below W.heap.size W W1 := hbw.trans (hmod.to_below (by omega) (fun k _ e => by omega))
        have hJ2 : J 0 (fun k => k = g) W1 := hJ _ _ _ _ _ h0 (Mod.of_below _ hbw1) (fun k hk => by subst hk; right; have := hmod.size; omega)
        clear hnx hsort
        replace hrow1 : Hid (Row _ _ _ _ _ _) := hrow1
        gi_wp2
        gi_loopw [25] (fun p25 ws' => ∃ (k : Nat) (X : Nat → Prop), p25 = .int .i64 k ∧ k ≤ acc.length ∧ J k X ws' ∧ X g ∧ Row ws' 178 3 (.slice (some ⟨g, 0, none⟩) acc.length cap) acc.length ((sortM acc).flatMap msgCells)) (fun p25 _ => acc.length - (intOf p25).toNat)
        case atStart => exact ⟨0, _, rfl, Nat.zero_le _, hJ2, rfl, hrow1.out⟩
        case round =>
          obtain ⟨k, X, rfl, hk, hJs, hXg, hR⟩ := hrel
          by_cases hlk : k < acc.length
          · obtain ⟨x, hx⟩ : ∃ x, (sortM acc)[k]? = some x := ⟨_, List.getElem?_eq_getElem (by omega)⟩
            obtain ⟨c0, c1, c2⟩ := row_pmsg hR hsl hx
            have hY' := hY k x _ _ (hJ.alloc (.cells (msgCells x).toArray 178) hJs) hx
            have hgs := hR.lt (g := g) rfl
            obtain ⟨⟨xi, xc⟩, xd⟩ := x
            simp only [msgCells] at c0 c1 c2 hY'
            obtain ⟨fn, tmps, assign, body, hy, hRR⟩ := hY'
            unfold msgV at hy
            simp only [Nat.zero_add] at c0 c1 c2
            replace hx : Hid (_ = _) := hx
            replace hR : Hid (Row _ _ _ _ _ _) := hR
            gi_wp2
            refine hRR.mono ?_
            rintro e W' (⟨rfl, hJ', hsv⟩ | ⟨rfl, hx'⟩)
            · clear c0 c1 c2 hRR hy
              have hRW : Row W' 178 3 (.slice (some ⟨g, 0, none⟩) acc.length cap) acc.length ((sortM acc).flatMap msgCells) := hR.out.kept (fun g' hg' => by
                cases hg'
                exact (hsv.2 g (.inl hXg) (by simp; omega)).trans (Below.heap_alloc _ _ _ hgs))
              gi_wp2
              go_roundw
              case rel => exact ⟨k + 1, _, by go_num, by omega, hJ', .inl hXg, hRW⟩
              case measure => simp [intOf]; omega
            · gi_wp2
              refine bodyPost_ret (results_none rfl _ _ _) rfl ?_
              exact ⟨⟨_, rfl⟩, .inr ⟨_, hx'⟩⟩
          · obtain hkn : k = acc.length := by omega
            replace hkn : Hid (_ = _) := hkn
            obtain rfl := hkn.out
            replace hR : Hid (Row _ _ _ _ _ _) := hR
            gi_wp2
            go_end0
            first | exact ⟨⟨_, rfl⟩, .inl ⟨_, X, rfl, hJs⟩⟩ | exact ⟨⟨_, rfl⟩, .inl ⟨X, hJs⟩⟩
    · obtain ⟨hem, hes'⟩ := mem_left he
      obtain ⟨m, hmL, hval⟩ := z3.out e hem
      have hpush := leftMs_push e m L seen hLn hmL hes'
      have hshr := left_shrinks es seen e he
      obtain ⟨W2, hW2⟩ : ∃ W2, W2 = ChangeMaps.setBlock w1 W.heap.size (.mapIter (some wb) ck (seen.push e.born) ck) := ⟨_, rfl⟩
      have hw1b : Below wr.heap.size wr w1 := by rcases hw1 with rfl | rfl; exact Below.refl _ _; exact pb_drew (Below.refl _ _)
      have hw1s : w1.heap.size = wr.heap.size := by rcases hw1 with rfl | rfl <;> rfl
      have hm2 : Mod (fun k => k = W.heap.size) wr W2 := by rw [hW2]; exact (Mod.of_below (fun k => k = W.heap.size) hw1b).thenPut rfl _
      have hit2 : W2.heap[W.heap.size]? = some (.mapIter (some wb) ck (seen.push e.born) ck) := by rw [hW2]; exact World.putObj_heap_same (w := w1) (by omega)
      have hs2 : W2.heap.size = wr.heap.size := by rw [hW2]; show (w1.heap.setIfInBounds _ _).size = _; simp [hw1s]
      rw [← hW2, hval] at hrun
      clear hW2 hw1b hw1s hw1
      have hnx : ∀ ty, (Instr.next (.pointer (some ⟨W.heap.size, 0, none⟩)) false ty).run Tryz.prog wr = _ := fun _ => hrun
      clear hrun
      have hb2 : W2.heap[wb]? = some (.map es ck) := (hm2.block wb (by have := hbw.size; omega) (by omega)).trans hb
      have hen := run_entry_at (P := Tryz.prog) W2 W.heap.size wb ck seen es ck e hit2 hb2 hem hnd
      rw [hval] at hen
      have hrow2 := hrow.mod hm2 (fun g hg e => by have := hown g hg; omega)
      have hbw2 : Below W.heap.size W W2 := hbw.trans (hm2.to_below hbw.size (fun k _ e => by omega))
      have hal : acc.length + 1 ≤ n := by
        have h5 := hperm.length_eq
        have h6 := hpush.length_eq
        rw [List.length_append, h6, List.length_cons, hwlen.out] at h5
        omega
      have hper2 : ((acc ++ [m]) ++ leftMs L (seen.push e.born)).Perm ws := by
        refine List.Perm.trans ?_ hperm
        rw [List.append_assoc]
        exact (hpush.symm).append_left acc
      have hmes : (leftOf es (seen.push e.born)).size < (leftOf es (wr.iterSeen W.heap.size)).size := by
        have : wr.iterSeen W.heap.size = seen := by unfold World.iterSeen; rw [hit]
        rw [this]; exact hshr
      obtain ⟨⟨mi, mc⟩, md⟩ := m
      obtain ⟨va, vn, vc, rfl⟩ := hrow.shape
      have hz1 : (W2.alloc (.cells #[.int .i64 mi, .int .u32 mc, .string (bs md)] 178)).heap.size = W2.heap.size + 1 := by simp
      obtain ⟨v', W4, hrun, hrow4, hgr, hown4⟩ := row_append pendT ((hrow2.below ((Below.refl _ _).alloc (Nat.le_refl _) (.cells #[.int .i64 mi, .int .u32 mc, .string (bs md)] 178))).below ((Below.refl _ _).alloc (Nat.le_refl _) (.cells #[.int .i64 mi, .int .u32 mc, .string (bs md)] 178))) (src_blk (n := 1) (size := 3) (cap := 1) (Blk.new (w := W2.alloc (.cells #[.int .i64 mi, .int .u32 mc, .string (bs md)] 178)) (cs := #[.int .i64 mi, .int .u32 mc, .string (bs md)]) (t := 178) rfl) rfl (Nat.le_refl 1)) (msgCells_one [((mi, mc), md)]) (by omega) 229
      rw [hz1] at hrun
      obtain ⟨sa, sm, sc, rfl⟩ := hrow4.shape
      unfold msgV at hnx hen
      replace hrow : Hid (Row _ _ _ _ _ _) := hrow
      replace hrow2 : Hid (Row _ _ _ _ _ _) := hrow2
      replace hrow4 : Hid (Row _ _ _ _ _ _) := hrow4
      replace hown : Hid (∀ _, _) := hown
      replace hown4 : Hid (_ ∨ _) := hown4
      replace hper2 : Hid (List.Perm _ _) := hper2
      replace hpush : Hid (List.Perm _ _) := hpush
      replace hperm : Hid (List.Perm _ _) := hperm
      replace hmes : Hid (_ < _) := hmes
      replace hs2 : Hid (_ = _) := hs2
      replace hrun : Hid (_ = _) := hrun
      replace hval : Hid (_ = _) := hval
      gi_wp2_with (gi_at_builtin
                   refine wpListIn_append_by rfl _ _ _ rfl rfl rfl hrun.out ?_)
      have hit4 : W4.heap[W.heap.size]? = some (.mapIter (some wb) ck (seen.push e.born) ck) :=
        (hgr.block _ (by simp; have := hs2.out; omega) (fun e => by have := hown.out _ e.symm; omega)).trans ((Below.heap_alloc _ _ _ (by simp; have := hs2.out; omega)).trans ((Below.heap_alloc _ _ _ (by have := hs2.out; omega)).trans hit2))
      go_roundw
      case rel =>
        refine ⟨acc ++ [((mi, mc), md)], seen.push e.born, hit4, ?_, hper2.out, ?_, fun g hg => ?_⟩
        · exact (((hbw2.alloc hbw2.size _).alloc (by simp; have := hbw2.size; omega) _)).grown hgr (by simp; have := hbw2.size; omega) (fun j hj => by have := hown.out j hj; omega)
        · rw [List.length_append, List.length_singleton, List.flatMap_append]; exact hrow4.out
        · have h5 := hown4.out
          rw [hg] at h5
          rcases h5 with h | h
          · exact hown.out g h.symm
          · simp at h; have := hbw2.size; omega
      case measure =>
        have : W4.iterSeen W.heap.size = seen.push e.born := by unfold World.iterSeen; rw [hit4]
        rw [this]; exact hmes.out
end Go.Proofs.YtaopeioebpfdeaaGreatDoor
