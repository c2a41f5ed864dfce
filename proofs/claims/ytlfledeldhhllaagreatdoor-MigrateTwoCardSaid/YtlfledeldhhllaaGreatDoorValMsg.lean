/- slices.Values at rostrum/api.Msg: its contract, and its iterator. Condition: the slice can be read. -/
import Derived.Test.YtlfledeldhhllaaGreatDoorIds1
import Derived.Test.YtlfledeldhhllaaGreatDoorSched
namespace Go.Proofs.YtlfledeldhhllaaGreatDoor
open Go Go.RowKit Go.Shelf Go.Extern.Stop Go.Stop Go.Extern
attribute [local go_sem] Oper.semAt_some wide_fn wide_depth

theorem valMsg_any (v : Value) (hv : ∃ a n c, v = .slice a n c) (w : World) : Calls Tryz.prog 51 #[v] w fun e w' =>
    e = .returned (.func (.func 72) #[] #[.pointer (some ⟨w.heap.size, 0, none⟩)]) ∧ w' = w.alloc (.cells #[v] 22) := by
  obtain ⟨a, n, c, rfl⟩ := hv
  go_enter Tryz.func51, Tryz.ntmps51
  go_wp2
  go_ret
  exact ⟨rfl, rfl⟩

theorem flatMsg_at (l : List MsgD) (k : Nat) (x : MsgD) (h : l[k]? = some x) (j : Nat) (hj : j < 3) : (l.flatMap msgCells)[k * 3 + j]? = (msgCells x)[j]? := by
  induction l generalizing k with
  | nil => simp at h
  | cons y l ih =>
    cases k with
    | zero =>
      simp at h; subst h
      rw [List.flatMap_cons, Nat.zero_mul, Nat.zero_add, List.getElem?_append_left (by simp [msgCells]; omega)]
    | succ k =>
      simp at h
      have := ih k h
      rw [List.flatMap_cons, List.getElem?_append_right (by simp [msgCells]; omega)]
      rw [← this]
      congr 1
      simp [msgCells]; omega

set_option maxHeartbeats 1000000 in
theorem valMsg_iter (cb : Nat) (v : Value) (l : List MsgD) (hlen : l.length ≤ 1073741824) :
    Iter Fence.wide 2 Tryz.prog 72 #[.pointer (some ⟨cb, 0, none⟩)] (fun x : MsgD => #[msgV x])
      (fun (k : Nat) x => l[k]? = some x) (fun k _ => k + 1) (fun k => k = l.length)
      (fun _ W => Blk W cb #[v] 22 ∧ Src W v 3 l.length (l.flatMap msgCells)) 0 := by
  intro lp J Jx W hJ hJx hRd hY h0
  obtain ⟨r0, r1⟩ := hRd _ _ _ h0
  have e0 := r0.cell
  have hF : Fence.wide.fn 72 := trivial
  have hro : Fence.wide.round = none := rfl
  rcases r1.2 with ⟨rfl, hn⟩ | ⟨b, off, cap, rfl, hc, -⟩
  · obtain rfl : l = [] := List.eq_nil_of_length_eq_zero hn
    clear r0 r1
    refine callsIn_of_wp Tryz.func72 rfl hF ?_ hro
    simp only [Tryz.ntmps72, List.size_toArray, List.length_cons, List.length_nil, Nat.reduceAdd, Nat.reduceSub, Array.replicate_succ, Array.replicate_zero, List.push_toArray, List.append_toArray, List.nil_append, List.cons_append]
    gi_wp2
    gi_loopw [7] (fun p wr => p = .int .i64 0 ∧ wr = W) (fun p _ => 0)
    case atStart => exact ⟨rfl, rfl⟩
    case round =>
      obtain ⟨rfl, rfl⟩ := hrel
      gi_wp2
      go_end0
      exact ⟨⟨_, rfl⟩, .inl ⟨0, _, rfl, h0⟩⟩
  · clear r0 r1
    refine callsIn_of_wp Tryz.func72 rfl hF ?_ hro
    simp only [Tryz.ntmps72, List.size_toArray, List.length_cons, List.length_nil, Nat.reduceAdd, Nat.reduceSub, Array.replicate_succ, Array.replicate_zero, List.push_toArray, List.append_toArray, List.nil_append, List.cons_append]
    gi_wp2
    gi_loopw [7] (fun p wr => ∃ (k : Nat) (X : Nat → Prop), p = .int .i64 (k : Int) ∧ k ≤ l.length ∧ J k X wr) (fun p _ => l.length - (intOf p).toNat)
    case atStart => exact ⟨0, _, rfl, Nat.zero_le _, h0⟩
    case round =>
      obtain ⟨k, X, rfl, hk, hJs⟩ := hrel
      clear e0
      by_cases hlt : k < l.length
      · obtain ⟨x, hx⟩ : ∃ x, l[k]? = some x := ⟨_, List.getElem?_eq_getElem hlt⟩
        obtain ⟨-, r1⟩ := hRd _ _ _ hJs
        rcases r1.2 with ⟨h, -⟩ | ⟨b', off', cap', h, -, hr⟩
        · cases h
        · cases h
          have hcell : ∀ j, j < 3 → wr.cell? ⟨b, off + (k * 3 + j), none⟩ = (msgCells x)[j]? := fun j hj => by
            have h1 := flatMsg_at l k x hx j hj
            cases hu : (msgCells x)[j]? with
            | none => simp [msgCells] at hu; omega
            | some u => exact hr _ u (h1.trans hu)
          have c0 : wr.cell? ⟨b, off + k * 3, none⟩ = (msgCells x)[0]? := hcell 0 (by omega)
          have c1 : wr.cell? ⟨b, off + k * 3 + 1, none⟩ = (msgCells x)[1]? := hcell 1 (by omega)
          have c2 : wr.cell? ⟨b, off + k * 3 + 2, none⟩ = (msgCells x)[2]? := hcell 2 (by omega)
          have hY' := hY k x _ _ (hJ.alloc (.cells (msgCells x).toArray 54) hJs) hx
          obtain ⟨⟨i, c⟩, d⟩ := x
          simp only [msgCells] at c0 c1 c2 hY'
          simp only [List.getElem?_cons_zero, List.getElem?_cons_succ] at c0 c1 c2
          clear hcell hr r1
          obtain ⟨fn, tmps, assign, body, hy, hR⟩ := hY'
          unfold msgV at hy
          gi_wp2
          refine hR.mono ?_
          rintro e W' (⟨rfl, hJ', -⟩ | ⟨rfl, hx'⟩)
          · clear c0 c1 c2 hR hy
            gi_wp2
            go_roundw
            case rel => exact ⟨k + 1, _, by go_num, by omega, hJ'⟩
            case measure => simp [intOf]; omega
          · gi_wp2
            refine bodyPost_ret (results_none rfl _ _ _) rfl ?_
            exact ⟨⟨_, rfl⟩, .inr ⟨_, hx'⟩⟩
      · obtain rfl : k = l.length := by omega
        gi_wp2
        go_end0
        exact ⟨⟨_, rfl⟩, .inl ⟨l.length, X, rfl, hJs⟩⟩
end Go.Proofs.YtlfledeldhhllaaGreatDoor
