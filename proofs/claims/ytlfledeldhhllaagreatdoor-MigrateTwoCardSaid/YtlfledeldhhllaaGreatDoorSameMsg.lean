/- WALK: the document's Same at rostrum/api.Msg. Condition: both slices can be read. -/
import Derived.Test.YtlfledeldhhllaaGreatDoorSame0
import Derived.Test.YtlfledeldhhllaaGreatDoorEp1
namespace Go.Proofs.YtlfledeldhhllaaGreatDoor
open Go Go.RowKit Go.Shelf Go.Extern.Stop Go.Stop Go.Extern
attribute [local go_sem] Oper.semAt_some wide_fn wide_depth

theorem take_eqMsg {la lb : List MsgD} {k : Nat} {x y : MsgD} (h : la.take k = lb.take k) (hx : la[k]? = some x) (hy : lb[k]? = some y) (he : x = y) : la.take (k + 1) = lb.take (k + 1) := by
  rw [List.take_add_one, List.take_add_one, h, hx, hy, he]

set_option maxRecDepth 8000 in
set_option maxHeartbeats 1000000 in
theorem sameMsg_any (va vb : Value) (la lb : List MsgD) (w : World) (ha : Src w va 3 la.length (la.flatMap msgCells)) (hb : Src w vb 3 lb.length (lb.flatMap msgCells)) (hl : la.length ≤ 9223372036854775807) (hl2 : lb.length ≤ 9223372036854775807) :
    Calls Tryz.prog 12 #[va, vb] w fun e w' => e = .returned (.bool (decide (la = lb))) ∧ Below w.heap.size w w' := by
  obtain ⟨aa, ca, rfl⟩ := ha.shape
  obtain ⟨ab, cb, rfl⟩ := hb.shape
  by_cases hlen : la.length = lb.length
  · have t0 : ((la.length : Int) != (lb.length : Int)) = false := by simp; omega
    rw [hlen] at ha ⊢
    go_enter Tryz.func12, Tryz.ntmps12
    go_wp2
    go_loopw [5] (fun p5 wr => ∃ k : Nat, p5 = .int .i64 k ∧ k ≤ lb.length ∧ la.take k = lb.take k ∧ Below w.heap.size w wr) (fun p5 _ => lb.length - (intOf p5).toNat)
    case atStart => exact ⟨0, rfl, Nat.zero_le _, rfl, Below.refl _ _⟩
    case round =>
      obtain ⟨k, rfl, hk, htk, hbw⟩ := hrel
      by_cases hlt : k < lb.length
      · obtain ⟨x, hx⟩ : ∃ x, la[k]? = some x := ⟨_, List.getElem?_eq_getElem (by omega)⟩
        obtain ⟨y, hy⟩ : ∃ y, lb[k]? = some y := ⟨_, List.getElem?_eq_getElem hlt⟩
        rcases (ha.below hbw).2 with ⟨h, h'⟩ | ⟨ma, oa, ca', h, _, hra⟩
        · omega
        cases h
        rcases (hb.below hbw).2 with ⟨h, h'⟩ | ⟨mb, ob, cb', h, _, hrb⟩
        · omega
        cases h
        have hca : ∀ j, j < 3 → wr.cell? ⟨ma, oa + (k * 3 + j), none⟩ = (msgCells x)[j]? := fun j hj => by
          have h1 := flatMsg_at la k x hx j hj
          cases hu : (msgCells x)[j]? with
          | none => simp [msgCells] at hu; omega
          | some u => exact hra _ u (h1.trans hu)
        have hcb : ∀ j, j < 3 → wr.cell? ⟨mb, ob + (k * 3 + j), none⟩ = (msgCells y)[j]? := fun j hj => by
          have h1 := flatMsg_at lb k y hy j hj
          cases hu : (msgCells y)[j]? with
          | none => simp [msgCells] at hu; omega
          | some u => exact hrb _ u (h1.trans hu)
        have a0 : wr.cell? ⟨ma, oa + k * 3, none⟩ = (msgCells x)[0]? := hca 0 (by omega)
        have a1 : wr.cell? ⟨ma, oa + k * 3 + 1, none⟩ = (msgCells x)[1]? := hca 1 (by omega)
        have a2 : wr.cell? ⟨ma, oa + k * 3 + 2, none⟩ = (msgCells x)[2]? := hca 2 (by omega)
        have b0 : wr.cell? ⟨mb, ob + k * 3, none⟩ = (msgCells y)[0]? := hcb 0 (by omega)
        have b1 : wr.cell? ⟨mb, ob + k * 3 + 1, none⟩ = (msgCells y)[1]? := hcb 1 (by omega)
        have b2 : wr.cell? ⟨mb, ob + k * 3 + 2, none⟩ = (msgCells y)[2]? := hcb 2 (by omega)
        have hq := msg_neq x y
        obtain ⟨q, hqd⟩ : ∃ q, decide (x ≠ y) = q := ⟨_, rfl⟩
        rw [hqd] at hq
        replace htk : Hid (_ = _) := htk
        obtain ⟨x0, hxx⟩ : ∃ x', x' = x := ⟨_, rfl⟩
        obtain ⟨y0, hyy⟩ : ∃ y', y' = y := ⟨_, rfl⟩
        rw [← hxx] at hx hqd
        rw [← hyy] at hy hqd
        replace hqd : Hid (_ = _) := hqd
        replace hxx : Hid (_ = _) := hxx
        replace hyy : Hid (_ = _) := hyy
        obtain ⟨⟨i, c⟩, d⟩ := x
        obtain ⟨⟨i', c'⟩, d'⟩ := y
        simp only [msgCells, List.getElem?_cons_zero, List.getElem?_cons_succ] at a0 a1 a2 b0 b1 b2
        unfold msgV at hq
        simp only at hq
        clear hca hcb hra hrb
        replace hx : Hid (_ = _) := hx
        replace hy : Hid (_ = _) := hy
        have hlti : (k : Int) < (lb.length : Int) := by omega
        have hk0 : (0 : Int) ≤ (k : Int) := by omega
        go_wp2
        go_quiet (fail)
        cases q
        · have hxy0 : x0 = y0 := by have := hqd.out; simpa using this
          have hxy : Hid (_ = _) := hxy0
          clear hxy0
          go_wp2
          go_roundw
          case rel => exact ⟨k + 1, by go_num, by omega, take_eqMsg htk.out hx.out hy.out hxy.out, below_drewN hbw _⟩
          case measure => simp [intOf]; omega
        · have hxy : x0 ≠ y0 := by have := hqd.out; simpa using this
          have hd : decide (la = lb) = false := by
            simp only [decide_eq_false_iff_not]
            intro h
            have h1 := hx.out
            rw [h, hy.out] at h1
            exact hxy (Option.some.inj h1).symm
          replace hd : Hid (_ = _) := hd
          clear hxy
          go_wp2
          go_ret
          exact ⟨by rw [hd.out]; rfl, below_drewN hbw _⟩
      · obtain rfl : k = lb.length := by omega
        have hd : decide (la = lb) = true := by
          rw [← hlen, List.take_length, hlen, List.take_length] at htk
          simpa using htk
        clear ha hb
        replace htk : Hid (_ = _) := htk
        replace hd : Hid (_ = _) := hd
        replace hlen : Hid (_ = _) := hlen
        go_wp2
        go_ret
        exact ⟨by rw [hd.out]; rfl, hbw⟩
  · have t0 : ((la.length : Int) != (lb.length : Int)) = true := by simp; omega
    have hne : la ≠ lb := fun h => hlen (by rw [h])
    have hd : decide (la = lb) = false := by simpa using hne
    rw [hd]
    clear ha hb hlen hne hd
    go_enter Tryz.func12, Tryz.ntmps12
    go_wp2
    go_ret
    exact ⟨rfl, Below.refl _ _⟩
end Go.Proofs.YtlfledeldhhllaaGreatDoor
