/- WALKS of epoch: shaped, small, joined, Encode, Right. Condition: the entry's messages can be read. -/
import Derived.Test.YtlfledeldhhllaaGreatDoorIds4
import Derived.Test.YtlfledeldhhllaaGreatDoorShelf
namespace Go.Proofs.YtlfledeldhhllaaGreatDoor
open Go Go.RowKit Go.Shelf Go.Extern.Stop Go.Stop Go.Extern Go.Lib
attribute [local go_sem] Oper.semAt_some wide_fn wide_depth

/-- An entry's value; its messages. -/
def entV (e : EntryD) (mv : Value) : Value := .agg #[.int .i64 e.kind, .int .u32 e.epoch, .int .i64 e.ver, mv]
abbrev MsgsAt (w : World) (mv : Value) (l : List MsgD) : Prop := Src w mv 3 l.length (l.flatMap msgCells)
theorem Src.shape {w : World} {v : Value} {size n : Nat} {xs : List Value} (h : Src w v size n xs) : ∃ a c, v = .slice a n c := by
  rcases h.2 with ⟨rfl, rfl⟩ | ⟨b, off, cap, rfl, -⟩
  · exact ⟨_, _, rfl⟩
  · exact ⟨_, _, rfl⟩

set_option maxHeartbeats 1000000 in
theorem shaped_any (e : EntryD) (mv : Value) (w : World) (hm : MsgsAt w mv e.msgs) : Calls Tryz.prog 65 #[entV e mv] w fun r w' => r = .returned (.bool (shapedP e)) ∧ Below w.heap.size w w' := by
  obtain ⟨kind, epoch, ver, msgs⟩ := e
  obtain ⟨a, c, rfl⟩ := hm.shape
  clear hm
  obtain ⟨R, hR⟩ : ∃ R, shapedP ⟨kind, epoch, ver, msgs⟩ = R := ⟨_, rfl⟩
  rw [hR]
  unfold shapedP at hR
  unfold entV
  simp only at hR ⊢
  by_cases h1 : kind = 1
  · rw [if_pos h1] at hR
    subst h1
    subst hR
    have t1 : (ver == 0) = decide (ver = 0) := rfl
    go_enter Tryz.func65, Tryz.ntmps65
    go_wp2
    go_ret
    exact ⟨by rw [← t1]; rfl, by (repeat (first | exact Below.refl _ _ | with_reducible assumption | refine pb_alloc ?_ _ | refine pb_drew ?_ | refine pb_drewN ?_ _ | refine pb_set ?_ (by simp; try omega) _ | refine pb_trans ?_ (by with_reducible assumption)))⟩
  · have t1 : (kind == 1) = false := by simpa using h1
    rw [if_neg h1] at hR
    by_cases h2 : kind = 2
    · rw [if_pos h2] at hR
      subst h2
      by_cases hl : msgs.length = 0
      · have t2 : ((msgs.length : Int) == 0) = true := by rw [hl]; rfl
        by_cases hv0 : 0 ≤ ver
        · have t3 : decide (0 ≤ ver) = true := by simpa using hv0
          by_cases hv1 : ver ≤ 255
          · have t4 : decide (ver ≤ 255) = true := by simpa using hv1
            have hr : R = true := by rw [← hR]; simp [hl, hv0, hv1]
            subst hr
            clear hR hl hv0 hv1 h1 t1
            go_enter Tryz.func65, Tryz.ntmps65
            go_wp2
            go_ret
            exact ⟨rfl, by (repeat (first | exact Below.refl _ _ | with_reducible assumption | refine pb_alloc ?_ _ | refine pb_drew ?_ | refine pb_drewN ?_ _ | refine pb_set ?_ (by simp; try omega) _ | refine pb_trans ?_ (by with_reducible assumption)))⟩
          · have t4 : decide (ver ≤ 255) = false := by simpa using hv1
            have hr : R = false := by rw [← hR]; simp [hv1]
            subst hr
            clear hR hl hv0 hv1 h1 t1
            go_enter Tryz.func65, Tryz.ntmps65
            go_wp2
            go_ret
            exact ⟨rfl, by (repeat (first | exact Below.refl _ _ | with_reducible assumption | refine pb_alloc ?_ _ | refine pb_drew ?_ | refine pb_drewN ?_ _ | refine pb_set ?_ (by simp; try omega) _ | refine pb_trans ?_ (by with_reducible assumption)))⟩
        · have t3 : decide (0 ≤ ver) = false := by simpa using hv0
          have hr : R = false := by rw [← hR]; simp [hv0]
          subst hr
          clear hR hl hv0 h1 t1
          go_enter Tryz.func65, Tryz.ntmps65
          go_wp2
          go_ret
          exact ⟨rfl, by (repeat (first | exact Below.refl _ _ | with_reducible assumption | refine pb_alloc ?_ _ | refine pb_drew ?_ | refine pb_drewN ?_ _ | refine pb_set ?_ (by simp; try omega) _ | refine pb_trans ?_ (by with_reducible assumption)))⟩
      · have t2 : ((msgs.length : Int) == 0) = false := by simp; intro h; exact hl (by simp [h])
        have hr : R = false := by rw [← hR]; simp [hl]
        subst hr
        clear hR hl h1 t1
        go_enter Tryz.func65, Tryz.ntmps65
        go_wp2
        go_ret
        exact ⟨rfl, by (repeat (first | exact Below.refl _ _ | with_reducible assumption | refine pb_alloc ?_ _ | refine pb_drew ?_ | refine pb_drewN ?_ _ | refine pb_set ?_ (by simp; try omega) _ | refine pb_trans ?_ (by with_reducible assumption)))⟩
    · have t2 : (kind == 2) = false := by simpa using h2
      rw [if_neg h2] at hR
      by_cases h3 : kind = 3
      · rw [if_pos h3] at hR
        subst h3
        by_cases hl : msgs.length = 0
        · have t3 : ((msgs.length : Int) == 0) = true := by rw [hl]; rfl
          have hr : R = (ver == 0) := by rw [← hR]; simp [hl]; rfl
          subst hr
          clear hR hl h1 h2 t1 t2
          go_enter Tryz.func65, Tryz.ntmps65
          go_wp2
          go_ret
          exact ⟨rfl, by (repeat (first | exact Below.refl _ _ | with_reducible assumption | refine pb_alloc ?_ _ | refine pb_drew ?_ | refine pb_drewN ?_ _ | refine pb_set ?_ (by simp; try omega) _ | refine pb_trans ?_ (by with_reducible assumption)))⟩
        · have t3 : ((msgs.length : Int) == 0) = false := by simp; intro h; exact hl (by simp [h])
          have hr : R = false := by rw [← hR]; simp [hl]
          subst hr
          clear hR hl h1 h2 t1 t2
          go_enter Tryz.func65, Tryz.ntmps65
          go_wp2
          go_ret
          exact ⟨rfl, by (repeat (first | exact Below.refl _ _ | with_reducible assumption | refine pb_alloc ?_ _ | refine pb_drew ?_ | refine pb_drewN ?_ _ | refine pb_set ?_ (by simp; try omega) _ | refine pb_trans ?_ (by with_reducible assumption)))⟩
      · have t3 : (kind == 3) = false := by simpa using h3
        rw [if_neg h3] at hR
        subst hR
        clear h1 h2 h3
        go_enter Tryz.func65, Tryz.ntmps65
        go_wp2
        go_ret
        exact ⟨rfl, by (repeat (first | exact Below.refl _ _ | with_reducible assumption | refine pb_alloc ?_ _ | refine pb_drew ?_ | refine pb_drewN ?_ _ | refine pb_set ?_ (by simp; try omega) _ | refine pb_trans ?_ (by with_reducible assumption)))⟩

set_option maxRecDepth 8000 in
theorem small_any (n : Int) (w : World) : Calls Tryz.prog 68 #[.int .i64 n] w fun r w' => r = .returned (.string (bs [UInt8.ofNat (n % 256).toNat])) ∧ Below w.heap.size w w' := by
  have hcv := run_convert_bytes_arg (P := Tryz.prog) (w.alloc (.cells #[.int .u8 (n % 256)] 5)) 150 5 Tryz.underlying150 Tryz.underlying5 w.heap.size 0 1 1 [n % 256] rfl (fun i hi => by obtain rfl : i = 0 := (by omega); simp) 9 Tryz.underlying9
  have hs : strOfNums [n % 256] = bs [UInt8.ofNat (n % 256).toNat] := by
    unfold strOfNums bs; simp
  rw [hs] at hcv
  clear hs
  go_enter Tryz.func68, Tryz.ntmps68
  go_wp2
  go_ret
  exact ⟨rfl, by (repeat (first | exact Below.refl _ _ | with_reducible assumption | refine pb_alloc ?_ _ | refine pb_drew ?_ | refine pb_drewN ?_ _ | refine pb_set ?_ (by simp; try omega) _ | refine pb_trans ?_ (by with_reducible assumption)))⟩
theorem join4 (a b c d : List UInt8) : Lib.join [a, b, c, d] [] = a ++ b ++ c ++ d := by simp [Lib.join, List.intercalate]
/-- epoch.joined over four texts that lie in one block. -/
theorem joined4_any (bk : Nat) (x y z u : List UInt8) (w : World) (hk : Blk w bk #[.string (bs x), .string (bs y), .string (bs z), .string (bs u)] 9) (hl : (x ++ y ++ z ++ u).length ≤ 140737488355328) :
    Calls Tryz.prog 67 #[.slice (some ⟨bk, 0, none⟩) 4 4] w fun e w' => e = .returned (.string (bs (x ++ y ++ z ++ u))) ∧ Below w.heap.size w w' := by
  have hj := Tryz.strings_Join bk 0 4 [bs x, bs y, bs z, bs u] ⟨#[]⟩ w (fun j t hz => by
    have hc := hk.cell j
    rw [Nat.zero_add, hc]
    obtain rfl | rfl | rfl | rfl | h : j = 0 ∨ j = 1 ∨ j = 2 ∨ j = 3 ∨ 4 ≤ j := by omega
    · simp at hz; subst hz; rfl
    · simp at hz; subst hz; rfl
    · simp at hz; subst hz; rfl
    · simp at hz; subst hz; rfl
    · rw [List.getElem?_eq_none (by simpa using h)] at hz; cases hz) hk.lt (by simp) (by simp) (by
      simp only [List.map_cons, List.map_nil, bs_data]
      rw [join4]; omega)
  simp only [List.map_cons, List.map_nil, bs_data] at hj
  rw [join4] at hj
  replace hj : Hid (Calls _ _ _ _ _) := hj
  clear hk hl
  go_enter Tryz.func67, Tryz.ntmps67
  go_wp2_with (go_at_call 73; refine hj.out.mono ?_; rintro e w' ⟨rfl, hb⟩)
  go_ret
  exact ⟨by simp [bs], hb⟩

theorem packP_len (l : List MsgD) : (packP l).1.length ≤ 65000 := by
  unfold packP
  split
  · simp
  · split
    · rename_i h1 h2
      have := msgBytes_len l (List.all_eq_true.1 h2)
      simp only [List.length_append, List.length_singleton]
      omega
    · simp
/-- The bytes ahead of what is packed. -/
def encB (e : EntryD) : List UInt8 := [UInt8.ofNat (e.kind % 256).toNat] ++ le4 e.epoch ++ [UInt8.ofNat (e.ver % 256).toNat] ++ (packP e.msgs).1
set_option maxRecDepth 8000 in
set_option maxHeartbeats 1000000 in
theorem encode_any (e : EntryD) (mv : Value) (w : World) (hm : MsgsAt w mv e.msgs) (hl : e.msgs.length ≤ 1073741824) : Calls Tryz.prog 46 #[entV e mv] w fun r w' =>
    r = .returned (.tuple #[.string (bs (encodeP e).1), .int .i64 (encodeP e).2]) ∧ Below w.heap.size w w' := by
  obtain ⟨R, hR⟩ : ∃ R, encodeP e = R := ⟨_, rfl⟩
  rw [hR]
  unfold encodeP at hR
  have hsh := shaped_any e mv
  have hpk := pack_any mv e.msgs
  unfold entV at hsh ⊢
  replace hsh : Hid (∀ _, _) := hsh
  replace hpk : Hid (∀ _, _) := hpk
  replace hm : Hid (Src _ _ _ _ _) := hm
  cases h1 : shapedP e
  · rw [if_pos h1] at hR
    subst hR
    go_enter Tryz.func46, Tryz.ntmps46
    go_wp2_with (go_at_call 65; refine (hsh.out _ (hm.out.below (by (repeat (first | exact Below.refl _ _ | with_reducible assumption | refine pb_alloc ?_ _ | refine pb_drew ?_ | refine pb_drewN ?_ _ | refine pb_set ?_ (by simp; try omega) _ | refine pb_trans ?_ (by with_reducible assumption)))))).mono ?_; rintro r w1 ⟨rfl, hb1⟩; rw [h1])
    go_ret2
    exact ⟨rfl, by (repeat (first | exact Below.refl _ _ | with_reducible assumption | refine pb_alloc ?_ _ | refine pb_drew ?_ | refine pb_drewN ?_ _ | refine pb_set ?_ (by simp; try omega) _ | refine pb_trans ?_ (by with_reducible assumption)))⟩
  · rw [if_neg (by simp [h1])] at hR
    by_cases hp0 : (packP e.msgs).2 = 0
    · rw [if_neg (by simpa using hp0)] at hR
      have t2 : ((packP e.msgs).2 != 0) = false := by simpa using hp0
      clear hp0
      go_enter Tryz.func46, Tryz.ntmps46
      go_wp2_with (first
        | (go_at_call 65; refine (hsh.out _ (hm.out.below (by (repeat (first | exact Below.refl _ _ | with_reducible assumption | refine pb_alloc ?_ _ | refine pb_drew ?_ | refine pb_drewN ?_ _ | refine pb_set ?_ (by simp; try omega) _ | refine pb_trans ?_ (by with_reducible assumption)))))).mono ?_; rintro r w1 ⟨rfl, hb1⟩; rw [h1]
           have kb : Blk w1 w.heap.size #[.int .i64 e.kind, .int .u32 e.epoch, .int .i64 e.ver, mv] 32 := Blk.call (by (repeat (first | with_reducible assumption | (refine Blk.new ?_; simp; done) | refine Blk.alloc ?_ _ | refine Blk.drew ?_ | refine Blk.drewN ?_ _ | refine Blk.call ?_ (by with_reducible assumption)))) hb1
           have ke := kb.cell)
        | (go_at_call 66; refine (hpk.out _ (hm.out.below (by (repeat (first | exact Below.refl _ _ | with_reducible assumption | refine pb_alloc ?_ _ | refine pb_drew ?_ | refine pb_drewN ?_ _ | refine pb_set ?_ (by simp; try omega) _ | refine pb_trans ?_ (by with_reducible assumption))))) hl).mono ?_; rintro r w2 ⟨rfl, hb2⟩))
      have k2 := (kb.call hb2).drew
      have hbw : Below w.heap.size w w2.drew := by (repeat (first | exact Below.refl _ _ | with_reducible assumption | refine pb_alloc ?_ _ | refine pb_drew ?_ | refine pb_drewN ?_ _ | refine pb_set ?_ (by simp; try omega) _ | refine pb_trans ?_ (by with_reducible assumption)))
      clear ke t2 kb
      generalize hpp : (packP e.msgs).1 = pp at *
      replace hpp : Hid (_ = _) := hpp
      refine wp_region_sched [(0, true), (1, true), (3, true), (4, true), (6, true), (7, true), (9, true), (2, false), (5, false), (8, false), (10, false), (11, false), (12, true)] none (fun w' => Blk w' w.heap.size #[.int .i64 e.kind, .int .u32 e.epoch, .int .i64 e.ver, mv] 32 ∧ True) (by kernel_rfl) (by kernel_rfl) ⟨k2, trivial⟩ ?_
      (repeat (refine wpSched_quiet (v := ?_) rfl rfl (fun w' hS => ?_) (fun K hK => ?_); rotate_left; (focus ((try have e1 := hS.1.cell); (try have e2 := hS.2.1.cell); (try have e3 := hS.2.2.1.cell); (try have e4 := hS.2.2.2.1.cell); (try have f1 := hS.1); (try have f2 := hS.2.1); (try have f3 := hS.2.2.1); (try have f4 := hS.2.2.2.1); (try have f5 := hS.2.2.2.2.1); clear hS; go_simp; (try with_reducible rfl))); (go_simp; refine hK _ ?_; clear hK K)))
      refine wpSched_loud rfl (fun K hK => ?_)
      go_wp2_with (go_at_call 68; refine (small_any _ _).mono ?_; rintro r w3 ⟨rfl, hb3⟩)
      have k3 := k2.call hb3
      refine hK.out _ _ (fun _ => ⟨k3, trivial⟩) ?_
      clear hK K
      refine wpSched_loud rfl (fun K hK => ?_)
      go_wp2_with (go_at_call 56; refine (put_any _ _).mono ?_; rintro r w4 ⟨rfl, hb4⟩)
      have k4 := k3.call hb4
      refine hK.out _ _ (fun _ => ⟨k4, trivial⟩) ?_
      clear hK K
      refine wpSched_loud rfl (fun K hK => ?_)
      go_wp2_with (go_at_call 68; refine (small_any _ _).mono ?_; rintro r w5 ⟨rfl, hb5⟩)
      have k5 := k4.call hb5
      refine hK.out _ _ (fun _ => ⟨k5, trivial⟩) ?_
      clear hK K
      refine wpSched_loud rfl (fun K hK => ?_)
      go_wp2
      have k6 := k5.alloc (.cells #[.string (bs [UInt8.ofNat (e.kind % 256).toNat]), .string (bs (le4 e.epoch)), .string (bs [UInt8.ofNat (e.ver % 256).toNat]), .string (bs pp)] 9)
      refine hK.out _ _ (fun _ => ⟨k6, trivial⟩) ?_
      clear hK K
      refine wpSched_loud rfl (fun K hK => ?_)
      go_wp2_with (go_at_call 67; refine (joined4_any _ _ _ _ _ _ (Blk.new rfl) ?_).mono ?_)
      · have := packP_len e.msgs
        rw [hpp.out] at this
        simp only [List.length_append, List.length_singleton, le4_length]
        omega
      rintro r w6 ⟨rfl, hb6⟩
      generalize ([UInt8.ofNat (e.kind % 256).toNat] ++ le4 e.epoch ++ [UInt8.ofNat (e.ver % 256).toNat] ++ pp) = full at *
      have hfs := bs_size full
      go_wp2
      refine hK.out _ _ (fun _ => ⟨k6.call hb6, trivial⟩) ?_
      clear hK K
      (repeat (refine wpSched_quiet (v := ?_) rfl rfl (fun w' hS => ?_) (fun K hK => ?_); rotate_left; (focus ((try have e1 := hS.1.cell); (try have e2 := hS.2.1.cell); (try have e3 := hS.2.2.1.cell); (try have e4 := hS.2.2.2.1.cell); (try have f1 := hS.1); (try have f2 := hS.2.1); (try have f3 := hS.2.2.1); (try have f4 := hS.2.2.2.1); (try have f5 := hS.2.2.2.2.1); clear hS; go_simp; (try with_reducible rfl))); (go_simp; refine hK _ ?_; clear hK K)))
      refine wpSched_nil ?_
      have hbw6 : Below w.heap.size w w6 := pb_trans (pb_alloc (pb_trans (pb_trans (pb_trans hbw hb3) hb4) hb5) _) hb6
      clear hb6 hb5 hb4 hb3 k2 k3 k4 k5 k6
      by_cases hlen : 4000 < full.length
      · rw [if_pos hlen] at hR
        subst hR
        have t4 : decide (4000 < ((bs full).size : Int)) = true := by rw [hfs]; simp; omega
        clear hlen hfs
        go_wp2
        go_ret2
        exact ⟨rfl, hbw6⟩
      · rw [if_neg hlen] at hR
        subst hR
        have t4 : decide (4000 < ((bs full).size : Int)) = false := by rw [hfs]; simp; omega
        clear hlen hfs
        go_wp2
        go_ret2
        exact ⟨rfl, hbw6⟩
    · rw [if_pos hp0] at hR
      subst hR
      have t2 : ((packP e.msgs).2 != 0) = true := by simpa using hp0
      clear hp0
      go_enter Tryz.func46, Tryz.ntmps46
      go_wp2_with (first
        | (go_at_call 65; refine (hsh.out _ (hm.out.below (by (repeat (first | exact Below.refl _ _ | with_reducible assumption | refine pb_alloc ?_ _ | refine pb_drew ?_ | refine pb_drewN ?_ _ | refine pb_set ?_ (by simp; try omega) _ | refine pb_trans ?_ (by with_reducible assumption)))))).mono ?_; rintro r w1 ⟨rfl, hb1⟩; rw [h1]
           have kb : Blk w1 w.heap.size #[.int .i64 e.kind, .int .u32 e.epoch, .int .i64 e.ver, mv] 32 := Blk.call (by (repeat (first | with_reducible assumption | (refine Blk.new ?_; simp; done) | refine Blk.alloc ?_ _ | refine Blk.drew ?_ | refine Blk.drewN ?_ _ | refine Blk.call ?_ (by with_reducible assumption)))) hb1
           have ke := kb.cell)
        | (go_at_call 66; refine (hpk.out _ (hm.out.below (by (repeat (first | exact Below.refl _ _ | with_reducible assumption | refine pb_alloc ?_ _ | refine pb_drew ?_ | refine pb_drewN ?_ _ | refine pb_set ?_ (by simp; try omega) _ | refine pb_trans ?_ (by with_reducible assumption))))) hl).mono ?_; rintro r w2 ⟨rfl, hb2⟩))
      go_ret2
      exact ⟨rfl, by (repeat (first | exact Below.refl _ _ | with_reducible assumption | refine pb_alloc ?_ _ | refine pb_drew ?_ | refine pb_drewN ?_ _ | refine pb_set ?_ (by simp; try omega) _ | refine pb_trans ?_ (by with_reducible assumption)))⟩
theorem right_eq (e : EntryD) : rightE e = ((encodeP e).2 == 0) := rfl
set_option maxHeartbeats 1000000 in
theorem rightE_any (e : EntryD) (mv : Value) (w : World) (hm : MsgsAt w mv e.msgs) (hl : e.msgs.length ≤ 1073741824) : Calls Tryz.prog 32 #[entV e mv] w fun r w' =>
    r = .returned (.bool (rightE e)) ∧ Below w.heap.size w w' := by
  rw [right_eq]
  have hen := encode_any e mv
  unfold entV at hen ⊢
  replace hen : Hid (∀ _, _) := hen
  replace hm : Hid (Src _ _ _ _ _) := hm
  go_enter Tryz.func32, Tryz.ntmps32
  go_wp2_with (go_at_call 46; refine (hen.out _ (hm.out.below (by (repeat (first | exact Below.refl _ _ | with_reducible assumption | refine pb_alloc ?_ _ | refine pb_drew ?_ | refine pb_drewN ?_ _ | refine pb_set ?_ (by simp; try omega) _ | refine pb_trans ?_ (by with_reducible assumption))))) hl).mono ?_; rintro r w1 ⟨rfl, hb1⟩)
  go_ret
  exact ⟨rfl, by (repeat (first | exact Below.refl _ _ | with_reducible assumption | refine pb_alloc ?_ _ | refine pb_drew ?_ | refine pb_drewN ?_ _ | refine pb_set ?_ (by simp; try omega) _ | refine pb_trans ?_ (by with_reducible assumption)))⟩
end Go.Proofs.YtlfledeldhhllaaGreatDoor
