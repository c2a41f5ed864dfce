/- WALK of ids.Pack. Condition: the messages can be read, and are not too many. -/
import Derived.Test.YtlfledeldhhllaaGreatDoorValMsg
import Derived.Test.YtlfledeldhhllaaGreatDoorRange
import Derived.Test.YtlfledeldhhllaaGreatDoorBytes
import Derived.Test.YtlfledeldhhllaaGreatDoorIds2
namespace Go.Proofs.YtlfledeldhhllaaGreatDoor
open Go Go.RowKit Go.Shelf Go.Extern.Stop Go.Stop Go.Extern Go.Lib
attribute [local go_sem] Oper.semAt_some wide_fn wide_depth

/-- The texts that Pack joins. -/
def msgTexts (m : MsgD) : List (List UInt8) := [[UInt8.ofNat (m.1.1 % 256).toNat], le4 m.1.2, le4 m.2.length, m.2]
def packTexts (n : Nat) (l : List MsgD) : List (List UInt8) := [UInt8.ofNat (n % 256)] :: l.flatMap msgTexts
theorem packTexts_flat (n : Nat) (l : List MsgD) : (packTexts n l).flatten = [UInt8.ofNat (n % 256)] ++ l.flatMap msgBytes := by
  unfold packTexts
  rw [List.flatten_cons]
  congr 1
  induction l with
  | nil => rfl
  | cons m l ih => simp [List.flatMap_cons, msgTexts, msgBytes, ih]

theorem texts_append (a b : List (List UInt8)) : texts (a ++ b) = texts a ++ texts b := by simp [texts]
theorem msgTexts_len (l : List MsgD) : (l.flatMap msgTexts).length = 4 * l.length := by
  induction l with
  | nil => rfl
  | cons y ll ih => rw [List.flatMap_cons, List.length_append, ih]; simp [msgTexts]; omega
theorem msgBytes_len : ∀ (l : List MsgD), (∀ x ∈ l, rightM x = true) → (l.flatMap msgBytes).length ≤ 1009 * l.length
  | [], _ => by simp
  | m :: l, h => by
    have ih := msgBytes_len l (fun x hx => h x (List.mem_cons_of_mem _ hx))
    have hm := h m (List.mem_cons_self ..)
    simp [rightM] at hm
    rw [List.flatMap_cons, List.length_append, List.length_cons]
    have : (msgBytes m).length = 9 + m.2.length := by simp [msgBytes, le4_length]; omega
    omega
/-- What holds ahead of each round of Pack's loop. -/
def PackAt (l : List MsgD) (n pb rb cb : Nat) (v : Value) (W0 : World) (k : Nat) (X : Nat → Prop) (W : World) : Prop :=
  Fr (fun k => k = pb ∨ k = rb ∨ k + 1 = pb) W0 X W ∧ Blk W cb #[v] 22 ∧ k ≤ l.length ∧ (∀ x ∈ l.take k, rightM x = true) ∧
    Blk W rb #[.bool true] 4 ∧ ∃ pv, Blk W pb #[pv] 135 ∧ Row W 9 1 pv (packTexts n (l.take k)).length (texts (packTexts n (l.take k))) ∧ (∀ g, pv.ownBlock = some g → (g + 1 = pb ∨ W0.heap.size ≤ g) ∧ ¬ X g)

theorem PackAt.stab {l : List MsgD} {n pb rb cb : Nat} {v : Value} {W0 : World} {k : Nat} {X X' : Nat → Prop} {W W' : World} (h1 : pb < W0.heap.size) (h2 : rb < W0.heap.size) (h3 : cb < W0.heap.size)
    (h : PackAt l n pb rb cb v W0 k X W) (hm : Mod X W W') (hx : ∀ k, X' k → X k ∨ (W.heap.size ≤ k ∧ k < W'.heap.size)) : PackAt l n pb rb cb v W0 k X' W' := by
  obtain ⟨hfr, kc, hk, hr, kr, pv, kp, kw, hn⟩ := h
  refine ⟨hfr.step hm hx, kc.kept (hfr.block hm h3), hk, hr, kr.kept (hfr.block hm h2), pv, kp.kept (hfr.block hm h1), kw.mod hm (fun g hg => (hn g hg).2), fun g hg => ⟨(hn g hg).1, fun hX => ?_⟩⟩
  rcases hx g hX with h | h
  · exact (hn g hg).2 h
  · have := kw.lt hg; omega
set_option maxRecDepth 8000 in
set_option maxHeartbeats 1000000 in
theorem pack_any (v : Value) (l : List MsgD) (w : World) (hv : Src w v 3 l.length (l.flatMap msgCells)) (hl : l.length ≤ 1073741824) : Calls Tryz.prog 66 #[v] w fun e w' =>
    e = .returned (.tuple #[.string (bs (packP l).1), .int .i64 (packP l).2]) ∧ Below w.heap.size w w' := by
  obtain ⟨sa, sn, sc, rfl, rfl⟩ : ∃ a n c, v = .slice a n c ∧ n = l.length := by
    rcases hv.2 with ⟨rfl, h⟩ | ⟨b, off, cap, rfl, -⟩
    · exact ⟨_, _, _, rfl, h.symm⟩
    · exact ⟨_, _, _, rfl, rfl⟩
  by_cases h64 : 64 < l.length
  · have hp : packP l = ([], 101) := by unfold packP; rw [if_pos h64]
    have t0 : decide (64 < (l.length : Int)) = true := by simp; omega
    rw [hp]
    clear hp hv h64
    refine calls_of_wp_marks Tryz.func66 rfl ?_
    simp only [Tryz.ntmps66, List.size_toArray, List.length_cons, List.length_nil, Nat.reduceAdd, Nat.reduceSub, Array.replicate_succ, Array.replicate_zero, List.push_toArray, List.append_toArray, List.nil_append, List.cons_append]
    go_wp2
    go_step3
    go_wp2
    rw [Exit.noGoto_ret]
    exact end_mark0 (v := .tuple #[.string (bs []), .int .i64 101]) (by simp [results, Tryz.results66, go_sem, bs]) ⟨rfl, by (repeat (first | exact Below.refl _ _ | with_reducible assumption | refine pb_alloc ?_ _ | refine pb_drew ?_ | refine pb_drewN ?_ _ | refine pb_set ?_ (by simp; try omega) _ | refine pb_trans ?_ (by with_reducible assumption)))⟩
  · have t0 : decide (64 < (l.length : Int)) = false := by simp; omega
    have hcv : ∀ (W : World) (b : Nat) (n : Int), W.cell? ⟨b, 0, none⟩ = some (.int .u8 n) → (convert 150 9 (.slice (some ⟨b, 0, none⟩) 1 1)).run Tryz.prog W = .ok (.string (strOfNums [n])) W := fun W b n h =>
      run_convert_bytes_arg W 150 5 Tryz.underlying150 Tryz.underlying5 b 0 1 1 [n] rfl (fun i hi => by obtain rfl : i = 0 := (by omega); exact h) 9 Tryz.underlying9
    have hcv0 := hcv (w.alloc (.cells #[.int .u8 (l.length : Int)] 5)) w.heap.size l.length (by simp)
    replace hcv : Hid (∀ _, _) := hcv
    replace hv : Hid (Src _ _ _ _ _) := hv
    refine calls_of_wp_marks Tryz.func66 rfl ?_
    simp only [Tryz.ntmps66, List.size_toArray, List.length_cons, List.length_nil, Nat.reduceAdd, Nat.reduceSub, Array.replicate_succ, Array.replicate_zero, List.push_toArray, List.append_toArray, List.nil_append, List.cons_append]
    go_wp2
    go_step3
    go_wp2
    go_step3
    go_wp2_with (go_at_call 51; refine (valMsg_any _ ⟨_, _, _, rfl⟩ _).mono ?_; rintro e w1 ⟨rfl, rfl⟩)
    obtain ⟨W0, hW0⟩ : ∃ W0, W0 = ((((w.alloc (.cells #[.int .u8 (l.length : Int)] 5)).alloc (.cells #[.string (strOfNums [(l.length : Int)])] 9)).alloc (.cells #[.slice (some ⟨w.heap.size + 1, 0, none⟩) 1 1] 135)).alloc (.cells #[.bool true] 4)).alloc (.cells #[.slice sa l.length sc] 22) := ⟨_, rfl⟩
    rw [← hW0]
    obtain ⟨pb, hpb⟩ : ∃ pb, pb = w.heap.size + 1 + 1 := ⟨_, rfl⟩
    rw [← hpb]
    have hsz : W0.heap.size = pb + 3 := by rw [hW0, hpb]; simp
    have hb0 : Below w.heap.size w W0 := by rw [hW0]; (repeat (first | exact Below.refl _ _ | with_reducible assumption | refine pb_alloc ?_ _ | refine pb_drew ?_ | refine pb_drewN ?_ _ | refine pb_set ?_ (by simp; try omega) _ | refine pb_trans ?_ (by with_reducible assumption)))
    have kp : Blk W0 pb #[.slice (some ⟨w.heap.size + 1, 0, none⟩) 1 1] 135 := by rw [hW0]; exact ((Blk.new (by simp [hpb])).alloc _).alloc _
    have kr : Blk W0 (pb + 1) #[.bool true] 4 := by rw [hW0]; exact (Blk.new (by simp [hpb])).alloc _
    have kc : Blk W0 (pb + 1 + 1) #[.slice sa l.length sc] 22 := by rw [hW0]; exact Blk.new (by simp [hpb])
    have hs1 : strOfNums [(l.length : Int)] = bs [UInt8.ofNat (l.length % 256)] := by
      unfold strOfNums bs; rw [ofNat_mod]; simp
    have kw : Row W0 9 1 (.slice (some ⟨w.heap.size + 1, 0, none⟩) 1 1) (packTexts l.length (l.take 0)).length (texts (packTexts l.length (l.take 0))) := by
      have k1 : Blk W0 (w.heap.size + 1) #[.string (bs [UInt8.ofNat (l.length % 256)])] 9 := by rw [hW0, hs1]; exact (((Blk.new (by simp)).alloc _).alloc _).alloc _
      exact ⟨rfl, .inr ⟨w.heap.size + 1, 1, _, rfl, Nat.zero_le _, k1, Nat.le_refl _, by decide, rfl, rfl⟩⟩
    have hv0 := hv.out.below hb0
    have hpw : w.heap.size + 2 ≤ pb := by omega
    replace hpb : Hid (_ = _) := hpb
    clear hcv0 hs1
    refine wp_rangeBox (gf := 72) (lb := #[.pointer (some ⟨pb + 1 + 1, 0, none⟩)]) rfl (enters_of Tryz.func72 (by kernel_rfl) rfl)
      (valMsg_iter (pb + 1 + 1) (.slice sa l.length sc) l hl) (fun _ => rfl)
      (fun k X W => PackAt l l.length pb (pb + 1) (pb + 1 + 1) (.slice sa l.length sc) W0 k X W)
      (fun c X W => c = .exit 0 ∧ (∃ x ∈ l, rightM x = false) ∧ Fr (fun k => k = pb ∨ k = pb + 1 ∨ k + 1 = pb) W0 X W ∧ Blk W (pb + 1) #[.bool false] 4)
      (fun k X X' W W' h hm hx => h.stab (by omega) (by omega) (by omega) hm hx)
      (fun c s X X' W W' h hm hx => ⟨h.1, h.2.1, h.2.2.1.step hm hx, h.2.2.2.kept (h.2.2.1.block hm (by omega))⟩)
      (fun k X W h => ⟨h.2.1, hv.out.below (hb0.trans (h.1.below (by omega) (fun k hk => by omega)))⟩)
      (fun k X W h => ⟨h.1.2.size, fun k hk => (h.1.1 k hk).2⟩)
      ⟨Fr.refl _ _, kc, Nat.zero_le _, by simp, kr, _, kp, kw, by intro g hg; simp [Value.ownBlock] at hg; subst hg; have := hpb.out; exact ⟨.inl (by omega), id⟩⟩
      6 54 (fun x => #[.int .i64 x.1.1, .int .u32 x.1.2, .string (bs x.2)]) ?assign ?body ?done ?stop
    case assign =>
      intro l' x W K hK
      rw [laidIn_one] at hK ⊢
      unfold msgV at hK ⊢
      gi_wp2
      exact hK
    case body =>
      rintro l' k x cb X X1 W1 W h1 h hnx hcb hcw hXc kx hXl _
      obtain ⟨hfr, kc', hk, hrt, kr', pv, kp', kw', hn⟩ := h
      obtain ⟨⟨i, c⟩, d⟩ := x
      have e0 := kx.cell
      simp only at e0
      rw [laidIn_one]
      unfold msgV
      have lr := kr'.lt
      have lc := kx.lt
      have lp := kp'.lt
      cases hr : rightM ((i, c), d)
      · gi_wp2_with (gi_at_call 77; refine (inRound _ _ (right_any _ _ _ _)).mono ?_; rintro e w1 ⟨rfl, hb1⟩; have kr1 := kr'.call hb1; have er := kr1.cell; have fr := kr1.frozen; rw [hr])
        have hm : Mod (fun k => k = pb + 1) W (w1.setCell ⟨pb + 1, 0, none⟩ (.bool false)) := (Mod.of_below (fun k => k = pb + 1) hb1).thenSet (p := ⟨pb + 1, 0, none⟩) rfl _
        refine ⟨⟨rfl, ⟨((i, c), d), List.mem_of_getElem? hnx, hr⟩, hfr.mod hm (fun k _ h => .inr (.inl h)), kr1.set _⟩, Saves.of_mod hm (fun k _ hX he => by have := hfr.1 k hX; omega)⟩
      · obtain ⟨xk, rfl, hxk⟩ : ∃ k : Nat, i = k ∧ k < 16 := by
          have := hr
          simp [rightM] at this
          exact ⟨i.toNat, by omega, by omega⟩
        have hxi : (xk : Int) < 16 := by omega
        gi_wp2_with (gi_at_call 77
                     refine (inRound _ _ (right_any _ _ _ _)).mono ?_
                     rintro e w1 ⟨rfl, hb1⟩
                     have kx1 := kx.call hb1
                     have ex := kx1.cell
                     have lx1 := kx1.lt
                     have hcv1 := hcv.out (w1.alloc (.cells #[.int .u8 (xk : Int)] 5)) w1.heap.size xk (by simp)
                     rw [hr])
        obtain ⟨W2, hW2⟩ : ∃ W2, W2 = w1.alloc (.cells #[.int .u8 (xk : Int)] 5) := ⟨_, rfl⟩
        rw [← hW2]
        have hb2 : Below W.heap.size W W2 := by rw [hW2]; exact pb_alloc hb1 _
        have kx2 := kx.call hb2
        have kp2 := kp'.call hb2
        have hds : ((bs d).size : Int) ≤ 1000 := by
          have := hr
          simp [rightM] at this
          rw [bs_size]; omega
        clear ex hcv1 lx1 kx1 e0 hW2
        refine wpIn_region_sched [(0, true), (1, true), (2, true), (3, true), (4, true), (6, true), (7, true), (8, true), (9, true), (11, true), (12, true), (5, false), (10, false), (13, false), (14, false), (15, false)] (some 15) (fun w' => Blk w' cb #[.int .i64 (xk : Int), .int .u32 (c : Int), .string (bs d)] 54 ∧ Blk w' pb #[pv] 135 ∧ True) (by kernel_rfl) (by kernel_rfl) ⟨kx2.drew, kp2.drew, trivial⟩ ?_
        (repeat (refine wpSched_quiet (v := ?_) rfl rfl (fun w' hS => ?_) (fun K hK => ?_); rotate_left; (focus ((try have e1 := hS.1.cell); (try have e2 := hS.2.1.cell); (try have e3 := hS.2.2.1.cell); (try have e4 := hS.2.2.2.1.cell); (try have f1 := hS.1); (try have f2 := hS.2.1); (try have f3 := hS.2.2.1); (try have f4 := hS.2.2.2.1); (try have f5 := hS.2.2.2.2.1); clear hS; go_simp; (try with_reducible rfl))); (go_simp; refine hK _ ?_; clear hK K)))
        replace kx2 := kx2.drew
        replace kp2 := kp2.drew
        refine wpSched_loud rfl (fun K hK => ?_)
        go_wp2_with (go_at_call 56; refine (put_any _ _).mono ?_; rintro e w3 ⟨rfl, hb3⟩)
        refine hK.out _ _ (fun _ => ⟨kx2.call hb3, kp2.call hb3, trivial⟩) ?_
        clear hK K
        have kx3 := kx2.call hb3
        have kp3 := kp2.call hb3
        refine wpSched_loud rfl (fun K hK => ?_)
        go_wp2_with (go_at_call 56; refine (put_any _ _).mono ?_; rintro e w4 ⟨rfl, hb4⟩)
        refine hK.out _ _ (fun _ => ⟨kx3.call hb4, kp3.call hb4, trivial⟩) ?_
        clear hK K
        have kx4 := kx3.call hb4
        have kp4 := kp3.call hb4
        refine wpSched_loud rfl (fun K hK => ?_)
        go_wp2
        obtain ⟨w5, hw5⟩ : ∃ w5, w5 = w4.alloc (.cells #[.string (strOfNums [(xk : Int)]), .string (bs (le4 c)), .string (bs (le4 (bs d).size)), .string (bs d)] 9) := ⟨_, rfl⟩
        have k5 : Blk w5 w4.heap.size #[.string (strOfNums [(xk : Int)]), .string (bs (le4 c)), .string (bs (le4 (bs d).size)), .string (bs d)] 9 := by rw [hw5]; exact Blk.new rfl
        have kx5 := kx4.alloc (.cells #[.string (strOfNums [(xk : Int)]), .string (bs (le4 c)), .string (bs (le4 (bs d).size)), .string (bs d)] 9)
        have kp5 := kp4.alloc (.cells #[.string (strOfNums [(xk : Int)]), .string (bs (le4 c)), .string (bs (le4 (bs d).size)), .string (bs d)] 9)
        rw [← hw5] at kx5 kp5 ⊢
        have hb5 : Below W.heap.size W w5 := by rw [hw5]; exact pb_alloc (pb_trans (pb_trans (pb_drew hb2) hb3) hb4) _
        have h45 : w4.heap.size < w5.heap.size := by rw [hw5]; simp
        refine hK.out _ _ (fun _ => ⟨kx5, kp5, trivial⟩) ?_
        clear hK K hw5
        have hsx : strOfNums [(xk : Int)] = bs [UInt8.ofNat ((xk : Int) % 256).toNat] := by
          rw [toNat_mod, ofNat_mod]; unfold strOfNums bs; simp
        have hsd := bs_size d
        have hts : texts (msgTexts (((xk : Int), c), d)) = [.string (strOfNums [(xk : Int)]), .string (bs (le4 c)), .string (bs (le4 (bs d).size)), .string (bs d)] := by rw [hsx, hsd]; rfl
        have hlen : (packTexts l.length (l.take k)).length + 4 ≤ 1073741824 := by
          have h1 : (l.take k).length ≤ 64 := by rw [List.length_take]; omega
          have h2 := msgTexts_len (l.take k)
          simp only [packTexts, List.length_cons, h2]
          omega
        have hpt : packTexts l.length (l.take (k + 1)) = packTexts l.length (l.take k) ++ msgTexts (((xk : Int), c), d) := by
          unfold packTexts; rw [List.take_add_one, hnx]; simp [List.flatMap_append]
        replace hts : Hid (_ = _) := hts
        replace hsd : Hid (_ = _) := hsd
        replace hsx : Hid (_ = _) := hsx
        replace hpt : Hid (_ = _) := hpt
        replace hlen : Hid (_ ≤ _) := hlen
        refine wpSched_loud rfl (fun K hK => ?_)
        obtain ⟨pv', w6, hrun, hrow, hgr, hown⟩ := row_append strT (kw'.below hb5) (src_blk (n := 4) (size := 1) (cap := 4) k5 rfl (Nat.le_refl 4)) (by simp only [List.mem_cons, List.mem_nil_iff, or_false]; rintro u (rfl | rfl | rfl | rfl) <;> rfl) hlen.out 135
        refine wpList_append_by rfl _ _ _ rfl rfl rfl hrun ?_
        unfold wpList
        have hpvB : ∀ g, pv.ownBlock = some g → g ≠ pb ∧ g ≠ pb + 1 ∧ g ≠ cb ∧ ¬ X g ∧ (g + 1 = pb ∨ W0.heap.size ≤ g) := fun g hg => ⟨by have := (hn g hg).1; omega, by have := (hn g hg).1; omega, kw'.ne_blk kx (by decide) hg, (hn g hg).2, (hn g hg).1⟩
        have kx6 := kx5.kept (hgr.block cb kx5.lt (fun e => (hpvB cb e.symm).2.2.1 rfl))
        have kp6 := kp5.kept (hgr.block pb kp5.lt (fun e => (hpvB pb e.symm).1 rfl))
        refine hK.out _ _ (fun _ => ⟨kx6, kp6, trivial⟩) ?_
        clear hK K hrun
        refine wpSched_loud rfl (fun K hK => ?_)
        obtain ⟨va, vn, vc, rfl⟩ := hrow.shape
        have ep6 := kp6.cell
        have fp6 := kp6.frozen
        replace hpvB : Hid (∀ _, _) := hpvB
        replace hpw : Hid (_ ≤ _) := hpw
        go_wp2
        refine hK.out _ _ (fun h => absurd rfl h) ?_
        clear hK K ep6 fp6
        refine wpSched_nil ?_
        have hm : Mod (fun k => k = pb ∨ pv.ownBlock = some k) W (w6.setCell ⟨pb, 0, none⟩ (.slice va vn vc)) :=
          ((Mod.of_below (fun k => k = pb ∨ pv.ownBlock = some k) hb5).trans (Mod.grown hgr (fun k h => .inr h)) (fun _ _ e => e) (fun _ _ e => e)).thenSet (p := ⟨pb, 0, none⟩) (.inl rfl) _
        have hb6 : ∀ k, k < w5.heap.size → pv.ownBlock ≠ some k → k ≠ pb → (w6.setCell ⟨pb, 0, none⟩ (.slice va vn vc)).heap[k]? = w5.heap[k]? := fun k hk h1 h2 => (Below.heap_setCell _ _ _ _ h2).trans (hgr.block k hk (fun e => h1 e.symm))
        refine ⟨⟨hfr.mod hm (fun k hk h => ?_), ?_, ?_, ?_, ?_, _, kp6.set _, ?_, ?_⟩, Saves.of_mod hm (fun k hk hX h => ?_)⟩
        · rcases h with h | h
          · exact .inl h
          · rcases (hpvB.out k h).2.2.2.2 with h2 | h2
            · exact .inr (.inr h2)
            · omega
        · exact (kc'.call hb5).kept (hb6 _ (kc'.call hb5).lt (fun e => (by have := (hpvB.out _ e).2.2.2.2; have := hfr.2.size; omega)) (by omega))
        · have := (List.getElem?_eq_some_iff.1 hnx).1; omega
        · intro y hy
          rw [List.take_add_one, hnx] at hy
          rcases List.mem_append.1 hy with h | h
          · exact hrt y h
          · simp at h; rw [h]; exact hr
        · exact (kr'.call hb5).kept (hb6 _ (kr'.call hb5).lt (fun e => (hpvB.out _ e).2.1 rfl) (by omega))
        · rw [hpt.out, texts_append, List.length_append, hts.out]
          exact Row.kept (w := w6) hrow (fun g hg => Below.heap_setCell _ _ _ _ (show g ≠ pb from fun e => by
            rw [hg] at hown
            rcases hown with h | h
            · exact (hpvB.out g h.symm).1 e
            · have := kp5.lt; simp at h; omega))
        · intro g hg
          rw [hg] at hown
          rcases hown with h | h
          · exact ⟨(hpvB.out g h.symm).2.2.2.2, (hpvB.out g h.symm).2.2.2.1⟩
          · simp at h
            have h1 := hfr.2.size
            have h2 := hb5.size
            exact ⟨.inr (by omega), fun hX => by have := (hfr.1 g hX).2; omega⟩
        · have := hfr.1 k hX
          rcases h with h | h
          · omega
          · exact (hpvB.out k h).2.2.2.1 hX
    case done =>
      rintro D k X W hD hXD hfin ⟨hfr, kc', hk, hrt, kr', pv, kp', kw', hn⟩ hdef
      obtain rfl : k = l.length := hfin
      rw [List.take_length] at hrt kw'
      have hall : l.all rightM = true := List.all_eq_true.2 hrt
      have hp : packP l = ([UInt8.ofNat (l.length % 256)] ++ l.flatMap msgBytes, 0) := by unfold packP; rw [if_neg h64, if_pos hall]
      have hpl : plen (packTexts l.length l) (packTexts l.length l).length ≤ 1073741824 := by
        unfold plen
        rw [List.take_length, packTexts_flat]
        have := msgBytes_len l hrt
        simp only [List.length_append, List.length_singleton]
        omega
      have hpn : (packTexts l.length l).length ≤ 1000000 := by
        have h2 := msgTexts_len l
        simp only [packTexts, List.length_cons, h2]
        omega
      have hj := idsJoin_any pv (packTexts l.length l) W kw'.src (by simp [packTexts]) hpn hpl
      rw [packTexts_flat] at hj
      have er := kr'.cell
      have ep := kp'.cell
      have hbW : Below w.heap.size w W := hb0.trans (hfr.below (by omega) (fun k h => by omega))
      replace hp : Hid (_ = _) := hp
      clear hall hpl hpn hrt
      replace hj : Hid (Calls _ _ _ _ _) := hj
      go_wp2_with (go_at_call 78; refine hj.out.mono ?_; rintro e w2 ⟨rfl, hb2⟩)
      rw [Exit.noGoto_ret]
      refine end_mark1 (D := D) (v := .tuple #[.string (bs ([UInt8.ofNat (l.length % 256)] ++ l.flatMap msgBytes)), .int .i64 0]) ((hb2.block D (Array.getElem?_eq_some_iff.1 hdef).1).trans hdef) (by simp [results, Tryz.results66, go_sem]) ⟨by rw [hp.out], below_putObj (hbW.trans (hb2.mono hbW.size)) (by omega) _⟩
    case stop =>
      rintro D c X W hD hXD ⟨rfl, hx, hfr, kr'⟩ hdef
      have hp : packP l = ([], 100) := by
        obtain ⟨x, hx1, hx2⟩ := hx
        have : ¬ l.all rightM = true := fun h => by have := List.all_eq_true.1 h x hx1; rw [hx2] at this; cases this
        unfold packP; rw [if_neg h64, if_neg this]
      have er := kr'.cell
      have hbW : Below w.heap.size w W := hb0.trans (hfr.below (by omega) (fun k h => by omega))
      replace hp : Hid (_ = _) := hp
      clear hx
      go_wp2
      rw [Exit.noGoto_ret]
      refine end_mark1 (D := D) (v := .tuple #[.string (bs []), .int .i64 100]) hdef (by simp [results, Tryz.results66, go_sem, bs]) ⟨by rw [hp.out], below_putObj hbW (by omega) _⟩
end Go.Proofs.YtlfledeldhhllaaGreatDoor
