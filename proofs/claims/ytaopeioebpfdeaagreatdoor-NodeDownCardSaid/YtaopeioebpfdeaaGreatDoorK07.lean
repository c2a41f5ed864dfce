/- PROVED HERE: WALK of ids.Pack. Condition: the messages can be read, and are not too many. WALKS of epoch: shaped, small, joined, Encode, Right. Condition: the entry's messages can be read. -/
import Derived.Test.YtaopeioebpfdeaaGreatDoorK02
import Derived.Test.YtaopeioebpfdeaaGreatDoorK06
namespace Go.Proofs.YtaopeioebpfdeaaGreatDoor
open Go Go.RowKit Go.Shelf Go.Extern.Stop Go.Stop Go.Extern Go.Lib
attribute [local go_sem] Oper.semAt_some wide_fn wide_depth

/-- The texts that Pack joins. -/
def msgTexts (m : MsgD) : List (List UInt8) := [[UInt8.ofNat (m.1.1 % 256).toNat], le4 m.1.2, le4 m.2.length, m.2]
def packTexts (n : Nat) (l : List MsgD) : List (List UInt8) := [UInt8.ofNat (n % 256)] :: l.flatMap msgTexts
theorem packTexts_flat (n : Nat) (l : List MsgD) : (packTexts n l).flatten = [UInt8.ofNat (n % 256)] ++ l.flatMap msgBytes := by
  unfold packTexts
  rw [List.flatten_cons]
  congr 1
  induction l with
  | nil => rfl
  | cons m l ih => simp [List.flatMap_cons, msgTexts, msgBytes, ih]

theorem texts_append (a b : List (List UInt8)) : texts (a ++ b) = texts a ++ texts b := by simp [texts]
theorem msgTexts_len (l : List MsgD) : (l.flatMap msgTexts).length = 4 * l.length := by
  induction l with
  | nil => rfl
  | cons y ll ih => rw [List.flatMap_cons, List.length_append, ih]; simp [msgTexts]; omega
theorem msgBytes_len : ∀ (l : List MsgD), (∀ x ∈ l, rightM x = true) → (l.flatMap msgBytes).length ≤ 1009 * l.length
  | [], _ => by simp
  | m :: l, h => by
    have ih := msgBytes_len l (fun x hx => h x (List.mem_cons_of_mem _ hx))
    have hm := h m (List.mem_cons_self ..)
    simp [rightM] at hm
    rw [List.flatMap_cons, List.length_append, List.length_cons]
    have : (msgBytes m).length = 9 + m.2.length := by simp [msgBytes, le4_length]; omega
    omega
/-- What holds ahead of each round of Pack's loop. -/
def PackAt (l : List MsgD) (n pb rb cb : Nat) (v : Value) (W0 : World) (k : Nat) (X : Nat → Prop) (W : World) : Prop :=
  Fr (fun k => k = pb ∨ k = rb ∨ k + 1 = pb) W0 X W ∧ Blk W cb #[v] 42 ∧ k ≤ l.length ∧ (∀ x ∈ l.take k, rightM x = true) ∧
    Blk W rb #[.bool true] 4 ∧ ∃ pv, Blk W pb #[pv] 97 ∧ Row W 9 1 pv (packTexts n (l.take k)).length (texts (packTexts n (l.take k))) ∧ (∀ g, pv.ownBlock = some g → (g + 1 = pb ∨ W0.heap.size ≤ g) ∧ ¬ X g)

theorem PackAt.stab {l : List MsgD} {n pb rb cb : Nat} {v : Value} {W0 : World} {k : Nat} {X X' : Nat → Prop} {W W' : World} (h1 : pb < W0.heap.size) (h2 : rb < W0.heap.size) (h3 : cb < W0.heap.size)
    (h : PackAt l n pb rb cb v W0 k X W) (hm : Mod X W W') (hx : ∀ k, X' k → X k ∨ (W.heap.size ≤ k ∧ k < W'.heap.size)) : PackAt l n pb rb cb v W0 k X' W' := by
  obtain ⟨hfr, kc, hk, hr, kr, pv, kp, kw, hn⟩ := h
  refine ⟨hfr.step hm hx, kc.kept (hfr.block hm h3), hk, hr, kr.kept (hfr.block hm h2), pv, kp.kept (hfr.block hm h1), kw.mod hm (fun g hg => (hn g hg).2), fun g hg => ⟨(hn g hg).1, fun hX => ?_⟩⟩
  rcases hx g hX with h | h
  · exact (hn g hg).2 h
  · have := kw.lt hg; omega
set_option maxRecDepth 8000 in
set_option maxHeartbeats 1000000 in
theorem pack_any (v : Value) (l : List MsgD) (w : World) (hv : Src w v 3 l.length (l.flatMap msgCells)) (hl : l.length ≤ 1073741824) : Calls Tryz.prog 34 #[v] w fun e w' =>
    e = .returned (.tuple #[.string (bs (packP l).1), .int .i64 (packP l).2]) ∧ Below w.heap.size w w' := by
  obtain ⟨sa, sn, sc, rfl, rfl⟩ : ∃ a n c, v = .slice a n c ∧ n = l.length := by
    rcases hv.2 with ⟨rfl, h⟩ | ⟨b, off, cap, rfl, -⟩
    · exact ⟨_, _, _, rfl, h.symm⟩
    · exact ⟨_, _, _, rfl, rfl⟩
  by_cases h64 : 64 < l.length
  · have hp : packP l = ([], 101) := by unfold packP; rw [if_pos h64]
    have t0 : decide (64 < (l.length : Int)) = true := by simp; omega
    rw [hp]
    clear hp hv h64
    refine calls_of_wp_marks Tryz.func34 rfl ?_
    simp only [Tryz.ntmps34, List.size_toArray, List.length_cons, List.length_nil, Nat.reduceAdd, Nat.reduceSub, Array.replicate_succ, Array.replicate_zero, List.push_toArray, List.append_toArray, List.nil_append, List.cons_append]
    go_wp2
    go_step3
    go_wp2
    rw [Exit.noGoto_ret]
    exact end_mark0 (v := .tuple #[.string (bs []), .int .i64 101]) (by simp [results, Tryz.results34, go_sem, bs]) ⟨rfl, by (repeat (first | exact Below.refl _ _ | with_reducible assumption | refine pb_alloc ?_ _ | refine pb_drew ?_ | refine pb_drewN ?_ _ | refine pb_set ?_ (by simp; try omega) _ | refine pb_trans ?_ (by with_reducible assumption)))⟩
  · have t0 : decide (64 < (l.length : Int)) = false := by simp; omega
    have hcv : ∀ (W : World) (b : Nat) (n : Int), W.cell? ⟨b, 0, none⟩ = some (.int .u8 n) → (convert 87 9 (.slice (some ⟨b, 0, none⟩) 1 1)).run Tryz.prog W = .ok (.string (strOfNums [n])) W := fun W b n h =>
      run_convert_bytes_arg W 87 5 Tryz.underlying87 Tryz.underlying5 b 0 1 1 [n] rfl (fun i hi => by obtain rfl : i = 0 := (by omega); exact h) 9 Tryz.underlying9
    have hcv0 := hcv (w.alloc (.cells #[.int .u8 (l.length : Int)] 5)) w.heap.size l.length (by simp)
    replace hcv : Hid (∀ _, _) := hcv
    replace hv : Hid (Src _ _ _ _ _) := hv
    refine calls_of_wp_marks Tryz.func34 rfl ?_
    simp only [Tryz.ntmps34, List.size_toArray, List.length_cons, List.length_nil, Nat.reduceAdd, Nat.reduceSub, Array.replicate_succ, Array.replicate_zero, List.push_toArray, List.append_toArray, List.nil_append, List.cons_append]
    go_wp2
    go_step3
    go_wp2
    go_step3
    go_wp2_with (go_at_call 61; refine (valMsg_any _ ⟨_, _, _, rfl⟩ _).mono ?_; rintro e w1 ⟨rfl, rfl⟩)
    obtain ⟨W0, hW0⟩ : ∃ W0, W0 = ((((w.alloc (.cells #[.int .u8 (l.length : Int)] 5)).alloc (.cells #[.string (strOfNums [(l.length : Int)])] 9)).alloc (.cells #[.slice (some ⟨w.heap.size + 1, 0, none⟩) 1 1] 97)).alloc (.cells #[.bool true] 4)).alloc (.cells #[.slice sa l.length sc] 42) := ⟨_, rfl⟩
    rw [← hW0]
    obtain ⟨pb, hpb⟩ : ∃ pb, pb = w.heap.size + 1 + 1 := ⟨_, rfl⟩
    rw [← hpb]
    have hsz : W0.heap.size = pb + 3 := by rw [hW0, hpb]; simp
    have hb0 : Below w.heap.size w W0 := by rw [hW0]; (repeat (first | exact Below.refl _ _ | with_reducible assumption | refine pb_alloc ?_ _ | refine pb_drew ?_ | refine pb_drewN ?_ _ | refine pb_set ?_ (by simp; try omega) _ | refine pb_trans ?_ (by with_reducible assumption)))
    have kp : Blk W0 pb #[.slice (some ⟨w.heap.size + 1, 0, none⟩) 1 1] 97 := by rw [hW0]; exact ((Blk.new (by simp [hpb])).alloc _).alloc _
    have kr : Blk W0 (pb + 1) #[.bool true] 4 := by rw [hW0]; exact (Blk.new (by simp [hpb])).alloc _
    have kc : Blk W0 (pb + 1 + 1) #[.slice sa l.length sc] 42 := by rw [hW0]; exact Blk.new (by simp [hpb])
    have hs1 : strOfNums [(l.length : Int)] = bs [UInt8.ofNat (l.length % 256)] := by
      unfold strOfNums bs; rw [ofNat_mod]; simp
    have kw : Row W0 9 1 (.slice (some ⟨w.heap.size + 1, 0, none⟩) 1 1) (packTexts l.length (l.take 0)).length (texts (packTexts l.length (l.take 0))) := by
      have k1 : Blk W0 (w.heap.size + 1) #[.string (bs [UInt8.ofNat (l.length % 256)])] 9 := by rw [hW0, hs1]; exact (((Blk.new (by simp)).alloc _).alloc _).alloc _
      exact ⟨rfl, .inr ⟨w.heap.size + 1, 1, _, rfl, Nat.zero_le _, k1, Nat.le_refl _, by decide, rfl, rfl⟩⟩
    have hv0 := hv.out.below hb0
    have hpw : w.heap.size + 2 ≤ pb := by omega
    replace hpb : Hid (_ = _) := hpb
    clear hcv0 hs1
    refine wp_rangeBox (gf := 93) (lb := #[.pointer (some ⟨pb + 1 + 1, 0, none⟩)]) rfl (enters_of Tryz.func93 (by kernel_rfl) rfl)
      (valMsg_iter (pb + 1 + 1) (.slice sa l.length sc) l hl) (fun _ => rfl)
      (fun k X W => PackAt l l.length pb (pb + 1) (pb + 1 + 1) (.slice sa l.length sc) W0 k X W)
      (fun c X W => c = .exit 0 ∧ (∃ x ∈ l, rightM x = false) ∧ Fr (fun k => k = pb ∨ k = pb + 1 ∨ k + 1 = pb) W0 X W ∧ Blk W (pb + 1) #[.bool false] 4)
      (fun k X X' W W' h hm hx => h.stab (by omega) (by omega) (by omega) hm hx)
      (fun c s X X' W W' h hm hx => ⟨h.1, h.2.1, h.2.2.1.step hm hx, h.2.2.2.kept (h.2.2.1.block hm (by omega))⟩)
      (fun k X W h => ⟨h.2.1, hv.out.below (hb0.trans (h.1.below (by omega) (fun k hk => by omega)))⟩)
      (fun k X W h => ⟨h.1.2.size, fun k hk => (h.1.1 k hk).2⟩)
      ⟨Fr.refl _ _, kc, Nat.zero_le _, by simp, kr, _, kp, kw, by intro g hg; simp [Value.ownBlock] at hg; subst hg; have := hpb.out; exact ⟨.inl (by omega), id⟩⟩
      6 34 (fun x => #[.int .i64 x.1.1, .int .u32 x.1.2, .string (bs x.2)]) ?assign ?body ?done ?stop
    case assign =>
      intro l' x W K hK
      rw [laidIn_one] at hK ⊢
      unfold msgV at hK ⊢
      gi_wp2
      exact hK
    case body =>
      rintro l' k x cb X X1 W1 W h1 h hnx hcb hcw hXc kx hXl _
      obtain ⟨hfr, kc', hk, hrt, kr', pv, kp', kw', hn⟩ := h
      obtain ⟨⟨i, c⟩, d⟩ := x
      have e0 := kx.cell
      simp only at e0
      rw [laidIn_one]
      unfold msgV
      have lr := kr'.lt
      have lc := kx.lt
      have lp := kp'.lt
      cases hr : rightM ((i, c), d)
      · gi_wp2_with (gi_at_call 33; refine (inRound _ _ (right_any _ _ _ _)).mono ?_; rintro e w1 ⟨rfl, hb1⟩; have kr1 := kr'.call hb1; have er := kr1.cell; have fr := kr1.frozen; rw [hr])
        have hm : Mod (fun k => k = pb + 1) W (w1.setCell ⟨pb + 1, 0, none⟩ (.bool false)) := (Mod.of_below (fun k => k = pb + 1) hb1).thenSet (p := ⟨pb + 1, 0, none⟩) rfl _
        refine ⟨⟨rfl, ⟨((i, c), d), List.mem_of_getElem? hnx, hr⟩, hfr.mod hm (fun k _ h => .inr (.inl h)), kr1.set _⟩, Saves.of_mod hm (fun k _ hX he => by have := hfr.1 k hX; omega)⟩
      · obtain ⟨xk, rfl, hxk⟩ : ∃ k : Nat, i = k ∧ k < 16 := by
          have := hr
          simp [rightM] at this
          exact ⟨i.toNat, by omega, by omega⟩
        have hxi : (xk : Int) < 16 := by omega
        gi_wp2_with (gi_at_call 33
                     refine (inRound _ _ (right_any _ _ _ _)).mono ?_
                     rintro e w1 ⟨rfl, hb1⟩
                     have kx1 := kx.call hb1
                     have ex := kx1.cell
                     have lx1 := kx1.lt
                     have hcv1 := hcv.out (w1.alloc (.cells #[.int .u8 (xk : Int)] 5)) w1.heap.size xk (by simp)
                     rw [hr])
        obtain ⟨W2, hW2⟩ : ∃ W2, W2 = w1.alloc (.cells #[.int .u8 (xk : Int)] 5) := ⟨_, rfl⟩
        rw [← hW2]
        have hb2 : Below W.heap.size W W2 := by rw [hW2]; exact pb_alloc hb1 _
        have kx2 := kx.call hb2
        have kp2 := kp'.call hb2
        have hds : ((bs d).size : Int) ≤ 1000 := by
          have := hr
          simp [rightM] at this
          rw [bs_size]; omega
        clear ex hcv1 lx1 kx1 e0 hW2
        refine wpIn_region_sched [(0, true), (1, true), (2, true), (3, true), (4, true), (6, true), (7, true), (8, true), (9, true), (11, true), (12, true), (5, false), (10, false), (13, false), (14, false), (15, false)] (some 15) (fun w' => Blk w' cb #[.int .i64 (xk : Int), .int .u32 (c : Int), .string (bs d)] 34 ∧ Blk w' pb #[pv] 97 ∧ True) (by kernel_rfl) (by kernel_rfl) ⟨kx2.drew, kp2.drew, trivial⟩ ?_
        (repeat (refine wpSched_quiet (v := ?_) rfl rfl (fun w' hS => ?_) (fun K hK => ?_); rotate_left; (focus ((try have e1 := hS.1.cell); (try have e2 := hS.2.1.cell); (try have e3 := hS.2.2.1.cell); (try have e4 := hS.2.2.2.1.cell); (try have f1 := hS.1); (try have f2 := hS.2.1); (try have f3 := hS.2.2.1); (try have f4 := hS.2.2.2.1); (try have f5 := hS.2.2.2.2.1); clear hS; go_simp; (try with_reducible rfl))); (go_simp; refine hK _ ?_; clear hK K)))
        replace kx2 := kx2.drew
        replace kp2 := kp2.drew
        refine wpSched_loud rfl (fun K hK => ?_)
        go_wp2_with (go_at_call 62; refine (put_any _ _).mono ?_; rintro e w3 ⟨rfl, hb3⟩)
        refine hK.out _ _ (fun _ => ⟨kx2.call hb3, kp2.call hb3, trivial⟩) ?_
        clear hK K
        have kx3 := kx2.call hb3
        have kp3 := kp2.call hb3
        refine wpSched_loud rfl (fun K hK => ?_)
        go_wp2_with (go_at_call 62; refine (put_any _ _).mono ?_; rintro e w4 ⟨rfl, hb4⟩)
        refine hK.out _ _ (fun _ => ⟨kx3.call hb4, kp3.call hb4, trivial⟩) ?_
        clear hK K
        have kx4 := kx3.call hb4
        have kp4 := kp3.call hb4
        refine wpSched_loud rfl (fun K hK => ?_)
        go_wp2
        obtain ⟨w5, hw5⟩ : ∃ w5, w5 = w4.alloc (.cells #[.string (strOfNums [(xk : Int)]), .string (bs (le4 c)), .string (bs (le4 (bs d).size)), .string (bs d)] 9) := ⟨_, rfl⟩
        have k5 : Blk w5 w4.heap.size #[.string (strOfNums [(xk : Int)]), .string (bs (le4 c)), .string (bs (le4 (bs d).size)), .string (bs d)] 9 := by rw [hw5]; exact Blk.new rfl
        have kx5 := kx4.alloc (.cells #[.string (strOfNums [(xk : Int)]), .string (bs (le4 c)), .string (bs (le4 (bs d).size)), .string (bs d)] 9)
        have kp5 := kp4.alloc (.cells #[.string (strOfNums [(xk : Int)]), .string (bs (le4 c)), .string (bs (le4 (bs d).size)), .string (bs d)] 9)
        rw [← hw5] at kx5 kp5 ⊢
        have hb5 : Below W.heap.size W w5 := by rw [hw5]; exact pb_alloc (pb_trans (pb_trans (pb_drew hb2) hb3) hb4) _
        have h45 : w4.heap.size < w5.heap.size := by rw [hw5]; simp
        refine hK.out _ _ (fun _ => ⟨kx5, kp5, trivial⟩) ?_
        clear hK K hw5
        have hsx : strOfNums [(xk : Int)] = bs [UInt8.ofNat ((xk : Int) % 256).toNat] := by
          rw [toNat_mod, ofNat_mod]; unfold strOfNums bs; simp
        have hsd := bs_size d
        have hts : texts (msgTexts (((xk : Int), c), d)) = [.string (strOfNums [(xk : Int)]), .string (bs (le4 c)), .string (bs (le4 (bs d).size)), .string (bs d)] := by rw [hsx, hsd]; rfl
        have hlen : (packTexts l.length (l.take k)).length + 4 ≤ 1073741824 := by
          have h1 : (l.take k).length ≤ 64 := by rw [List.length_take]; omega
          have h2 := msgTexts_len (l.take k)
          simp only [packTexts, List.length_cons, h2]
          omega
        have hpt : packTexts l.length (l.take (k + 1)) = packTexts l.length (l.take k) ++ msgTexts (((xk : Int), c), d) := by
          unfold packTexts; rw [List.take_add_one, hnx]; simp [List.flatMap_append]
        replace hts : Hid (_ = _) := hts
        replace hsd : Hid (_ = _) := hsd
        replace hsx : Hid (_ = _) := hsx
        replace hpt : Hid (_ = _) := hpt
        replace hlen : Hid (_ ≤ _) := hlen
        refine wpSched_loud rfl (fun K hK => ?_)
        obtain ⟨pv', w6, hrun, hrow, hgr, hown⟩ := row_append strT (kw'.below hb5) (src_blk (n := 4) (size := 1) (cap := 4) k5 rfl (Nat.le_refl 4)) (by simp only [List.mem_cons, List.mem_nil_iff, or_false]; rintro u (rfl | rfl | rfl | rfl) <;> rfl) hlen.out 97
        refine wpList_append_by rfl _ _ _ rfl rfl rfl hrun ?_
        unfold wpList
        have hpvB : ∀ g, pv.ownBlock = some g → g ≠ pb ∧ g ≠ pb + 1 ∧ g ≠ cb ∧ ¬ X g ∧ (g + 1 = pb ∨ W0.heap.size ≤ g) := fun g hg => ⟨by have := (hn g hg).1; omega, by have := (hn g hg).1; omega, kw'.ne_blk kx (by decide) hg, (hn g hg).2, (hn g hg).1⟩
        have kx6 := kx5.kept (hgr.block cb kx5.lt (fun e => (hpvB cb e.symm).2.2.1 rfl))
        have kp6 := kp5.kept (hgr.block pb kp5.lt (fun e => (hpvB pb e.symm).1 rfl))
        refine hK.out _ _ (fun _ => ⟨kx6, kp6, trivial⟩) ?_
        clear hK K hrun
        refine wpSched_loud rfl (fun K hK => ?_)
        obtain ⟨va, vn, vc, rfl⟩ := hrow.shape
        have ep6 := kp6.cell
        have fp6 := kp6.frozen
        replace hpvB : Hid (∀ _, _) := hpvB
        replace hpw : Hid (_ ≤ _) := hpw
        go_wp2
        refine hK.out _ _ (fun h => absurd rfl h) ?_
        clear hK K ep6 fp6
        refine wpSched_nil ?_
        have hm : Mod (fun k => k = pb ∨ pv.ownBlock = some k) W (w6.setCell ⟨pb, 0, none⟩ (.slice va vn vc)) :=
          ((Mod.of_below (fun k => k = pb ∨ pv.ownBlock = some k) hb5).trans (Mod.grown hgr (fun k h => .inr h)) (fun _ _ e => e) (fun _ _ e => e)).thenSet (p := ⟨pb, 0, none⟩) (.inl rfl) _
        have hb6 : ∀ k, k < w5.heap.size → pv.ownBlock ≠ some k → k ≠ pb → (w6.setCell ⟨pb, 0, none⟩ (.slice va vn vc)).heap[k]? = w5.heap[k]? := fun k hk h1 h2 => (Below.heap_setCell _ _ _ _ h2).trans (hgr.block k hk (fun e => h1 e.symm))
        refine ⟨⟨hfr.mod hm (fun k hk h => ?_), ?_, ?_, ?_, ?_, _, kp6.set _, ?_, ?_⟩, Saves.of_mod hm (fun k hk hX h => ?_)⟩
        · rcases h with h | h
          · exact .inl h
          · rcases (hpvB.out k h).2.2.2.2 with h2 | h2
            · exact .inr (.inr h2)
            · omega
        · exact (kc'.call hb5).kept (hb6 _ (kc'.call hb5).lt (fun e => (by have := (hpvB.out _ e).2.2.2.2; have := hfr.2.size; omega)) (by omega))
        · have := (List.getElem?_eq_some_iff.1 hnx).1; omega
        · intro y hy
          rw [List.take_add_one, hnx] at hy
          rcases List.mem_append.1 hy with h | h
          · exact hrt y h
          · simp at h; rw [h]; exact hr
        · exact (kr'.call hb5).kept (hb6 _ (kr'.call hb5).lt (fun e => (hpvB.out _ e).2.1 rfl) (by omega))
        · rw [hpt.out, texts_append, List.length_append, hts.out]
          exact Row.kept (w := w6) hrow (fun g hg => Below.heap_setCell _ _ _ _ (show g ≠ pb from fun e => by
            rw [hg] at hown
            rcases hown with h | h
            · exact (hpvB.out g h.symm).1 e
            · have := kp5.lt; simp at h; omega))
        · intro g hg
          rw [hg] at hown
          rcases hown with h | h
          · exact ⟨(hpvB.out g h.symm).2.2.2.2, (hpvB.out g h.symm).2.2.2.1⟩
          · simp at h
            have h1 := hfr.2.size
            have h2 := hb5.size
            exact ⟨.inr (by omega), fun hX => by have := (hfr.1 g hX).2; omega⟩
        · have := hfr.1 k hX
          rcases h with h | h
          · omega
          · exact (hpvB.out k h).2.2.2.1 hX
    case done =>
      rintro D k X W hD hXD hfin ⟨hfr, kc', hk, hrt, kr', pv, kp', kw', hn⟩ hdef
      obtain rfl : k = l.length := hfin
      rw [List.take_length] at hrt kw'
      have hall : l.all rightM = true := List.all_eq_true.2 hrt
      have hp : packP l = ([UInt8.ofNat (l.length % 256)] ++ l.flatMap msgBytes, 0) := by unfold packP; rw [if_neg h64, if_pos hall]
      have hpl : plen (packTexts l.length l) (packTexts l.length l).length ≤ 1073741824 := by
        unfold plen
        rw [List.take_length, packTexts_flat]
        have := msgBytes_len l hrt
        simp only [List.length_append, List.length_singleton]
        omega
      have hpn : (packTexts l.length l).length ≤ 1000000 := by
        have h2 := msgTexts_len l
        simp only [packTexts, List.length_cons, h2]
        omega
      have hj := idsJoin_any pv (packTexts l.length l) W kw'.src (by simp [packTexts]) hpn hpl
      rw [packTexts_flat] at hj
      have er := kr'.cell
      have ep := kp'.cell
      have hbW : Below w.heap.size w W := hb0.trans (hfr.below (by omega) (fun k h => by omega))
      replace hp : Hid (_ = _) := hp
      clear hall hpl hpn hrt
      replace hj : Hid (Calls _ _ _ _ _) := hj
      go_wp2_with (go_at_call 63; refine hj.out.mono ?_; rintro e w2 ⟨rfl, hb2⟩)
      rw [Exit.noGoto_ret]
      refine end_mark1 (D := D) (v := .tuple #[.string (bs ([UInt8.ofNat (l.length % 256)] ++ l.flatMap msgBytes)), .int .i64 0]) ((hb2.block D (Array.getElem?_eq_some_iff.1 hdef).1).trans hdef) (by simp [results, Tryz.results34, go_sem]) ⟨by rw [hp.out], below_putObj (hbW.trans (hb2.mono hbW.size)) (by omega) _⟩
    case stop =>
      rintro D c X W hD hXD ⟨rfl, hx, hfr, kr'⟩ hdef
      have hp : packP l = ([], 100) := by
        obtain ⟨x, hx1, hx2⟩ := hx
        have : ¬ l.all rightM = true := fun h => by have := List.all_eq_true.1 h x hx1; rw [hx2] at this; cases this
        unfold packP; rw [if_neg h64, if_neg this]
      have er := kr'.cell
      have hbW : Below w.heap.size w W := hb0.trans (hfr.below (by omega) (fun k h => by omega))
      replace hp : Hid (_ = _) := hp
      clear hx
      go_wp2
      rw [Exit.noGoto_ret]
      refine end_mark1 (D := D) (v := .tuple #[.string (bs []), .int .i64 100]) hdef (by simp [results, Tryz.results34, go_sem, bs]) ⟨by rw [hp.out], below_putObj hbW (by omega) _⟩
end Go.Proofs.YtaopeioebpfdeaaGreatDoor
namespace Go.Proofs.YtaopeioebpfdeaaGreatDoor
open Go Go.RowKit Go.Shelf Go.Extern.Stop Go.Stop Go.Extern Go.Lib
attribute [local go_sem] Oper.semAt_some wide_fn wide_depth

/-- An entry's value; its messages. -/
def entV (e : EntryD) (mv : Value) : Value := .agg #[.int .i64 e.kind, .int .u32 e.epoch, .int .i64 e.ver, mv]
abbrev MsgsAt (w : World) (mv : Value) (l : List MsgD) : Prop := Src w mv 3 l.length (l.flatMap msgCells)
theorem Src.shape {w : World} {v : Value} {size n : Nat} {xs : List Value} (h : Src w v size n xs) : ∃ a c, v = .slice a n c := by
  rcases h.2 with ⟨rfl, rfl⟩ | ⟨b, off, cap, rfl, -⟩
  · exact ⟨_, _, rfl⟩
  · exact ⟨_, _, rfl⟩

set_option maxHeartbeats 1000000 in
theorem shaped_any (e : EntryD) (mv : Value) (w : World) (hm : MsgsAt w mv e.msgs) : Calls Tryz.prog 112 #[entV e mv] w fun r w' => r = .returned (.bool (shapedP e)) ∧ Below w.heap.size w w' := by
  obtain ⟨kind, epoch, ver, msgs⟩ := e
  obtain ⟨a, c, rfl⟩ := hm.shape
  clear hm
  obtain ⟨R, hR⟩ : ∃ R, shapedP ⟨kind, epoch, ver, msgs⟩ = R := ⟨_, rfl⟩
  rw [hR]
  unfold shapedP at hR
  unfold entV
  simp only at hR ⊢
  by_cases h1 : kind = 1
  · rw [if_pos h1] at hR
    subst h1
    subst hR
    have t1 : (ver == 0) = decide (ver = 0) := rfl
    go_enter Tryz.func112, Tryz.ntmps112
    go_wp2
    go_ret
    exact ⟨by rw [← t1]; rfl, by (repeat (first | exact Below.refl _ _ | with_reducible assumption | refine pb_alloc ?_ _ | refine pb_drew ?_ | refine pb_drewN ?_ _ | refine pb_set ?_ (by simp; try omega) _ | refine pb_trans ?_ (by with_reducible assumption)))⟩
  · have t1 : (kind == 1) = false := by simpa using h1
    rw [if_neg h1] at hR
    by_cases h2 : kind = 2
    · rw [if_pos h2] at hR
      subst h2
      by_cases hl : msgs.length = 0
      · have t2 : ((msgs.length : Int) == 0) = true := by rw [hl]; rfl
        by_cases hv0 : 0 ≤ ver
        · have t3 : decide (0 ≤ ver) = true := by simpa using hv0
          by_cases hv1 : ver ≤ 255
          · have t4 : decide (ver ≤ 255) = true := by simpa using hv1
            have hr : R = true := by rw [← hR]; simp [hl, hv0, hv1]
            subst hr
            clear hR hl hv0 hv1 h1 t1
            go_enter Tryz.func112, Tryz.ntmps112
            go_wp2
            go_ret
            exact ⟨rfl, by (repeat (first | exact Below.refl _ _ | with_reducible assumption | refine pb_alloc ?_ _ | refine pb_drew ?_ | refine pb_drewN ?_ _ | refine pb_set ?_ (by simp; try omega) _ | refine pb_trans ?_ (by with_reducible assumption)))⟩
          · have t4 : decide (ver ≤ 255) = false := by simpa using hv1
            have hr : R = false := by rw [← hR]; simp [hv1]
            subst hr
            clear hR hl hv0 hv1 h1 t1
            go_enter Tryz.func112, Tryz.ntmps112
            go_wp2
            go_ret
            exact ⟨rfl, by (repeat (first | exact Below.refl _ _ | with_reducible assumption | refine pb_alloc ?_ _ | refine pb_drew ?_ | refine pb_drewN ?_ _ | refine pb_set ?_ (by simp; try omega) _ | refine pb_trans ?_ (by with_reducible assumption)))⟩
        · have t3 : decide (0 ≤ ver) = false := by simpa using hv0
          have hr : R = false := by rw [← hR]; simp [hv0]
          subst hr
          clear hR hl hv0 h1 t1
          go_enter Tryz.func112, Tryz.ntmps112
          go_wp2
          go_ret
          exact ⟨rfl, by (repeat (first | exact Below.refl _ _ | with_reducible assumption | refine pb_alloc ?_ _ | refine pb_drew ?_ | refine pb_drewN ?_ _ | refine pb_set ?_ (by simp; try omega) _ | refine pb_trans ?_ (by with_reducible assumption)))⟩
      · have t2 : ((msgs.length : Int) == 0) = false := by simp; intro h; exact hl (by simp [h])
        have hr : R = false := by rw [← hR]; simp [hl]
        subst hr
        clear hR hl h1 t1
        go_enter Tryz.func112, Tryz.ntmps112
        go_wp2
        go_ret
        exact ⟨rfl, by (repeat (first | exact Below.refl _ _ | with_reducible assumption | refine pb_alloc ?_ _ | refine pb_drew ?_ | refine pb_drewN ?_ _ | refine pb_set ?_ (by simp; try omega) _ | refine pb_trans ?_ (by with_reducible assumption)))⟩
    · have t2 : (kind == 2) = false := by simpa using h2
      rw [if_neg h2] at hR
      by_cases h3 : kind = 3
      · rw [if_pos h3] at hR
        subst h3
        by_cases hl : msgs.length = 0
        · have t3 : ((msgs.length : Int) == 0) = true := by rw [hl]; rfl
          have hr : R = (ver == 0) := by rw [← hR]; simp [hl]; rfl
          subst hr
          clear hR hl h1 h2 t1 t2
          go_enter Tryz.func112, Tryz.ntmps112
          go_wp2
          go_ret
          exact ⟨rfl, by (repeat (first | exact Below.refl _ _ | with_reducible assumption | refine pb_alloc ?_ _ | refine pb_drew ?_ | refine pb_drewN ?_ _ | refine pb_set ?_ (by simp; try omega) _ | refine pb_trans ?_ (by with_reducible assumption)))⟩
        · have t3 : ((msgs.length : Int) == 0) = false := by simp; intro h; exact hl (by simp [h])
          have hr : R = false := by rw [← hR]; simp [hl]
          subst hr
          clear hR hl h1 h2 t1 t2
          go_enter Tryz.func112, Tryz.ntmps112
          go_wp2
          go_ret
          exact ⟨rfl, by (repeat (first | exact Below.refl _ _ | with_reducible assumption | refine pb_alloc ?_ _ | refine pb_drew ?_ | refine pb_drewN ?_ _ | refine pb_set ?_ (by simp; try omega) _ | refine pb_trans ?_ (by with_reducible assumption)))⟩
      · have t3 : (kind == 3) = false := by simpa using h3
        rw [if_neg h3] at hR
        subst hR
        clear h1 h2 h3
        go_enter Tryz.func112, Tryz.ntmps112
        go_wp2
        go_ret
        exact ⟨rfl, by (repeat (first | exact Below.refl _ _ | with_reducible assumption | refine pb_alloc ?_ _ | refine pb_drew ?_ | refine pb_drewN ?_ _ | refine pb_set ?_ (by simp; try omega) _ | refine pb_trans ?_ (by with_reducible assumption)))⟩

set_option maxRecDepth 8000 in
theorem small_any (n : Int) (w : World) : Calls Tryz.prog 114 #[.int .i64 n] w fun r w' => r = .returned (.string (bs [UInt8.ofNat (n % 256).toNat])) ∧ Below w.heap.size w w' := by
  have hcv := run_convert_bytes_arg (P := Tryz.prog) (w.alloc (.cells #[.int .u8 (n % 256)] 5)) 87 5 Tryz.underlying87 Tryz.underlying5 w.heap.size 0 1 1 [n % 256] rfl (fun i hi => by obtain rfl : i = 0 := (by omega); simp) 9 Tryz.underlying9
  have hs : strOfNums [n % 256] = bs [UInt8.ofNat (n % 256).toNat] := by
    unfold strOfNums bs; simp
  rw [hs] at hcv
  clear hs
  go_enter Tryz.func114, Tryz.ntmps114
  go_wp2
  go_ret
  exact ⟨rfl, by (repeat (first | exact Below.refl _ _ | with_reducible assumption | refine pb_alloc ?_ _ | refine pb_drew ?_ | refine pb_drewN ?_ _ | refine pb_set ?_ (by simp; try omega) _ | refine pb_trans ?_ (by with_reducible assumption)))⟩
theorem join4 (a b c d : List UInt8) : Lib.join [a, b, c, d] [] = a ++ b ++ c ++ d := by simp [Lib.join, List.intercalate]
/-- epoch.joined over four texts that lie in one block. -/
theorem joined4_any (bk : Nat) (x y z u : List UInt8) (w : World) (hk : Blk w bk #[.string (bs x), .string (bs y), .string (bs z), .string (bs u)] 9) (hl : (x ++ y ++ z ++ u).length ≤ 140737488355328) :
    Calls Tryz.prog 113 #[.slice (some ⟨bk, 0, none⟩) 4 4] w fun e w' => e = .returned (.string (bs (x ++ y ++ z ++ u))) ∧ Below w.heap.size w w' := by
  have hj := Tryz.strings_Join bk 0 4 [bs x, bs y, bs z, bs u] ⟨#[]⟩ w (fun j t hz => by
    have hc := hk.cell j
    rw [Nat.zero_add, hc]
    obtain rfl | rfl | rfl | rfl | h : j = 0 ∨ j = 1 ∨ j = 2 ∨ j = 3 ∨ 4 ≤ j := by omega
    · simp at hz; subst hz; rfl
    · simp at hz; subst hz; rfl
    · simp at hz; subst hz; rfl
    · simp at hz; subst hz; rfl
    · rw [List.getElem?_eq_none (by simpa using h)] at hz; cases hz) hk.lt (by simp) (by simp) (by
      simp only [List.map_cons, List.map_nil, bs_data]
      rw [join4]; omega)
  simp only [List.map_cons, List.map_nil, bs_data] at hj
  rw [join4] at hj
  replace hj : Hid (Calls _ _ _ _ _) := hj
  clear hk hl
  go_enter Tryz.func113, Tryz.ntmps113
  go_wp2_with (go_at_call 66; refine hj.out.mono ?_; rintro e w' ⟨rfl, hb⟩)
  go_ret
  exact ⟨by simp [bs], hb⟩

theorem packP_len (l : List MsgD) : (packP l).1.length ≤ 65000 := by
  unfold packP
  split
  · simp
  · split
    · rename_i h1 h2
      have := msgBytes_len l (List.all_eq_true.1 h2)
      simp only [List.length_append, List.length_singleton]
      omega
    · simp
set_option maxRecDepth 8000 in
set_option maxHeartbeats 1000000 in
theorem encode_any (e : EntryD) (mv : Value) (w : World) (hm : MsgsAt w mv e.msgs) (hl : e.msgs.length ≤ 1073741824) : Calls Tryz.prog 79 #[entV e mv] w fun r w' =>
    r = .returned (.tuple #[.string (bs (encodeP e).1), .int .i64 (encodeP e).2]) ∧ Below w.heap.size w w' := by
  obtain ⟨R, hR⟩ : ∃ R, encodeP e = R := ⟨_, rfl⟩
  rw [hR]
  unfold encodeP at hR
  have hsh := shaped_any e mv
  have hpk := pack_any mv e.msgs
  unfold entV at hsh ⊢
  replace hsh : Hid (∀ _, _) := hsh
  replace hpk : Hid (∀ _, _) := hpk
  replace hm : Hid (Src _ _ _ _ _) := hm
  cases h1 : shapedP e
  · rw [if_pos h1] at hR
    subst hR
    go_enter Tryz.func79, Tryz.ntmps79
    go_wp2_with (go_at_call 112; refine (hsh.out _ (hm.out.below (by (repeat (first | exact Below.refl _ _ | with_reducible assumption | refine pb_alloc ?_ _ | refine pb_drew ?_ | refine pb_drewN ?_ _ | refine pb_set ?_ (by simp; try omega) _ | refine pb_trans ?_ (by with_reducible assumption)))))).mono ?_; rintro r w1 ⟨rfl, hb1⟩; rw [h1])
    go_ret2
    exact ⟨rfl, by (repeat (first | exact Below.refl _ _ | with_reducible assumption | refine pb_alloc ?_ _ | refine pb_drew ?_ | refine pb_drewN ?_ _ | refine pb_set ?_ (by simp; try omega) _ | refine pb_trans ?_ (by with_reducible assumption)))⟩
  · rw [if_neg (by simp [h1])] at hR
    by_cases hp0 : (packP e.msgs).2 = 0
    · rw [if_neg (by simpa using hp0)] at hR
      have t2 : ((packP e.msgs).2 != 0) = false := by simpa using hp0
      clear hp0
      go_enter Tryz.func79, Tryz.ntmps79
      go_wp2_with (first
        | (go_at_call 112; refine (hsh.out _ (hm.out.below (by (repeat (first | exact Below.refl _ _ | with_reducible assumption | refine pb_alloc ?_ _ | refine pb_drew ?_ | refine pb_drewN ?_ _ | refine pb_set ?_ (by simp; try omega) _ | refine pb_trans ?_ (by with_reducible assumption)))))).mono ?_; rintro r w1 ⟨rfl, hb1⟩; rw [h1]
           have kb : Blk w1 w.heap.size #[.int .i64 e.kind, .int .u32 e.epoch, .int .i64 e.ver, mv] 65 := Blk.call (by (repeat (first | with_reducible assumption | (refine Blk.new ?_; simp; done) | refine Blk.alloc ?_ _ | refine Blk.drew ?_ | refine Blk.drewN ?_ _ | refine Blk.call ?_ (by with_reducible assumption)))) hb1
           have ke := kb.cell)
        | (go_at_call 34; refine (hpk.out _ (hm.out.below (by (repeat (first | exact Below.refl _ _ | with_reducible assumption | refine pb_alloc ?_ _ | refine pb_drew ?_ | refine pb_drewN ?_ _ | refine pb_set ?_ (by simp; try omega) _ | refine pb_trans ?_ (by with_reducible assumption))))) hl).mono ?_; rintro r w2 ⟨rfl, hb2⟩))
      have k2 := (kb.call hb2).drew
      have hbw : Below w.heap.size w w2.drew := by (repeat (first | exact Below.refl _ _ | with_reducible assumption | refine pb_alloc ?_ _ | refine pb_drew ?_ | refine pb_drewN ?_ _ | refine pb_set ?_ (by simp; try omega) _ | refine pb_trans ?_ (by with_reducible assumption)))
      clear ke t2 kb
      generalize hpp : (packP e.msgs).1 = pp at *
      replace hpp : Hid (_ = _) := hpp
      refine wp_region_sched [(0, true), (1, true), (3, true), (4, true), (6, true), (7, true), (9, true), (2, false), (5, false), (8, false), (10, false), (11, false), (12, true)] none (fun w' => Blk w' w.heap.size #[.int .i64 e.kind, .int .u32 e.epoch, .int .i64 e.ver, mv] 65 ∧ True) (by kernel_rfl) (by kernel_rfl) ⟨k2, trivial⟩ ?_
      (repeat (refine wpSched_quiet (v := ?_) rfl rfl (fun w' hS => ?_) (fun K hK => ?_); rotate_left; (focus ((try have e1 := hS.1.cell); (try have e2 := hS.2.1.cell); (try have e3 := hS.2.2.1.cell); (try have e4 := hS.2.2.2.1.cell); (try have f1 := hS.1); (try have f2 := hS.2.1); (try have f3 := hS.2.2.1); (try have f4 := hS.2.2.2.1); (try have f5 := hS.2.2.2.2.1); clear hS; go_simp; (try with_reducible rfl))); (go_simp; refine hK _ ?_; clear hK K)))
      refine wpSched_loud rfl (fun K hK => ?_)
      go_wp2_with (go_at_call 114; refine (small_any _ _).mono ?_; rintro r w3 ⟨rfl, hb3⟩)
      have k3 := k2.call hb3
      refine hK.out _ _ (fun _ => ⟨k3, trivial⟩) ?_
      clear hK K
      refine wpSched_loud rfl (fun K hK => ?_)
      go_wp2_with (go_at_call 62; refine (put_any _ _).mono ?_; rintro r w4 ⟨rfl, hb4⟩)
      have k4 := k3.call hb4
      refine hK.out _ _ (fun _ => ⟨k4, trivial⟩) ?_
      clear hK K
      refine wpSched_loud rfl (fun K hK => ?_)
      go_wp2_with (go_at_call 114; refine (small_any _ _).mono ?_; rintro r w5 ⟨rfl, hb5⟩)
      have k5 := k4.call hb5
      refine hK.out _ _ (fun _ => ⟨k5, trivial⟩) ?_
      clear hK K
      refine wpSched_loud rfl (fun K hK => ?_)
      go_wp2
      have k6 := k5.alloc (.cells #[.string (bs [UInt8.ofNat (e.kind % 256).toNat]), .string (bs (le4 e.epoch)), .string (bs [UInt8.ofNat (e.ver % 256).toNat]), .string (bs pp)] 9)
      refine hK.out _ _ (fun _ => ⟨k6, trivial⟩) ?_
      clear hK K
      refine wpSched_loud rfl (fun K hK => ?_)
      go_wp2_with (go_at_call 113; refine (joined4_any _ _ _ _ _ _ (Blk.new rfl) ?_).mono ?_)
      · have := packP_len e.msgs
        rw [hpp.out] at this
        simp only [List.length_append, List.length_singleton, le4_length]
        omega
      rintro r w6 ⟨rfl, hb6⟩
      generalize ([UInt8.ofNat (e.kind % 256).toNat] ++ le4 e.epoch ++ [UInt8.ofNat (e.ver % 256).toNat] ++ pp) = full at *
      have hfs := bs_size full
      go_wp2
      refine hK.out _ _ (fun _ => ⟨k6.call hb6, trivial⟩) ?_
      clear hK K
      (repeat (refine wpSched_quiet (v := ?_) rfl rfl (fun w' hS => ?_) (fun K hK => ?_); rotate_left; (focus ((try have e1 := hS.1.cell); (try have e2 := hS.2.1.cell); (try have e3 := hS.2.2.1.cell); (try have e4 := hS.2.2.2.1.cell); (try have f1 := hS.1); (try have f2 := hS.2.1); (try have f3 := hS.2.2.1); (try have f4 := hS.2.2.2.1); (try have f5 := hS.2.2.2.2.1); clear hS; go_simp; (try with_reducible rfl))); (go_simp; refine hK _ ?_; clear hK K)))
      refine wpSched_nil ?_
      have hbw6 : Below w.heap.size w w6 := pb_trans (pb_alloc (pb_trans (pb_trans (pb_trans hbw hb3) hb4) hb5) _) hb6
      clear hb6 hb5 hb4 hb3 k2 k3 k4 k5 k6
      by_cases hlen : 4000 < full.length
      · rw [if_pos hlen] at hR
        subst hR
        have t4 : decide (4000 < ((bs full).size : Int)) = true := by rw [hfs]; simp; omega
        clear hlen hfs
        go_wp2
        go_ret2
        exact ⟨rfl, hbw6⟩
      · rw [if_neg hlen] at hR
        subst hR
        have t4 : decide (4000 < ((bs full).size : Int)) = false := by rw [hfs]; simp; omega
        clear hlen hfs
        go_wp2
        go_ret2
        exact ⟨rfl, hbw6⟩
    · rw [if_pos hp0] at hR
      subst hR
      have t2 : ((packP e.msgs).2 != 0) = true := by simpa using hp0
      clear hp0
      go_enter Tryz.func79, Tryz.ntmps79
      go_wp2_with (first
        | (go_at_call 112; refine (hsh.out _ (hm.out.below (by (repeat (first | exact Below.refl _ _ | with_reducible assumption | refine pb_alloc ?_ _ | refine pb_drew ?_ | refine pb_drewN ?_ _ | refine pb_set ?_ (by simp; try omega) _ | refine pb_trans ?_ (by with_reducible assumption)))))).mono ?_; rintro r w1 ⟨rfl, hb1⟩; rw [h1]
           have kb : Blk w1 w.heap.size #[.int .i64 e.kind, .int .u32 e.epoch, .int .i64 e.ver, mv] 65 := Blk.call (by (repeat (first | with_reducible assumption | (refine Blk.new ?_; simp; done) | refine Blk.alloc ?_ _ | refine Blk.drew ?_ | refine Blk.drewN ?_ _ | refine Blk.call ?_ (by with_reducible assumption)))) hb1
           have ke := kb.cell)
        | (go_at_call 34; refine (hpk.out _ (hm.out.below (by (repeat (first | exact Below.refl _ _ | with_reducible assumption | refine pb_alloc ?_ _ | refine pb_drew ?_ | refine pb_drewN ?_ _ | refine pb_set ?_ (by simp; try omega) _ | refine pb_trans ?_ (by with_reducible assumption))))) hl).mono ?_; rintro r w2 ⟨rfl, hb2⟩))
      go_ret2
      exact ⟨rfl, by (repeat (first | exact Below.refl _ _ | with_reducible assumption | refine pb_alloc ?_ _ | refine pb_drew ?_ | refine pb_drewN ?_ _ | refine pb_set ?_ (by simp; try omega) _ | refine pb_trans ?_ (by with_reducible assumption)))⟩
theorem right_eq (e : EntryD) : rightE e = ((encodeP e).2 == 0) := rfl
set_option maxHeartbeats 1000000 in
theorem rightE_any (e : EntryD) (mv : Value) (w : World) (hm : MsgsAt w mv e.msgs) (hl : e.msgs.length ≤ 1073741824) : Calls Tryz.prog 158 #[entV e mv] w fun r w' =>
    r = .returned (.bool (rightE e)) ∧ Below w.heap.size w w' := by
  rw [right_eq]
  have hen := encode_any e mv
  unfold entV at hen ⊢
  replace hen : Hid (∀ _, _) := hen
  replace hm : Hid (Src _ _ _ _ _) := hm
  go_enter Tryz.func158, Tryz.ntmps158
  go_wp2_with (go_at_call 79; refine (hen.out _ (hm.out.below (by (repeat (first | exact Below.refl _ _ | with_reducible assumption | refine pb_alloc ?_ _ | refine pb_drew ?_ | refine pb_drewN ?_ _ | refine pb_set ?_ (by simp; try omega) _ | refine pb_trans ?_ (by with_reducible assumption))))) hl).mono ?_; rintro r w1 ⟨rfl, hb1⟩)
  go_ret
  exact ⟨rfl, by (repeat (first | exact Below.refl _ _ | with_reducible assumption | refine pb_alloc ?_ _ | refine pb_drew ?_ | refine pb_drewN ?_ _ | refine pb_set ?_ (by simp; try omega) _ | refine pb_trans ?_ (by with_reducible assumption)))⟩
end Go.Proofs.YtaopeioebpfdeaaGreatDoor
