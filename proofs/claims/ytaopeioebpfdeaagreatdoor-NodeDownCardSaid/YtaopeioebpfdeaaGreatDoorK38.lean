/- PROVED HERE: WALKS: node's Next, Learn. Condition: the node is one that calls have made, with no bad versions. WALK: node's replay. Condition: the node is one that calls have made, with no bad versions. WALK: node's Recover. Condition: the node is one that calls have made, with no bad versions; the registry's error variable holds its error. -/
import Derived.Test.YtaopeioebpfdeaaGreatDoorK21
import Derived.Test.YtaopeioebpfdeaaGreatDoorK37
namespace Go.Proofs.YtaopeioebpfdeaaGreatDoor
open Go Go.RowKit Go.Shelf Go.Extern.Stop Go.Stop Go.Extern
attribute [local go_sem] Oper.semAt_some wide_fn wide_depth

theorem learnP_err {p : PaxS} {i : Int} {x : List UInt8} (h : (learnP p i x).2.2 ≠ 0) : (learnP p i x).1 = p := by
  unfold learnP at *
  split at h
  · rename_i h0; rw [if_pos h0]
  · rename_i h0; rw [if_neg h0]
    split at h
    · rename_i y hy
      split at h
      · rename_i h2; simp only [if_pos h2]
      · simp at h
    · simp at h
theorem learnP_len (p : PaxS) (i : Int) (x : List UInt8) : (learnP p i x).2.1.length ≤ 5000 := by
  unfold learnP
  split
  · simp
  · rename_i h
    split
    · split <;> simp
    · simp only [recP, List.length_append, List.length_cons, le4_len]
      simp only [not_or] at h
      simp
      omega
/-- What a call that delivers comes to. -/
def GivePost (B : Nat) (t : List Nat) (ow : Own) (w : World) (R : NodeS × List MsgD × Int) (e : Ending) (w' : World) : Prop :=
  ∃ v ow', e = .returned (.tuple #[v, .int .i64 R.2.2]) ∧ Step t ow w ow' w' ∧ NodeAt B R.1 t ow' w' ∧ Row w' 34 3 v R.2.1.length (R.2.1.flatMap msgCells) ∧ (∀ g, v.ownBlock = some g → w.heap.size ≤ g ∧ ow' g = [])
set_option maxRecDepth 8000 in
set_option maxHeartbeats 1000000 in
theorem nLearn_any {px sb lb pb : Nat} {av : Value} (a : Addr) (B : Nat) (n : NodeS) (t : List Nat) (ht : t ≠ []) (ow : Own) (i : Int) (x : List UInt8) (hx : x.length ≤ 1000000) (w : World) (hN : NodeIs B px sb lb pb av n t ow w) (hcap : CapOk n.store)
    (he : ErrAt w a) (hge : ow 0 = []) (hb : LocalB n.loc n.applied) (hap0 : n.applied ≤ 10000) (hacc : n.acc.length ≤ 200000) (hkn : KnownOk n.pax.known) :
    Calls Tryz.prog 13 #[.pointer (some ⟨B, 0, none⟩), .int .i64 i, .string (bs x)] w (GivePost B t ow w (learnN n i x)) := by
  have hB := hN.blk
  have hr := nReady_any w hB
  have hlearn := fun W hW => pxLearn_any px n.pax (t ++ [0]) ow i x hx W hW
  have hln : learnN n i x = if n.down then (n, [], 170)
      else if (learnP n.pax i x).2.2 ≠ 0 then (n, [], (learnP n.pax i x).2.2)
      else if (learnP n.pax i x).2.1 = [] then ((applyN 10001 { n with pax := (learnP n.pax i x).1 }).1, (applyN 10001 { n with pax := (learnP n.pax i x).1 }).2, 0)
      else if (keepN { n with pax := (learnP n.pax i x).1 } true (learnP n.pax i x).2.1).2 ≠ 0 then ((keepN { n with pax := (learnP n.pax i x).1 } true (learnP n.pax i x).2.1).1, [], (keepN { n with pax := (learnP n.pax i x).1 } true (learnP n.pax i x).2.1).2)
      else ((applyN 10001 (keepN { n with pax := (learnP n.pax i x).1 } true (learnP n.pax i x).2.1).1).1, (applyN 10001 (keepN { n with pax := (learnP n.pax i x).1 } true (learnP n.pax i x).2.1).1).2, 0) := rfl
  have hlen := learnP_len n.pax i x
  have herr := @learnP_err n.pax i x
  have hkn2 := (learn_known (p := n.pax) i x).2.1 hkn
  have hlt := he.lt
  have hbad := hN.bad
  unfold nodeCells at hB
  unfold readyN at hr
  have e0 := hB.cell
  obtain ⟨⟨p', rc, er⟩, hcp⟩ : ∃ q, learnP n.pax i x = q := ⟨_, rfl⟩
  rw [hcp] at hlearn hln hlen herr hkn2
  unfold castE at hlearn
  simp only at hlearn hln hlen herr hkn2
  replace hcp : Hid (_ = _) := hcp
  replace hlearn : Hid (∀ _, _) := hlearn
  replace herr : Hid (_ → _) := herr
  replace he : Hid (ErrAt _ _) := he
  replace hlt : Hid (_ < _) := hlt
  replace hkn2 : Hid (KnownOk _) := hkn2
  by_cases hd : n.down = true
  · rw [if_pos hd] at hln
    rw [hd] at hr
    rw [hln]
    replace hln : Hid (_ = _) := hln
    replace hr : Hid (Calls _ _ _ _ _) := hr
    replace hd : Hid (_ = _) := hd
    go_enter Tryz.func13, Tryz.ntmps13
    go_wp2_with fail
    refine hr.out.mono ?_
    rintro e w1 ⟨rfl, hw1⟩
    obtain rfl := hw1.symm
    go_wp2
    go_ret2
    exact ⟨_, ow, rfl, Step.refl _ _ _, ⟨_, _, _, _, _, hN⟩, row_nil _ _ _, by simp [Value.ownBlock]⟩
  · have hd' : n.down = false := by simpa using hd
    rw [if_neg hd] at hln
    rw [hd'] at hr
    replace hr : Hid (Calls _ _ _ _ _) := hr
    replace hd : Hid (_ → _) := hd
    replace hd' : Hid (_ = _) := hd'
    by_cases her : er = 0
    · subst her
      rw [if_neg (by simp)] at hln
      by_cases hrc : rc = []
      · rw [if_pos hrc] at hln
        rw [hln]
        have t1 : (bs rc).toList.isEmpty = true := by rw [bs_toList, hrc]; rfl
        have hap := fun ow1 W h1 he1 hg1 => nApply_any a B { n with pax := p' } t ht ow1 W h1 he1 hg1 hb hap0 hacc hkn2.out hbad
        unfold EnterPost at hap
        replace hap : Hid (∀ _ _, _) := hap
        replace hln : Hid (_ = _) := hln
        replace hrc : Hid (_ = _) := hrc
        go_enter Tryz.func13, Tryz.ntmps13
        go_wp2_with fail
        refine hr.out.mono ?_
        rintro e w1 ⟨rfl, hw1⟩
        obtain rfl := hw1.symm
        go_wp2_with fail
        refine (hlearn.out _ hN.pax).mono ?_
        rintro e w1 ⟨rfl, ow1, hs1, h1⟩
        have hN1 := hN.setPax _ hs1 h1
        have hsA := hs1.mono (Sub.child t 0)
        have hsB := hsA
        go_wp2_with fail
        refine (hap.out ow1 w1 ⟨_,_,_,_,_,hN1⟩ (he.out.step ht hsB hge) (by rw [hsB.agree _ hlt.out]; exact hge)).mono ?_
        rintro e w5 ⟨v, ow5, rfl, hs5, hN5, hrow5, hnew5⟩
        have hsz := hsB.size
        replace hnew5 : Hid (∀ _, _) := hnew5
        replace hrow5 : Hid (Row _ _ _ _ _ _) := hrow5
        go_wp2
        go_ret2
        exact ⟨v, ow5, rfl, hsB.trans hs5, hN5, hrow5.out, fun g hg => ⟨Nat.le_trans hsz (hnew5.out g hg).1, (hnew5.out g hg).2⟩⟩
      · rw [if_neg hrc] at hln
        have t1 : (bs rc).toList.isEmpty = false := by rw [bs_toList]; cases rc with | nil => exact absurd rfl hrc | cons _ _ => rfl
        have hkp := fun ow1 w1 h1 W h2 kb kc g h3 h4 k0 k1 kg => keep_call B { n with pax := p' } t ht ow1 w1 h1 hcap true [rc] (by simp) (by simp) (by simp; omega) W h2 kb kc g h3 h4 k0 k1 kg
        rw [show [rc].flatten = rc by simp] at hkp
        unfold KeepPost at hkp
        have hap := fun ow1 W h1 he1 hg1 => nApply_any a B (keepN { n with pax := p' } true rc).1 t ht ow1 W h1 he1 hg1 hb hap0 hacc hkn2.out hbad
        unfold EnterPost at hap
        obtain ⟨⟨m, ek⟩, hm⟩ : ∃ R, keepN { n with pax := p' } true rc = R := ⟨_, rfl⟩
        rw [hm] at hkp hln hap
        simp only at hkp hln hap
        replace hkp : Hid (∀ _, _) := hkp
        replace hap : Hid (∀ _ _, _) := hap
        replace hm : Hid (_ = _) := hm
        replace hrc : Hid (_ → _) := hrc
        by_cases hek : ek = 0
        · subst hek
          rw [if_neg (by simp)] at hln
          rw [hln]
          replace hln : Hid (_ = _) := hln
          go_enter Tryz.func13, Tryz.ntmps13
          go_wp2_with fail
          refine hr.out.mono ?_
          rintro e w1 ⟨rfl, hw1⟩
          obtain rfl := hw1.symm
          go_wp2_with fail
          refine (hlearn.out _ hN.pax).mono ?_
          rintro e w1 ⟨rfl, ow1, hs1, h1⟩
          have hN1 := hN.setPax _ hs1 h1
          have hsA := hs1.mono (Sub.child t 0)
          go_wp2_with fail
          refine (keeper_any _ _ _).mono ?_
          rintro e w2 ⟨rfl, rfl⟩
          go_wp2_with fail
          refine (hkp.out ow1 w1 ⟨_, _, _, _, _, hN1⟩ (((w1.alloc (.cells #[.pointer (some ⟨B, 0, none⟩)] 26)).alloc (.cells #[.bool true] 4)).alloc (.cells #[.string (bs rc)] 9)) (by (repeat (first | exact Below.refl _ _ | with_reducible assumption | refine pb_alloc ?_ _ | refine pb_drew ?_ | refine pb_drewN ?_ _ | refine pb_set ?_ (by simp; try omega) _ | refine pb_trans ?_ (by with_reducible assumption)))) w1.heap.size (w1.heap.size + 1) _ (Nat.le_refl _) (by omega) (by (repeat (first | with_reducible assumption | (refine Blk.new ?_; simp; done) | refine Blk.alloc ?_ _ | refine Blk.drew ?_ | refine Blk.drewN ?_ _ | refine Blk.call ?_ (by with_reducible assumption)))) (by (repeat (first | with_reducible assumption | (refine Blk.new ?_; simp; done) | refine Blk.alloc ?_ _ | refine Blk.drew ?_ | refine Blk.drewN ?_ _ | refine Blk.call ?_ (by with_reducible assumption)))) (Blk.new (by simp))).mono ?_
          rintro e w3 ⟨rfl, ow3, hs3, hN3, -⟩
          have hsB := hsA.trans hs3
          go_wp2_with fail
          refine (hap.out ow3 w3 hN3 (he.out.step ht hsB hge) (by rw [hsB.agree _ hlt.out]; exact hge)).mono ?_
          rintro e w5 ⟨v, ow5, rfl, hs5, hN5, hrow5, hnew5⟩
          have hsz := hsB.size
          replace hnew5 : Hid (∀ _, _) := hnew5
          replace hrow5 : Hid (Row _ _ _ _ _ _) := hrow5
          go_wp2
          go_ret2
          exact ⟨v, ow5, rfl, hsB.trans hs5, hN5, hrow5.out, fun g hg => ⟨Nat.le_trans hsz (hnew5.out g hg).1, (hnew5.out g hg).2⟩⟩
        · rw [if_pos hek] at hln
          rw [hln]
          have t2 : (ek != 0) = true := by simpa using hek
          replace hln : Hid (_ = _) := hln
          replace hek : Hid (_ → _) := hek
          go_enter Tryz.func13, Tryz.ntmps13
          go_wp2_with fail
          refine hr.out.mono ?_
          rintro e w1 ⟨rfl, hw1⟩
          obtain rfl := hw1.symm
          go_wp2_with fail
          refine (hlearn.out _ hN.pax).mono ?_
          rintro e w1 ⟨rfl, ow1, hs1, h1⟩
          have hN1 := hN.setPax _ hs1 h1
          have hsA := hs1.mono (Sub.child t 0)
          go_wp2_with fail
          refine (keeper_any _ _ _).mono ?_
          rintro e w2 ⟨rfl, rfl⟩
          go_wp2_with fail
          refine (hkp.out ow1 w1 ⟨_, _, _, _, _, hN1⟩ (((w1.alloc (.cells #[.pointer (some ⟨B, 0, none⟩)] 26)).alloc (.cells #[.bool true] 4)).alloc (.cells #[.string (bs rc)] 9)) (by (repeat (first | exact Below.refl _ _ | with_reducible assumption | refine pb_alloc ?_ _ | refine pb_drew ?_ | refine pb_drewN ?_ _ | refine pb_set ?_ (by simp; try omega) _ | refine pb_trans ?_ (by with_reducible assumption)))) w1.heap.size (w1.heap.size + 1) _ (Nat.le_refl _) (by omega) (by (repeat (first | with_reducible assumption | (refine Blk.new ?_; simp; done) | refine Blk.alloc ?_ _ | refine Blk.drew ?_ | refine Blk.drewN ?_ _ | refine Blk.call ?_ (by with_reducible assumption)))) (by (repeat (first | with_reducible assumption | (refine Blk.new ?_; simp; done) | refine Blk.alloc ?_ _ | refine Blk.drew ?_ | refine Blk.drewN ?_ _ | refine Blk.call ?_ (by with_reducible assumption)))) (Blk.new (by simp))).mono ?_
          rintro e w3 ⟨rfl, ow3, hs3, hN3, -⟩
          go_wp2
          go_ret2
          exact ⟨_, ow3, rfl, hsA.trans hs3, hN3, row_nil _ _ _, by simp [Value.ownBlock]⟩
    · rw [if_pos her] at hln
      rw [hln]
      have t1 : (er != 0) = true := by simpa using her
      have hp' := herr.out her
      subst hp'
      replace hln : Hid (_ = _) := hln
      replace her : Hid (_ → _) := her
      go_enter Tryz.func13, Tryz.ntmps13
      go_wp2_with fail
      refine hr.out.mono ?_
      rintro e w1 ⟨rfl, hw1⟩
      obtain rfl := hw1.symm
      go_wp2_with fail
      refine (hlearn.out _ hN.pax).mono ?_
      rintro e w1 ⟨rfl, ow1, hs1, h1⟩
      have hN1 := hN.setPax _ hs1 h1
      have hsA := hs1.mono (Sub.child t 0)
      go_wp2
      go_ret2
      exact ⟨_, ow1, rfl, hsA, ⟨_, _, _, _, _, hN1⟩, row_nil _ _ _, by simp [Value.ownBlock]⟩
set_option maxRecDepth 8000 in
set_option maxHeartbeats 1000000 in
theorem nNext_any {px sb lb pb : Nat} {av : Value} (B : Nat) (n : NodeS) (t : List Nat) (ht : t ≠ []) (ow : Own) (w : World) (hN : NodeIs B px sb lb pb av n t ow w) (hap0 : n.applied ≤ 10000) (hkn : KnownOk n.pax.known) :
    Calls Tryz.prog 27 #[.pointer (some ⟨B, 0, none⟩)] w fun e w' => e = .returned (.int .i64 (nextN n : Nat)) ∧ Below w.heap.size w w' := by
  have hB := hN.blk
  have hn := nNil_any w hB
  unfold nodeCells at hB
  have e0 := hB.cell
  have hwa : IntKind.i64.wrap ((n.applied : Int) + 1) = (n.applied : Int) + 1 := by rw [IntKind.wrap_i64]; omega
  replace hn : Hid (Calls _ _ _ _ _) := hn
  refine calls_of_wp_marks Tryz.func27 rfl ?_
  simp only [Tryz.ntmps27, List.size_toArray, List.length_cons, List.length_nil, Nat.reduceAdd, Nat.reduceSub, Array.replicate_succ, Array.replicate_zero, List.push_toArray, List.append_toArray, List.nil_append, List.cons_append]
  go_wp2_with fail
  refine hn.out.mono ?_
  rintro e w1 ⟨rfl, hw1⟩
  obtain rfl := hw1.symm
  have hNa := (NodeIs.loc B px sb lb pb av n t).cut hN ((Below.refl w.heap.size w).alloc (Nat.le_refl _) (.cells #[.int .i64 ((n.applied : Int) + 1)] 3))
  have hBa := hB.alloc (.cells #[.int .i64 ((n.applied : Int) + 1)] 3)
  have kNa : Blk (w.alloc (.cells #[.int .i64 ((n.applied : Int) + 1)] 3)) w.heap.size #[.int .i64 ((n.applied : Int) + 1)] 3 := Blk.new (by simp)
  have hfb := (Below.refl w.heap.size w).alloc (Nat.le_refl _) (.cells #[.int .i64 ((n.applied : Int) + 1)] 3)
  go_wp2_with fail
  obtain ⟨Wa, hWa⟩ : ∃ Wa, Wa = w.alloc (.cells #[.int .i64 ((n.applied : Int) + 1)] 3) := ⟨_, rfl⟩
  have hza : Wa.heap.size = w.heap.size + 1 := by rw [hWa]; simp
  rw [← hWa] at hNa hBa kNa hfb ⊢
  clear hWa e0
  refine wp_region_sched [(0, true), (1, true), (2, true), (3, true), (4, false)] none (fun w' => Blk w' w.heap.size #[.int .i64 ((n.applied : Int) + 1)] 3 ∧ True) (by kernel_rfl) (by kernel_rfl) ⟨kNa.drew, trivial⟩ ?_
  (repeat (refine wpSched_quiet (v := ?_) rfl rfl (fun w' hS => ?_) (fun K hK => ?_); rotate_left; (focus ((try have e1 := hS.1.cell); (try have e2 := hS.2.1.cell); (try have e3 := hS.2.2.1.cell); (try have e4 := hS.2.2.2.1.cell); (try have f1 := hS.1); (try have f2 := hS.2.1); (try have f3 := hS.2.2.1); (try have f4 := hS.2.2.2.1); (try have f5 := hS.2.2.2.2.1); clear hS; go_simp; (try with_reducible rfl))); (go_simp; refine hK _ ?_; clear hK K)))
  refine wpSched_loud rfl (fun K hK => ?_)
  go_wp2_with fail
  refine (learned_any B _ _).mono ?_
  rintro r w1 ⟨rfl, rfl⟩
  obtain ⟨W0, hW0⟩ : ∃ W0, W0 = ((Wa.alloc (.cells #[.pointer (some ⟨B, 0, none⟩)] 156)).alloc (.cells #[.int .i64 ((n.applied : Int) + 1)] 3)).drew := ⟨_, rfl⟩
  have hb0 : Below Wa.heap.size Wa W0 := by rw [hW0]; (repeat (first | exact Below.refl _ _ | with_reducible assumption | refine pb_alloc ?_ _ | refine pb_drew ?_ | refine pb_drewN ?_ _ | refine pb_set ?_ (by simp; try omega) _ | refine pb_trans ?_ (by with_reducible assumption)))
  have kQ0 : Blk W0 Wa.heap.size #[.pointer (some ⟨B, 0, none⟩)] 156 := by rw [hW0]; (repeat (first | with_reducible assumption | (refine Blk.new ?_; simp; done) | refine Blk.alloc ?_ _ | refine Blk.drew ?_ | refine Blk.drewN ?_ _ | refine Blk.call ?_ (by with_reducible assumption)))
  have kI0 : Blk W0 (Wa.heap.size + 1) #[.int .i64 ((n.applied : Int) + 1)] 3 := by rw [hW0]; (repeat (first | with_reducible assumption | (refine Blk.new ?_; simp; done) | refine Blk.alloc ?_ _ | refine Blk.drew ?_ | refine Blk.drewN ?_ _ | refine Blk.call ?_ (by with_reducible assumption)))
  have hz0 : W0.heap.size = w.heap.size + 3 := by rw [hW0]; simp [hza]
  have kN0 := kNa.call hb0
  rw [hza] at kQ0 kI0
  go_wp2
  rw [← hW0]
  refine hK.out _ _ (fun _ => ⟨kN0, trivial⟩) ?_
  clear hK K hW0
  refine wpSched_nil ?_
  have hI0 := (NodeIs.loc B px sb lb pb av n t).below hNa hb0
  have hnb : (ow.cut w) w.heap.size = [] := Own.cut_new (Nat.le_refl _)
  have hb00 : Below w.heap.size w W0 := hfb.trans (hb0.mono (by omega))
  have hnx : nextN n = nextAt n.pax.known 10001 (n.applied + 1) := rfl
  clear hB hBa kNa hN hNa hb0
  replace hwa : Hid (_ = _) := hwa
  replace hnx : Hid (_ = _) := hnx
  go_wp2_with fail
  refine wp_rangeVar (gf := 88) (lb := #[.pointer (some ⟨w.heap.size + 1 + 1, 0, none⟩), .pointer (some ⟨w.heap.size + 1, 0, none⟩)]) rfl (enters_of Tryz.func88 (by kernel_rfl) rfl)
      (learned_iter (w.heap.size + 1 + 1) (w.heap.size + 1) B n.pax (t ++ [0]) (n.applied + 1) (by omega) hkn) (fun _ => rfl)
      (fun k X W => Fr (fun j => j = w.heap.size) W0 X W ∧ Blk W w.heap.size #[.int .i64 (k : Nat)] 3 ∧ ∃ f, f + k = 10001 + (n.applied + 1) ∧ nextN n = nextAt n.pax.known f k)
      (fun _ _ _ => False)
      (fun k X X' W W' h hm hx => ⟨h.1.step hm hx, h.2.1.kept (h.1.block hm (by omega)), h.2.2⟩)
      (fun _ _ X X' W W' h hm hx => h)
      (fun k X W h => by
        refine ⟨kI0.mod h.1.2 (by omega), kQ0.mod h.1.2 (by omega), ?_⟩
        have hn := NodeIs.loc B px sb lb pb av n t _ (ow.cut w) _ W hI0 h.1.2.size (fun j hj hs => ⟨rfl, h.1.2.block j hj (fun e => by subst e; rw [hnb] at hs; exact not_sub_nil ht hs)⟩)
        exact ⟨px, _, hn.blk.cell 0, hn.pax⟩)
      ⟨Fr.refl _ _, kN0, 10001, rfl, hnx.out⟩
      (fun x => []) ?assign ?body ?done ?stop
  case assign =>
    intro l' x W K hK
    rw [laidIn_one] at hK ⊢
    gi_wp2
    exact hK
  case stop => rintro D c X W hD hXD h; exact h.elim
  case body =>
    rintro l' k x X W ⟨hfr, kN, f, hf, hne⟩ hnx2 hXl _
    rw [laidIn_one]
    have hk4 := hkn _ _ hnx2
    obtain ⟨f', rfl⟩ : ∃ f', f = f' + 1 := ⟨f - 1, by omega⟩
    have hw : IntKind.i64.wrap ((k : Int) + 1) = (k : Int) + 1 := by rw [IntKind.wrap_i64]; omega
    have eN := kN.cell
    have fN := kN.frozen
    have lN := kN.lt
    have hne2 : nextN n = nextAt n.pax.known f' (k + 1) := by rw [hne, nextAt, hnx2]; rfl
    have hm : Mod (fun j => j = w.heap.size) W (W.setCell ⟨w.heap.size, 0, none⟩ (.int .i64 ((k : Int) + 1))) := (Mod.refl (fun j => j = w.heap.size) W).thenSet (p := ⟨w.heap.size, 0, none⟩) rfl _
    replace hne : Hid (_ = _) := hne
    replace hne2 : Hid (_ = _) := hne2
    replace hnx2 : Hid (_ = _) := hnx2
    gi_wp2
    exact ⟨⟨hfr.mod hm (fun _ _ e => e), kN.set (o := 0) _, f', by omega, hne2.out⟩, Saves.of_mod hm (fun j hj hX e => by subst e; have := (hfr.1 _ hX).1; omega)⟩
  case done =>
    rintro D k X W hD hXD hfin ⟨hfr, kN, f, hf, hne⟩ hdef
    have hne2 : nextN n = k := by
      rw [hne]
      cases f with
      | zero => rfl
      | succ f => rw [nextAt, hfin]; rfl
    have hbW : Below w.heap.size w W := hb00.trans (hfr.below (by omega) (fun j hj => by omega))
    have eN := kN.cell
    replace hne : Hid (_ = _) := hne
    replace hne2 : Hid (_ = _) := hne2
    replace hfin : Hid (_ = _) := hfin
    go_wp2
    refine end_mark1 (D := D) (v := .int .i64 (k : Nat)) hdef (by simp [results, Tryz.results27, go_sem]) ?_
    rw [hne2.out]
    exact ⟨rfl, below_putObj hbW (by omega) _⟩
end Go.Proofs.YtaopeioebpfdeaaGreatDoor
namespace Go.Proofs.YtaopeioebpfdeaaGreatDoor
open Go Go.RowKit Go.Shelf Go.Extern.Stop Go.Stop Go.Extern
attribute [local go_sem] Oper.semAt_some wide_fn wide_depth

theorem bs_cons_get (k : UInt8) (d : List UInt8) (h : 0 < (bs (k :: d)).size) : (bs (k :: d))[0] = k := rfl
set_option maxRecDepth 8000 in
set_option maxHeartbeats 1000000 in
theorem nReplay_any {px sb lb pb : Nat} {av : Value} (B : Nat) (n : NodeS) (t : List Nat) (ow : Own) (r : List UInt8) (hl : r.length ≤ 1000000) (w : World) (hN : NodeIs B px sb lb pb av n t ow w) (hacc : n.acc.length ≤ 200000) :
    Calls Tryz.prog 48 #[.pointer (some ⟨B, 0, none⟩), .string (bs r)] w (NodePost B (replayN n r) t ow w (.tuple #[])) := by
  cases r with
  | nil =>
    have t1 : (bs []).toList.isEmpty = true := by rw [bs_toList]; rfl
    go_enter Tryz.func48, Tryz.ntmps48
    go_wp2
    exact bodyPost_ret (results_none rfl _ _ _) rfl ⟨rfl, ow, Step.refl _ _ _, _, _, _, _, _, hN⟩
  | cons k d =>
    have hB := hN.blk
    unfold nodeCells at hB
    have e0 := hB.cell
    have l0 := hB.lt
    have hsz := bs_size (k :: d)
    have t1 : (bs (k :: d)).toList.isEmpty = false := by rw [bs_toList]; rfl
    have hxd : (bs (k :: d)).extract 1 (bs (k :: d)).size = bs d := extract_drop (k :: d) 1
    have hrp : replayN n (k :: d) = if k = 109 ∧ (unpackP d).2 = 0 ∧ (unpackP d).1.length = 1 then { n with acc := n.acc ++ (unpackP d).1 } else { n with pax := replayP n.pax (k :: d) } := rfl
    have hx0 := fun h => bs_cons_get k d h
    have hk0 : 0 < (bs (k :: d)).size := by rw [hsz]; simp
    have b1 : (1 : Int) ≤ ((bs (k :: d)).size : Int) := by omega
    have hun := fun W => unpack_any d (by simp at hl; omega) W
    obtain ⟨⟨l, er⟩, hu⟩ : ∃ q, unpackP d = q := ⟨_, rfl⟩
    rw [hu] at hun hrp
    unfold UnpackPost at hun
    simp only at hun hrp
    replace hsz : Hid (_ = _) := hsz
    replace hun : Hid (∀ _, _) := hun
    replace hu : Hid (_ = _) := hu
    have hpx := fun W hW => pxReplay_any px n.pax (t ++ [0]) (by simp) ow (k :: d) hl W hW
    unfold ReplayPost at hpx
    replace hpx : Hid (∀ _, _) := hpx
    by_cases hk : k = 109
    · by_cases her : er = 0
      · by_cases hll : l.length = 1
        · rw [if_pos ⟨hk, her, hll⟩] at hrp
          rw [hrp]
          subst hk her
          have t4 : ((l.length : Int) == 1) = true := by simp [hll]
          replace hll : Hid (_ = _) := hll
          replace hrp : Hid (_ = _) := hrp
          go_enter Tryz.func48, Tryz.ntmps48
          go_wp2_with fail
          refine (hun.out _).mono ?_
          rintro e w1 ⟨v, rfl, hb1, hrow1, hnew1⟩
          have hN1 := (NodeIs.loc B px sb lb pb av n t).below hN hb1
          have hS1 := Step.of_below t ow hb1
          have hB1 := hB.call hb1
          have cB1 := hB1.cell
          have lB1 := hB1.lt
          have fB1 := hB1.frozen
          obtain ⟨va, vc, rfl⟩ := hrow1.src.shape
          replace hrow1 : Hid (Row _ _ _ _ _ _) := hrow1
          replace hnew1 : Hid (∀ _, _) := hnew1
          have hlen1 : n.acc.length + l.length ≤ 1073741824 := by rw [hll.out]; omega
          obtain ⟨v', W4, hrun, hrow4, hgr, hown⟩ := row_append msgT hN1.row hrow1.out.src (msgCells_one l) hlen1 42
          obtain ⟨na, nn, nc, rfl⟩ := hrow4.shape
          obtain ⟨aa, ac, rfl⟩ := hN1.row.src.shape
          obtain ⟨hs4, hN4⟩ := hN1.setAcc l hrow4 hgr hown
          have kB4 := hB1.kept (w' := W4) (hgr.block B lB1 (fun e => hN1.row.ne_blk hN1.blk (by decide) e.symm rfl))
          have cB4 := kB4.cell
          have fB4 := kB4.frozen
          have lB4 := kB4.lt
          replace hrow4 : Hid (Row _ _ _ _ _ _) := hrow4
          replace hown : Hid (_ ∨ _) := hown
          replace hlen1 : Hid (_ ≤ _) := hlen1
          replace hrun : Hid (_ = _) := hrun
          go_wp2_with (at_builtin
                       refine wpList_append_by rfl _ _ _ rfl rfl rfl hrun.out ?_)
          exact bodyPost_ret (results_none rfl _ _ _) rfl ⟨rfl, _, hS1.trans hs4, _, _, _, _, _, hN4⟩
        · rw [if_neg (fun h => hll h.2.2)] at hrp
          rw [hrp]
          subst hk her
          have t4 : ((l.length : Int) == 1) = false := by simp; omega
          replace hll : Hid (_ → _) := hll
          replace hrp : Hid (_ = _) := hrp
          go_enter Tryz.func48, Tryz.ntmps48
          go_wp2_with fail
          refine (hun.out _).mono ?_
          rintro e w1 ⟨v, rfl, hb1, hrow1, hnew1⟩
          have hN1 := (NodeIs.loc B px sb lb pb av n t).below hN hb1
          have hS1 := Step.of_below t ow hb1
          have hB1 := hB.call hb1
          have cB1 := hB1.cell
          have lB1 := hB1.lt
          have fB1 := hB1.frozen
          obtain ⟨va, vc, rfl⟩ := hrow1.src.shape
          replace hrow1 : Hid (Row _ _ _ _ _ _) := hrow1
          replace hnew1 : Hid (∀ _, _) := hnew1
          go_wp2_with fail
          refine (hpx.out _ hN1.pax).mono ?_
          rintro e w5 ⟨vv, rfl, ow5, hs5, h5⟩
          have hN5 := hN1.setPax _ hs5 h5
          go_wp2
          exact bodyPost_ret (results_none rfl _ _ _) rfl ⟨rfl, ow5, hS1.trans (hs5.mono (Sub.child t 0)), _, _, _, _, _, hN5⟩
      · rw [if_neg (fun h => her h.2.1)] at hrp
        rw [hrp]
        subst hk
        have t4 : (er == 0) = false := by simpa using her
        replace her : Hid (_ → _) := her
        replace hrp : Hid (_ = _) := hrp
        go_enter Tryz.func48, Tryz.ntmps48
        go_wp2_with fail
        refine (hun.out _).mono ?_
        rintro e w1 ⟨v, rfl, hb1, hrow1, hnew1⟩
        have hN1 := (NodeIs.loc B px sb lb pb av n t).below hN hb1
        have hS1 := Step.of_below t ow hb1
        have hB1 := hB.call hb1
        have cB1 := hB1.cell
        have lB1 := hB1.lt
        have fB1 := hB1.frozen
        obtain ⟨va, vc, rfl⟩ := hrow1.src.shape
        replace hrow1 : Hid (Row _ _ _ _ _ _) := hrow1
        replace hnew1 : Hid (∀ _, _) := hnew1
        go_wp2_with fail
        refine (hpx.out _ hN1.pax).mono ?_
        rintro e w5 ⟨vv, rfl, ow5, hs5, h5⟩
        have hN5 := hN1.setPax _ hs5 h5
        go_wp2
        exact bodyPost_ret (results_none rfl _ _ _) rfl ⟨rfl, ow5, hS1.trans (hs5.mono (Sub.child t 0)), _, _, _, _, _, hN5⟩
    · rw [if_neg (fun h => hk h.1)] at hrp
      rw [hrp]
      have hkn : k.toNat ≠ 109 := fun e => hk (by have h := UInt8.ofNat_toNat (x := k); rw [e] at h; exact h.symm)
      have t2 : ((k.toNat : Int) == 109) = false := by simp; omega
      replace hkn : Hid (_ ≠ _) := hkn
      replace hk : Hid (_ → _) := hk
      replace hrp : Hid (_ = _) := hrp
      have hN1 := hN
      have hS1 := Step.refl t ow w
      go_enter Tryz.func48, Tryz.ntmps48
      go_wp2_with fail
      refine (hpx.out _ hN1.pax).mono ?_
      rintro e w5 ⟨vv, rfl, ow5, hs5, h5⟩
      have hN5 := hN1.setPax _ hs5 h5
      go_wp2
      exact bodyPost_ret (results_none rfl _ _ _) rfl ⟨rfl, ow5, hS1.trans (hs5.mono (Sub.child t 0)), _, _, _, _, _, hN5⟩
end Go.Proofs.YtaopeioebpfdeaaGreatDoor
namespace Go.Proofs.YtaopeioebpfdeaaGreatDoor
open Go Go.RowKit Go.Shelf Go.Extern.Stop Go.Stop Go.Extern
attribute [local go_sem] Oper.semAt_some wide_fn wide_depth

theorem openP_len {s b : List UInt8} (h : openP s = some b) : b.length ≤ s.length := by
  unfold openP at h
  split at h
  · cases h
  · split at h
    · cases h; simp
    · cases h
theorem firstP_len (s : List UInt8) : (firstP s).1.length ≤ 4105 := by
  unfold firstP
  split
  · simp
  · split
    · simp
    · split
      · simp
      · rename_i h
        split
        · simp
        · split
          · simp
          · rename_i b hb
            have := openP_len hb
            rw [List.length_take] at this
            simp only [List.length_drop]
            omega
theorem readP_facts : ∀ (n : Nat) (s : List UInt8), 9 * (readP n s).1.length ≤ s.length ∧ ∀ x ∈ (readP n s).1, x.length ≤ 4105
  | 0, s => by simp [readP]
  | n + 1, s => by
    unfold readP
    split
    · simp
    · rename_i h
      have h1 := firstP_size s
      have h2 := readP_facts n (s.drop (firstP s).2)
      rw [List.length_drop] at h2
      refine ⟨?_, fun x hx => ?_⟩
      · simp only [List.length_cons]; omega
      · rcases List.mem_cons.1 hx with e | e
        · rw [e]; exact firstP_len s
        · exact h2.2 x e
theorem src_text {W : World} {l : List (List UInt8)} {a : Option Addr} {cap : Nat} (h : Src W (.slice a l.length cap) 1 l.length (texts l)) {k : Nat} {x : List UInt8} (hx : l[k]? = some x) :
    ∃ b off, a = some ⟨b, off, none⟩ ∧ W.cell? ⟨b, off + k, none⟩ = some (.string (bs x)) := by
  rcases h.2 with ⟨h, h0⟩ | ⟨b, off, cap', h, -, hr⟩
  · exfalso
    have : l = [] := by
      cases l with
      | nil => rfl
      | cons y l => simp at h
    subst this; simp at hx
  · cases h
    exact ⟨b, off, rfl, hr k _ (by simp [texts, hx])⟩
theorem replay_all (n : NodeS) (s : StD) (l : List (List UInt8)) : (l.foldl replayN (beginN n s)).acc.length ≤ l.length ∧ KnownOk (l.foldl replayN (beginN n s)).pax.known ∧ (l.foldl replayN (beginN n s)).loc = newL n.version s ∧ (l.foldl replayN (beginN n s)).applied = 0 ∧ (l.foldl replayN (beginN n s)).bad = n.bad := by
  rw [foldN_R]
  exact ⟨accR_len l, RR_known l, rfl, rfl, rfl⟩
set_option maxRecDepth 8000 in
set_option maxHeartbeats 2000000 in
theorem nRecover_any {px sb lb pb : Nat} {av : Value} (a : Addr) (B : Nat) (n : NodeS) (t : List Nat) (ht : t ≠ []) (ow : Own) (w : World) (hN : NodeIs B px sb lb pb av n t ow w) (he : ErrAt w a) (hge : ow 0 = []) (hv : known n.version = true) (hlog : n.store.log.length ≤ 1048576) :
    Calls Tryz.prog 18 #[.pointer (some ⟨B, 0, none⟩)] w (NodePost B (recoverN n (stBegin n.version)) t ow w (.int .i64 0)) := by
  have hB := hN.blk
  have hn := nNil_any w hB
  have hbad := hN.bad
  have hst := stRecover_any sb n.store (t ++ [1]) ow w hN.st (by omega)
  have hrn : recoverN n (stBegin n.version) = { (offerN ((applyN 10001 ((recoverS n.store).2.foldl replayN (beginN { n with store := (recoverS n.store).1 } (stBegin n.version)))).1.acc.length + 1) (applyN 10001 ((recoverS n.store).2.foldl replayN (beginN { n with store := (recoverS n.store).1 } (stBegin n.version)))).1) with down := false } := rfl
  have hfacts : 9 * (recoverS n.store).2.length ≤ n.store.log.length ∧ ∀ x ∈ (recoverS n.store).2, x.length ≤ 4105 := readP_facts _ _
  have hall := fun l => replay_all { n with store := (recoverS n.store).1 } (stBegin n.version) l
  obtain ⟨⟨s', rs⟩, hR⟩ : ∃ q, recoverS n.store = q := ⟨_, rfl⟩
  rw [hR] at hst hrn hfacts hall
  unfold RecoverPost at hst
  simp only at hst hrn hfacts hall
  rw [hrn]
  obtain ⟨m0, hm0⟩ : ∃ m0, m0 = beginN { n with store := s' } (stBegin n.version) := ⟨_, rfl⟩
  rw [← hm0] at hall ⊢
  unfold nodeCells at hB
  have e0 := hB.cell
  replace hn : Hid (Calls _ _ _ _ _) := hn
  replace hst : Hid (Calls _ _ _ _ _) := hst
  replace hrn : Hid (_ = _) := hrn
  replace hR : Hid (_ = _) := hR
  replace hall : Hid (∀ _, _) := hall
  replace hfacts : Hid (_ ∧ _) := hfacts
  replace hm0 : Hid (_ = _) := hm0
  go_enter Tryz.func18, Tryz.ntmps18
  go_wp2_with fail
  refine hn.out.mono ?_
  rintro e w1 ⟨rfl, hw1⟩
  obtain rfl := hw1.symm
  go_wp2_with fail
  refine hst.out.mono ?_
  rintro e w1 ⟨v, ow1, rfl, hs1, hst1, hsrc1, hfree1⟩
  have hB1 := hN.blkS hs1
  unfold nodeCells at hB1
  have ho1 := hN.ownS hs1
  obtain ⟨va, vc, rfl⟩ := hsrc1.shape
  have hne1 : ∀ b, va = some b → w.heap.size ≤ b.block ∧ ow1 b.block = [] := fun b hb => hfree1 b _ _ (by rw [hb])
  have hsA := hs1.mono (Sub.child t 1)
  have he1 := he.step ht hsA hge
  clear e0 hB hfree1
  replace hsrc1 : Hid (Src _ _ _ _ _) := hsrc1
  replace hne1 : Hid (∀ _, _) := hne1
  go_wp2_with fail
  refine (begin_any' a B _ _ _ _ _ _ _ n.id n.version _ _ t ow1 w1 hv he1 ho1 hB1).mono ?_
  rintro e w2 ⟨rfl, ow2, px2, lb2, pb2, hag2, hM2, kB2, hP2, hL2, hQ2⟩
  have hsB : Step t ow1 w1 ow2 w2 := ⟨hM2.mono (fun k _ e => by subst e; rw [ho1]; exact Sub.rfl' t), hag2⟩
  have hI2 : NodeIs B px2 sb lb2 pb2 (.slice none 0 0) m0 t ow2 w2 := by
    rw [hm0.out]
    exact ⟨kB2, hP2, Local.node (StoreAt.loc sb _ (t ++ [1])) hst1 ho1 hM2 hag2, hL2, hQ2, row_nil _ _ _, (hag2 B hB1.lt).trans ho1, by simp [Value.ownBlock], hbad⟩
  have hsrc2 := hsrc1.out.step hsB (fun b l c hv => by cases hv; rw [(hne1.out b rfl).2]; exact not_sub_nil ht)
  have hne2 : ∀ (k : Nat) (x : List UInt8), rs[k]? = some x → ∀ b l c, Value.slice va rs.length vc = .slice (some b) l c → ¬ Sub t (ow2 b.block) := fun k x hx b l c hv => by
    cases hv
    obtain ⟨b', off, hb, hc⟩ := src_text hsrc1.out hx
    cases hb
    rw [hag2 _ (show b' < w1.heap.size from cell_lt hc), (hne1.out _ rfl).2]
    exact not_sub_nil ht
  replace hne2 : Hid (∀ _, _) := hne2
  clear hB1 kB2 hP2 hL2 hQ2 hsrc2
  have hsrc2 := fun (k : Nat) (x : List UInt8) (hx : rs[k]? = some x) => hsrc1.out.step hsB (fun b l c hv => by cases hv; rw [(hne1.out b rfl).2]; exact not_sub_nil ht)
  replace hsrc2 : Hid (∀ _ _, _) := hsrc2
  go_wp2_with fail
  go_loopw [30] (fun p30 wr => ∃ (k : Nat) (ow' : Own), p30 = .int .i64 (k : Nat) ∧ k ≤ rs.length ∧ NodeAt B ((rs.take k).foldl replayN m0) t ow' wr ∧ Step t ow2 w2 ow' wr) (fun p30 _ => rs.length - (intOf p30).toNat)
  case atStart => exact ⟨0, ow2, rfl, by omega, ⟨_, _, _, _, _, hI2⟩, Step.refl _ _ _⟩
  case round =>
    obtain ⟨k, ow', rfl, hk, hNk, hsk⟩ := hrel
    by_cases hkl : k < rs.length
    · obtain ⟨x, hx⟩ : ∃ x, rs[k]? = some x := ⟨_, List.getElem?_eq_getElem hkl⟩
      have t1 : decide ((k : Int) < (rs.length : Int)) = true := by simpa using hkl
      have y0 : (k : Int) < (rs.length : Int) := by omega
      have y1 : (0 : Int) ≤ (k : Int) := by omega
      have hxl := hfacts.out.2 x (List.mem_of_getElem? hx)
      have h3 := (hall.out (rs.take k)).1
      rw [List.length_take] at h3
      have h9 := hfacts.out.1
      have hwk : IntKind.i64.wrap ((k : Int) + 1) = (k : Int) + 1 := by rw [IntKind.wrap_i64]; omega
      have hsrck := (hsrc2.out k x hx).step hsk (hne2.out k x hx)
      obtain ⟨b, off, hb, hc⟩ := src_text hsrck hx
      subst hb
      obtain ⟨px3, sb3, lb3, pb3, av3, hI3⟩ := hNk
      have hrp := nReplay_any B _ t ow' x (by omega) wr hI3 (by omega)
      have hfd : (rs.take (k + 1)).foldl replayN m0 = replayN ((rs.take k).foldl replayN m0) x := by
        rw [List.take_add_one, hx]; simp [List.foldl_append]
      rw [← hfd] at hrp
      unfold NodePost at hrp
      replace hfd : Hid (_ = _) := hfd
      replace hrp : Hid (Calls _ _ _ _ _) := hrp
      replace hx : Hid (_ = _) := hx
      replace hsrck : Hid (Src _ _ _ _ _) := hsrck
      clear hI3 h3 h9
      go_wp2_with fail
      refine hrp.out.mono ?_
      rintro e w4 ⟨rfl, ow4, hs4, hN4⟩
      go_wp2
      go_roundw
      case rel => exact ⟨k + 1, ow4, by simp, by omega, hN4, hsk.trans hs4⟩
      case measure => simp [intOf]; omega
    · obtain rfl : k = rs.length := by omega
      have t1 : decide ((rs.length : Int) < (rs.length : Int)) = false := by simp
      have h3 := hall.out rs
      have h9 := hfacts.out.1
      rw [List.take_length] at hNk
      have hap := nApply_any a B (rs.foldl replayN m0) t ht ow' wr hNk (he1.step ht (hsB.trans hsk) (by rw [hs1.agree _ he.lt]; exact hge)) (by rw [(hsB.trans hsk).agree _ he1.lt, hs1.agree _ he.lt]; exact hge) (by rw [h3.2.2.1, h3.2.2.2.1]; exact newL_b _ _) (by rw [h3.2.2.2.1]; omega) (by omega) h3.2.1 (h3.2.2.2.2.trans hbad)
      have hsame := (apply_same 10001 (rs.foldl replayN m0)).acc
      obtain ⟨⟨M, ms⟩, hM⟩ : ∃ q, applyN 10001 (rs.foldl replayN m0) = q := ⟨_, rfl⟩
      rw [hM] at hap hsame
      unfold EnterPost at hap
      simp only at hap hsame
      have haccM : M.acc.length ≤ 200000 := by rw [hsame]; omega
      replace hsame : Hid (_ = _) := hsame
      replace hap : Hid (Calls _ _ _ _ _) := hap
      have hpost : ∀ (M' : NodeS) ow' W', M' = { (offerN (M.acc.length + 1) M) with down := false } → Step t ow w ow' W' → NodeAt B M' t ow' W' → NodePost B { (offerN ((applyN 10001 (rs.foldl replayN m0)).1.acc.length + 1) (applyN 10001 (rs.foldl replayN m0)).1) with down := false } t ow w (.int .i64 0) (.returned (.int .i64 0)) W' := fun M' ow' W' h1 h2 h3 => ⟨rfl, ow', h2, by rw [hM, ← h1]; exact h3⟩
      replace hpost : Hid (∀ _ _, _) := hpost
      replace hM : Hid (_ = _) := hM
      go_wp2_with fail
      refine hap.out.mono ?_
      rintro e w5 ⟨v5, ow5, rfl, hs5, hN5, -, -⟩
      go_wp2_with fail
      refine (nOffer_any B M t ow5 w5 hN5 (by omega)).mono ?_
      rintro e w6 ⟨rfl, ow6, hs6, ⟨px6, sb6, lb6, pb6, av6, hI6⟩⟩
      obtain ⟨M6, hM6⟩ : ∃ M6, M6 = offerN (M.acc.length + 1) M := ⟨_, rfl⟩
      rw [← hM6] at hI6
      have kB6 := hI6.blk
      unfold nodeCells at kB6
      have c6 := kB6.cell
      have f6 := kB6.frozen
      have l6 := kB6.lt
      have hset := hI6.setOwn { M6 with down := false } ((Mod.refl (fun k => k = B) w6).thenSet (p := ⟨B, 11, none⟩) rfl (.bool false)) (kB6.set (o := 11) (.bool false)) rfl rfl rfl rfl rfl rfl
      have hSt := ((((hsA.trans hsB).trans hsk).trans hs5).trans hs6).trans hset.1
      replace hM6 : Hid (_ = _) := hM6
      replace hset : Hid (_ ∧ _) := hset
      go_wp2
      go_ret
      exact hpost.out _ ow6 _ (by rw [hM6.out]) hSt ⟨_, _, _, _, _, hset.out.2⟩
end Go.Proofs.YtaopeioebpfdeaaGreatDoor
