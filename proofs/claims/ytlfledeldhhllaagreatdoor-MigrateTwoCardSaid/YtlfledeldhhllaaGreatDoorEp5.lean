/- WALK: epoch's rollback. Condition: the fold is one that calls have made. -/
import Derived.Test.YtlfledeldhhllaaGreatDoorEp4
namespace Go.Proofs.YtlfledeldhhllaaGreatDoor
open Go Go.RowKit Go.Shelf Go.Extern.Stop Go.Stop Go.Extern Go.Lib
attribute [local go_sem] Oper.semAt_some wide_fn wide_depth

theorem era_eql (a b c a' b' c' : Int) (w : World) : (binOp .eql 42 (.agg #[.int .u32 a, .int .i64 b, .int .i64 c]) (.agg #[.int .u32 a', .int .i64 b', .int .i64 c'])).run Tryz.prog w = .ok (.bool ((a == a') && ((b == b') && (c == c')))) w := by
  rw [run_eql_struct]
  simp [go_sem]
  by_cases h1 : a = a' <;> by_cases h2 : b = b' <;> by_cases h3 : c = c' <;> simp [h1, h2, h3]

theorem aheadP_cons (n e : EraD) (l : List EraD) (v : Int) : aheadP n (e :: l) v = if e = n then v else aheadP n l e.2.1 := rfl
/-- What holds ahead of each round of rollback's loop. -/
def BackAt (l : List EraD) (n : EraD) (vb : Nat) (W0 : World) (k : Nat) (X : Nat → Prop) (W : World) : Prop :=
  Fr (fun k => k = vb) W0 X W ∧ k ≤ l.length ∧ ∃ v, Blk W vb #[.int .i64 v] 3 ∧ aheadP n (l.drop k) v = aheadP n l 0
theorem BackAt.stab {l : List EraD} {n : EraD} {vb : Nat} {W0 : World} {k : Nat} {X X' : Nat → Prop} {W W' : World} (h1 : vb < W0.heap.size)
    (h : BackAt l n vb W0 k X W) (hm : Mod X W W') (hx : ∀ k, X' k → X k ∨ (W.heap.size ≤ k ∧ k < W'.heap.size)) : BackAt l n vb W0 k X' W' := by
  obtain ⟨hfr, hk, v, kv, ha⟩ := h
  exact ⟨hfr.step hm hx, hk, v, kv.kept (hfr.block hm h1), ha⟩

set_option maxRecDepth 8000 in
set_option maxHeartbeats 1000000 in
theorem rollback_no (B : Nat) (f : FoldS) (t : List Nat) (ow : Own) (ent : Value) (hent : ∃ a b c d, ent = .agg #[a, b, c, d]) (hsw : f.sw = false) (w : World) (h : FoldAt B f t ow w) :
    Calls Tryz.prog 36 #[.pointer (some ⟨B, 0, none⟩), ent] w fun e w' => e = .returned (.tuple #[.slice none 0 0, .bool false]) ∧ Below w.heap.size w w' := by
  obtain ⟨a, b, c, d, rfl⟩ := hent
  obtain ⟨hne, bb, ev, hB, -⟩ := h
  have e0 := hB.cell
  unfold foldCells at e0
  rw [hsw] at e0
  have hlt := hB.lt
  clear hB
  refine calls_of_wp_marks Tryz.func36 rfl ?_
  simp only [Tryz.ntmps36, List.size_toArray, List.length_cons, List.length_nil, Nat.reduceAdd, Nat.reduceSub, Array.replicate_succ, Array.replicate_zero, List.push_toArray, List.append_toArray, List.nil_append, List.cons_append]
  go_wp2
  go_step3
  go_wp2
  rw [Exit.noGoto_ret]
  exact end_mark0 (v := .tuple #[.slice none 0 0, .bool false]) (by simp [results, Tryz.results36, go_sem]) ⟨rfl, by (repeat (first | exact Below.refl _ _ | with_reducible assumption | refine pb_alloc ?_ _ | refine pb_drew ?_ | refine pb_drewN ?_ _ | refine pb_set ?_ (by simp; try omega) _ | refine pb_trans ?_ (by with_reducible assumption)))⟩
set_option maxRecDepth 8000 in
set_option maxHeartbeats 1000000 in
theorem rollback_any (B : Nat) (f : FoldS) (t : List Nat) (ht : t ≠ []) (ow : Own) (ent : Value) (hent : ∃ a b c d, ent = .agg #[a, b, c, d]) (hsw : f.sw = true) (w : World) (h : FoldAt B f t ow w) (hl : f.eras.length ≤ 536870912) :
    Calls Tryz.prog 36 #[.pointer (some ⟨B, 0, none⟩), ent] w (FoldPost B (beginEra f (aheadP (nowP f.eras) f.eras 0) false) t ow w (.tuple #[.slice none 0 0, .bool true])) := by
  obtain ⟨a, b, c, d, rfl⟩ := hent
  have h0 := h
  have hall := all_any B f t ow
  obtain ⟨hne, bb, ev0, hB, -⟩ := h
  have e0 := hB.cell
  unfold foldCells at e0
  rw [hsw] at e0
  have hlt := hB.lt
  clear hB
  replace h0 : Hid (FoldAt _ _ _ _ _) := h0
  replace hall : Hid (∀ _, _) := hall
  refine calls_of_wp_marks Tryz.func36 rfl ?_
  simp only [Tryz.ntmps36, List.size_toArray, List.length_cons, List.length_nil, Nat.reduceAdd, Nat.reduceSub, Array.replicate_succ, Array.replicate_zero, List.push_toArray, List.append_toArray, List.nil_append, List.cons_append]
  go_wp2
  go_step3
  go_wp2
  go_step3
  go_wp2_with (go_at_call 49; refine (hall.out _ ((FoldAt.loc B f t).below h0.out (by (repeat (first | exact Below.refl _ _ | with_reducible assumption | refine pb_alloc ?_ _ | refine pb_drew ?_ | refine pb_drewN ?_ _ | refine pb_set ?_ (by simp; try omega) _ | refine pb_trans ?_ (by with_reducible assumption)))))).mono ?_; rintro e w1 ⟨ev, rfl, rfl, hR, o2⟩; replace o2 : Hid (∀ _, _) := o2)
  obtain ⟨fb, hfb⟩ : ∃ fb, fb = w.heap.size := ⟨_, rfl⟩
  obtain ⟨W0, hW0⟩ : ∃ W0, W0 = ((((w.alloc (.cells #[.pointer (some ⟨B, 0, none⟩)] 56)).alloc (.cells #[a, b, c, d] 32)).alloc (.cells #[.int .i64 0] 3)).alloc (.cells #[ev] 75)) := ⟨_, rfl⟩
  have hsz : W0.heap.size = fb + 4 := by rw [hW0, hfb]; simp
  have hb0 : Below w.heap.size w W0 := by rw [hW0]; (repeat (first | exact Below.refl _ _ | with_reducible assumption | refine pb_alloc ?_ _ | refine pb_drew ?_ | refine pb_drewN ?_ _ | refine pb_set ?_ (by simp; try omega) _ | refine pb_trans ?_ (by with_reducible assumption)))
  have kf : Blk W0 fb #[.pointer (some ⟨B, 0, none⟩)] 56 := by rw [hW0, hfb]; (repeat (first | with_reducible assumption | (refine Blk.new ?_; simp; done) | refine Blk.alloc ?_ _ | refine Blk.drew ?_ | refine Blk.drewN ?_ _ | refine Blk.call ?_ (by with_reducible assumption)))
  have kv : Blk W0 (fb + 1 + 1) #[.int .i64 0] 3 := by rw [hW0, hfb]; (repeat (first | with_reducible assumption | (refine Blk.new ?_; simp; done) | refine Blk.alloc ?_ _ | refine Blk.drew ?_ | refine Blk.drewN ?_ _ | refine Blk.call ?_ (by with_reducible assumption)))
  have kc : Blk W0 (fb + 1 + 1 + 1) #[ev] 75 := by rw [hW0, hfb]; (repeat (first | with_reducible assumption | (refine Blk.new ?_; simp; done) | refine Blk.alloc ?_ _ | refine Blk.drew ?_ | refine Blk.drewN ?_ _ | refine Blk.call ?_ (by with_reducible assumption)))
  have hR0 : Row W0 42 3 ev f.eras.length (f.eras.flatMap eraCells) := by rw [hW0]; exact hR.below ((Below.refl _ _).alloc (Nat.le_refl _) _)
  have hlw : B < fb := by rw [hfb]; exact hlt
  have hfw : w.heap.size ≤ fb := by omega
  rw [← hW0, ← hfb]
  replace hfb : Hid (_ = _) := hfb
  clear hW0 e0 hR o2
  obtain ⟨⟨ep, ve, st⟩, hn⟩ : ∃ n, nowP f.eras = n := ⟨_, rfl⟩
  have hnow := now_any B f t ow
  rw [hn] at hnow
  replace hn : Hid (_ = _) := hn
  unfold eraV at hnow
  replace hnow : Hid (∀ _, _) := hnow
  refine wp_rangeBox (gf := 82) (lb := #[.pointer (some ⟨fb + 1 + 1 + 1, 0, none⟩)]) rfl (enters_of Tryz.func82 (by kernel_rfl) rfl)
      (valEra_iter (fb + 1 + 1 + 1) ev f.eras (by omega)) (fun _ => rfl)
      (fun k X W => BackAt f.eras (ep, ve, st) (fb + 1 + 1) W0 k X W)
      (fun c X W => c = .exit 0 ∧ Fr (fun k => k = fb + 1 + 1) W0 X W ∧ Blk W (fb + 1 + 1) #[.int .i64 (aheadP (ep, ve, st) f.eras 0)] 3)
      (fun k X X' W W' h hm hx => h.stab (by omega) hm hx)
      (fun c s X X' W W' h hm hx => ⟨h.1, h.2.1.step hm hx, h.2.2.kept (h.2.1.block hm (by omega))⟩)
      (fun k X W h => ⟨kc.mod h.1.2 (by omega), (hR0.mod h.1.2 (fun g hg e => hR0.ne_blk kv (by decide) hg e)).src⟩)
      (fun k X W h => ⟨h.1.2.size, fun k hk => (h.1.1 k hk).2⟩)
      ⟨Fr.refl _ _, Nat.zero_le _, 0, kv, rfl⟩
      7 42 (fun x => #[.int .u32 x.1, .int .i64 x.2.1, .int .i64 x.2.2]) ?assign ?body ?done ?stop
  case assign =>
    intro l' x W K hK
    rw [laidIn_one] at hK ⊢
    unfold eraV at hK ⊢
    gi_wp2
    exact hK
  case body =>
    rintro l' k x cb X X1 W1 W h1 ⟨hfr, hk, v, kv', ha⟩ hnx hcb hcw hXc kx hXl _
    obtain ⟨xe, xv, xs⟩ := x
    have kf' := kf.mod hfr.2 (by omega)
    have hbW : Below w.heap.size w W := hb0.trans (hfr.below (by have := hb0.size; omega) (fun k hk => by omega))
    have hF : FoldAt B f t ow W := (FoldAt.loc B f t).below h0.out hbW
    have heq := era_eql xe xv xs ep ve st
    obtain ⟨q, hqd⟩ : ∃ q : Bool, ((xe : Int) == ep && (xv == ve && xs == st)) = q := ⟨_, rfl⟩
    rw [hqd] at heq
    replace hqd : Hid (_ = _) := hqd
    have hdr : f.eras.drop k = (xe, xv, xs) :: f.eras.drop (k + 1) := by
      have hlt := (List.getElem?_eq_some_iff.1 hnx)
      rw [List.drop_eq_getElem_cons hlt.1, hlt.2]
    rw [hdr] at ha
    have hkl := (List.getElem?_eq_some_iff.1 hnx).1
    replace hF : Hid (FoldAt _ _ _ _ _) := hF
    replace ha : Hid (_ = _) := ha
    replace hdr : Hid (_ = _) := hdr
    replace hnx : Hid (_ = _) := hnx
    rw [laidIn_one]
    unfold eraV
    simp only at kx
    gi_wp2
    refine wpIn_region_sched [(0, true), (1, true), (2, false), (3, true)] none (fun w' => Blk w' cb #[.int .u32 xe, .int .i64 xv, .int .i64 xs] 42 ∧ Blk w' fb #[.pointer (some ⟨B, 0, none⟩)] 56 ∧ True) (by kernel_rfl) (by kernel_rfl) ⟨kx.drew, kf'.drew, trivial⟩ ?_
    (repeat (refine wpSched_quiet (v := ?_) rfl rfl (fun w' hS => ?_) (fun K hK => ?_); rotate_left; (focus ((try have e1 := hS.1.cell); (try have e2 := hS.2.1.cell); (try have e3 := hS.2.2.1.cell); (try have e4 := hS.2.2.2.1.cell); (try have f1 := hS.1); (try have f2 := hS.2.1); (try have f3 := hS.2.2.1); (try have f4 := hS.2.2.2.1); (try have f5 := hS.2.2.2.2.1); clear hS; go_simp; (try with_reducible rfl))); (go_simp; refine hK _ ?_; clear hK K)))
    refine wpSched_loud rfl (fun K hK => ?_)
    go_wp2_with (go_at_call 33; refine (hnow.out _ ((FoldAt.loc B f t).below hF.out (Below.drew (Below.refl _ _))) (by omega)).mono ?_; rintro e w1 ⟨rfl, hb1⟩)
    have kx1 := kx.drew.call hb1
    have kf1 := kf'.drew.call hb1
    have kv1 := kv'.drew.call hb1
    refine hK.out _ _ (fun _ => ⟨kx1, kf1, trivial⟩) ?_
    clear hK K
    (repeat (refine wpSched_quiet (v := ?_) rfl rfl (fun w' hS => ?_) (fun K hK => ?_); rotate_left; (focus ((try have e1 := hS.1.cell); (try have e2 := hS.2.1.cell); (try have e3 := hS.2.2.1.cell); (try have e4 := hS.2.2.2.1.cell); (try have f1 := hS.1); (try have f2 := hS.2.1); (try have f3 := hS.2.2.1); (try have f4 := hS.2.2.2.1); (try have f5 := hS.2.2.2.2.1); clear hS; go_simp; (try with_reducible rfl))); (go_simp; refine hK _ ?_; clear hK K)))
    refine wpSched_nil ?_
    have hbm : Below W.heap.size W w1 := by (repeat (first | exact Below.refl _ _ | with_reducible assumption | refine pb_alloc ?_ _ | refine pb_drew ?_ | refine pb_drewN ?_ _ | refine pb_set ?_ (by simp; try omega) _ | refine pb_trans ?_ (by with_reducible assumption)))
    clear heq kx1 kf1 kf'
    cases q
    · have hq : ¬ (xe, xv, xs) = (ep, ve, st) := fun h => by
        have := hqd.out
        simp only [Prod.mk.injEq] at h
        obtain ⟨rfl, rfl, rfl⟩ := h
        simp at this
      have hav : aheadP (ep, ve, st) (f.eras.drop (k + 1)) xv = aheadP (ep, ve, st) f.eras 0 := by
        rw [← ha.out, aheadP_cons, if_neg hq]
      have kx1 := kx.call hbm
      have ex := kx1.cell
      have evv := kv1.cell
      have fvv := kv1.frozen
      have lv1 := kv1.lt
      clear hq
      replace hav : Hid (_ = _) := hav
      gi_wp2
      have hm : Mod (fun k => k = fb + 1 + 1) W (w1.setCell ⟨fb + 1 + 1, 0, none⟩ (.int .i64 xv)) := (Mod.of_below (fun k => k = fb + 1 + 1) hbm).thenSet (p := ⟨fb + 1 + 1, 0, none⟩) rfl _
      exact ⟨⟨hfr.mod hm (fun k _ h => h), by omega, xv, kv1.set _, hav.out⟩, Saves.of_mod hm (fun k _ hX he => by have := hfr.1 k hX; omega)⟩
    · have hq : (xe, xv, xs) = (ep, ve, st) := by
        have := hqd.out
        simp only [Bool.and_eq_true, beq_iff_eq] at this
        obtain ⟨h1, h2, h3⟩ := this
        simp only [Prod.mk.injEq]
        exact ⟨by omega, h2, h3⟩
      have hav : v = aheadP (ep, ve, st) f.eras 0 := by rw [← ha.out, aheadP_cons, if_pos hq]
      clear hq
      replace hav : Hid (_ = _) := hav
      gi_wp2
      exact ⟨⟨rfl, hfr.mod (Mod.of_below (fun _ => False) hbm) (fun _ _ h => h.elim), by rw [← hav.out]; exact kv1⟩, Saves.of_mod (Mod.of_below (fun _ => False) hbm) (fun _ _ _ h => h)⟩
  case done =>
    rintro D k X W hD hXD hfin ⟨hfr, hk, v, kv', ha⟩ hdef
    obtain rfl : k = f.eras.length := hfin
    rw [List.drop_length] at ha
    have hav : v = aheadP (ep, ve, st) f.eras 0 := ha
    rw [hav] at kv'
    have hbW : Below w.heap.size w W := hb0.trans (hfr.below (by have := hb0.size; omega) (fun k hk => by omega))
    have kf' := kf.mod hfr.2 (by omega)
    have ef := kf'.cell
    have evv := kv'.cell
    have hbeg := begin_any B f t (ow.cut w) (aheadP (ep, ve, st) f.eras 0) false W ((FoldAt.loc B f t).cut h0.out hbW) hl
    have hDl := (Array.getElem?_eq_some_iff.1 hdef).1
    have hDw : w.heap.size ≤ D := by have := hb0.size; omega
    replace hbeg : Hid (Calls _ _ _ _ _) := hbeg
    go_wp2_with (go_at_call 48; refine hbeg.out.mono ?_; rintro e w2 ⟨rfl, ow2, hs2, hf2⟩; replace hf2 : Hid (FoldAt _ _ _ _ _) := hf2)
    rw [Exit.noGoto_ret]
    have hfree := hs2.free ht hDw hDl
    exact end_mark1 (D := D) (v := .tuple #[.slice none 0 0, .bool true]) (hfree.1.trans hdef) (by simp [results, Tryz.results36, go_sem])
      ⟨rfl, ow2, (Step.wrap hbW hs2).putNew D _ hDw, by rw [hn.out]; exact (FoldAt.loc B _ t).put ht hf2.out hfree.2 _⟩
  case stop =>
    rintro D c X W hD hXD ⟨rfl, hfr, kv'⟩ hdef
    have hbW : Below w.heap.size w W := hb0.trans (hfr.below (by have := hb0.size; omega) (fun k hk => by omega))
    have kf' := kf.mod hfr.2 (by omega)
    have ef := kf'.cell
    have evv := kv'.cell
    have hbeg := begin_any B f t (ow.cut w) (aheadP (ep, ve, st) f.eras 0) false W ((FoldAt.loc B f t).cut h0.out hbW) hl
    have hDl := (Array.getElem?_eq_some_iff.1 hdef).1
    have hDw : w.heap.size ≤ D := by have := hb0.size; omega
    replace hbeg : Hid (Calls _ _ _ _ _) := hbeg
    go_wp2_with (go_at_call 48; refine hbeg.out.mono ?_; rintro e w2 ⟨rfl, ow2, hs2, hf2⟩; replace hf2 : Hid (FoldAt _ _ _ _ _) := hf2)
    rw [Exit.noGoto_ret]
    have hfree := hs2.free ht hDw hDl
    exact end_mark1 (D := D) (v := .tuple #[.slice none 0 0, .bool true]) (hfree.1.trans hdef) (by simp [results, Tryz.results36, go_sem])
      ⟨rfl, ow2, (Step.wrap hbW hs2).putNew D _ hDw, by rw [hn.out]; exact (FoldAt.loc B _ t).put ht hf2.out hfree.2 _⟩
end Go.Proofs.YtlfledeldhhllaaGreatDoor
