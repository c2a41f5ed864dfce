/- PROVED HERE: WALK: epoch's rollback. Condition: the fold is one that calls have made. PLAIN FACTS on books: how many messages there are; books stay books. No program in sight. WALKS: epoch's deliver, batch. Condition: the book is one that calls have made; the messages can be read, and are none of the book's blocks. -/
import Derived.Test.YtaopeioebpfdeaaGreatDoorK08
import Derived.Test.YtaopeioebpfdeaaGreatDoorK10
namespace Go.Proofs.YtaopeioebpfdeaaGreatDoor
open Go Go.RowKit Go.Shelf Go.Extern.Stop Go.Stop Go.Extern Go.Lib
attribute [local go_sem] Oper.semAt_some wide_fn wide_depth

theorem era_eql (a b c a' b' c' : Int) (w : World) : (binOp .eql 92 (.agg #[.int .u32 a, .int .i64 b, .int .i64 c]) (.agg #[.int .u32 a', .int .i64 b', .int .i64 c'])).run Tryz.prog w = .ok (.bool ((a == a') && ((b == b') && (c == c')))) w := by
  rw [run_eql_struct]
  simp [go_sem]
  by_cases h1 : a = a' <;> by_cases h2 : b = b' <;> by_cases h3 : c = c' <;> simp [h1, h2, h3]

theorem aheadP_cons (n e : EraD) (l : List EraD) (v : Int) : aheadP n (e :: l) v = if e = n then v else aheadP n l e.2.1 := rfl
/-- What holds ahead of each round of rollback's loop. -/
def BackAt (l : List EraD) (n : EraD) (vb : Nat) (W0 : World) (k : Nat) (X : Nat → Prop) (W : World) : Prop :=
  Fr (fun k => k = vb) W0 X W ∧ k ≤ l.length ∧ ∃ v, Blk W vb #[.int .i64 v] 3 ∧ aheadP n (l.drop k) v = aheadP n l 0
theorem BackAt.stab {l : List EraD} {n : EraD} {vb : Nat} {W0 : World} {k : Nat} {X X' : Nat → Prop} {W W' : World} (h1 : vb < W0.heap.size)
    (h : BackAt l n vb W0 k X W) (hm : Mod X W W') (hx : ∀ k, X' k → X k ∨ (W.heap.size ≤ k ∧ k < W'.heap.size)) : BackAt l n vb W0 k X' W' := by
  obtain ⟨hfr, hk, v, kv, ha⟩ := h
  exact ⟨hfr.step hm hx, hk, v, kv.kept (hfr.block hm h1), ha⟩

set_option maxRecDepth 8000 in
set_option maxHeartbeats 1000000 in
theorem rollback_no (B : Nat) (f : FoldS) (t : List Nat) (ow : Own) (ent : Value) (hent : ∃ a b c d, ent = .agg #[a, b, c, d]) (hsw : f.sw = false) (w : World) (h : FoldAt B f t ow w) :
    Calls Tryz.prog 162 #[.pointer (some ⟨B, 0, none⟩), ent] w fun e w' => e = .returned (.tuple #[.slice none 0 0, .bool false]) ∧ Below w.heap.size w w' := by
  obtain ⟨a, b, c, d, rfl⟩ := hent
  obtain ⟨hne, bb, ev, hB, -⟩ := h
  have e0 := hB.cell
  unfold foldCells at e0
  rw [hsw] at e0
  have hlt := hB.lt
  clear hB
  refine calls_of_wp_marks Tryz.func162 rfl ?_
  simp only [Tryz.ntmps162, List.size_toArray, List.length_cons, List.length_nil, Nat.reduceAdd, Nat.reduceSub, Array.replicate_succ, Array.replicate_zero, List.push_toArray, List.append_toArray, List.nil_append, List.cons_append]
  go_wp2
  go_step3
  go_wp2
  rw [Exit.noGoto_ret]
  exact end_mark0 (v := .tuple #[.slice none 0 0, .bool false]) (by simp [results, Tryz.results162, go_sem]) ⟨rfl, by (repeat (first | exact Below.refl _ _ | with_reducible assumption | refine pb_alloc ?_ _ | refine pb_drew ?_ | refine pb_drewN ?_ _ | refine pb_set ?_ (by simp; try omega) _ | refine pb_trans ?_ (by with_reducible assumption)))⟩
set_option maxRecDepth 8000 in
set_option maxHeartbeats 1000000 in
theorem rollback_any (B : Nat) (f : FoldS) (t : List Nat) (ht : t ≠ []) (ow : Own) (ent : Value) (hent : ∃ a b c d, ent = .agg #[a, b, c, d]) (hsw : f.sw = true) (w : World) (h : FoldAt B f t ow w) (hl : f.eras.length ≤ 536870912) :
    Calls Tryz.prog 162 #[.pointer (some ⟨B, 0, none⟩), ent] w (FoldPost B (beginEra f (aheadP (nowP f.eras) f.eras 0) false) t ow w (.tuple #[.slice none 0 0, .bool true])) := by
  obtain ⟨a, b, c, d, rfl⟩ := hent
  have h0 := h
  have hall := all_any B f t ow
  obtain ⟨hne, bb, ev0, hB, -⟩ := h
  have e0 := hB.cell
  unfold foldCells at e0
  rw [hsw] at e0
  have hlt := hB.lt
  clear hB
  replace h0 : Hid (FoldAt _ _ _ _ _) := h0
  replace hall : Hid (∀ _, _) := hall
  refine calls_of_wp_marks Tryz.func162 rfl ?_
  simp only [Tryz.ntmps162, List.size_toArray, List.length_cons, List.length_nil, Nat.reduceAdd, Nat.reduceSub, Array.replicate_succ, Array.replicate_zero, List.push_toArray, List.append_toArray, List.nil_append, List.cons_append]
  go_wp2
  go_step3
  go_wp2
  go_step3
  go_wp2_with (go_at_call 140; refine (hall.out _ ((FoldAt.loc B f t).below h0.out (by (repeat (first | exact Below.refl _ _ | with_reducible assumption | refine pb_alloc ?_ _ | refine pb_drew ?_ | refine pb_drewN ?_ _ | refine pb_set ?_ (by simp; try omega) _ | refine pb_trans ?_ (by with_reducible assumption)))))).mono ?_; rintro e w1 ⟨ev, rfl, rfl, hR, o2⟩; replace o2 : Hid (∀ _, _) := o2)
  obtain ⟨fb, hfb⟩ : ∃ fb, fb = w.heap.size := ⟨_, rfl⟩
  obtain ⟨W0, hW0⟩ : ∃ W0, W0 = ((((w.alloc (.cells #[.pointer (some ⟨B, 0, none⟩)] 102)).alloc (.cells #[a, b, c, d] 65)).alloc (.cells #[.int .i64 0] 3)).alloc (.cells #[ev] 187)) := ⟨_, rfl⟩
  have hsz : W0.heap.size = fb + 4 := by rw [hW0, hfb]; simp
  have hb0 : Below w.heap.size w W0 := by rw [hW0]; (repeat (first | exact Below.refl _ _ | with_reducible assumption | refine pb_alloc ?_ _ | refine pb_drew ?_ | refine pb_drewN ?_ _ | refine pb_set ?_ (by simp; try omega) _ | refine pb_trans ?_ (by with_reducible assumption)))
  have kf : Blk W0 fb #[.pointer (some ⟨B, 0, none⟩)] 102 := by rw [hW0, hfb]; (repeat (first | with_reducible assumption | (refine Blk.new ?_; simp; done) | refine Blk.alloc ?_ _ | refine Blk.drew ?_ | refine Blk.drewN ?_ _ | refine Blk.call ?_ (by with_reducible assumption)))
  have kv : Blk W0 (fb + 1 + 1) #[.int .i64 0] 3 := by rw [hW0, hfb]; (repeat (first | with_reducible assumption | (refine Blk.new ?_; simp; done) | refine Blk.alloc ?_ _ | refine Blk.drew ?_ | refine Blk.drewN ?_ _ | refine Blk.call ?_ (by with_reducible assumption)))
  have kc : Blk W0 (fb + 1 + 1 + 1) #[ev] 187 := by rw [hW0, hfb]; (repeat (first | with_reducible assumption | (refine Blk.new ?_; simp; done) | refine Blk.alloc ?_ _ | refine Blk.drew ?_ | refine Blk.drewN ?_ _ | refine Blk.call ?_ (by with_reducible assumption)))
  have hR0 : Row W0 92 3 ev f.eras.length (f.eras.flatMap eraCells) := by rw [hW0]; exact hR.below ((Below.refl _ _).alloc (Nat.le_refl _) _)
  have hlw : B < fb := by rw [hfb]; exact hlt
  have hfw : w.heap.size ≤ fb := by omega
  rw [← hW0, ← hfb]
  replace hfb : Hid (_ = _) := hfb
  clear hW0 e0 hR o2
  obtain ⟨⟨ep, ve, st⟩, hn⟩ : ∃ n, nowP f.eras = n := ⟨_, rfl⟩
  have hnow := now_any B f t ow
  rw [hn] at hnow
  replace hn : Hid (_ = _) := hn
  unfold eraV at hnow
  replace hnow : Hid (∀ _, _) := hnow
  refine wp_rangeBox (gf := 188) (lb := #[.pointer (some ⟨fb + 1 + 1 + 1, 0, none⟩)]) rfl (enters_of Tryz.func188 (by kernel_rfl) rfl)
      (valEra_iter (fb + 1 + 1 + 1) ev f.eras (by omega)) (fun _ => rfl)
      (fun k X W => BackAt f.eras (ep, ve, st) (fb + 1 + 1) W0 k X W)
      (fun c X W => c = .exit 0 ∧ Fr (fun k => k = fb + 1 + 1) W0 X W ∧ Blk W (fb + 1 + 1) #[.int .i64 (aheadP (ep, ve, st) f.eras 0)] 3)
      (fun k X X' W W' h hm hx => h.stab (by omega) hm hx)
      (fun c s X X' W W' h hm hx => ⟨h.1, h.2.1.step hm hx, h.2.2.kept (h.2.1.block hm (by omega))⟩)
      (fun k X W h => ⟨kc.mod h.1.2 (by omega), (hR0.mod h.1.2 (fun g hg e => hR0.ne_blk kv (by decide) hg e)).src⟩)
      (fun k X W h => ⟨h.1.2.size, fun k hk => (h.1.1 k hk).2⟩)
      ⟨Fr.refl _ _, Nat.zero_le _, 0, kv, rfl⟩
      7 92 (fun x => #[.int .u32 x.1, .int .i64 x.2.1, .int .i64 x.2.2]) ?assign ?body ?done ?stop
  case assign =>
    intro l' x W K hK
    rw [laidIn_one] at hK ⊢
    unfold eraV at hK ⊢
    gi_wp2
    exact hK
  case body =>
    rintro l' k x cb X X1 W1 W h1 ⟨hfr, hk, v, kv', ha⟩ hnx hcb hcw hXc kx hXl _
    obtain ⟨xe, xv, xs⟩ := x
    have kf' := kf.mod hfr.2 (by omega)
    have hbW : Below w.heap.size w W := hb0.trans (hfr.below (by have := hb0.size; omega) (fun k hk => by omega))
    have hF : FoldAt B f t ow W := (FoldAt.loc B f t).below h0.out hbW
    have heq := era_eql xe xv xs ep ve st
    obtain ⟨q, hqd⟩ : ∃ q : Bool, ((xe : Int) == ep && (xv == ve && xs == st)) = q := ⟨_, rfl⟩
    rw [hqd] at heq
    replace hqd : Hid (_ = _) := hqd
    have hdr : f.eras.drop k = (xe, xv, xs) :: f.eras.drop (k + 1) := by
      have hlt := (List.getElem?_eq_some_iff.1 hnx)
      rw [List.drop_eq_getElem_cons hlt.1, hlt.2]
    rw [hdr] at ha
    have hkl := (List.getElem?_eq_some_iff.1 hnx).1
    replace hF : Hid (FoldAt _ _ _ _ _) := hF
    replace ha : Hid (_ = _) := ha
    replace hdr : Hid (_ = _) := hdr
    replace hnx : Hid (_ = _) := hnx
    rw [laidIn_one]
    unfold eraV
    simp only at kx
    gi_wp2
    refine wpIn_region_sched [(0, true), (1, true), (2, false), (3, true)] none (fun w' => Blk w' cb #[.int .u32 xe, .int .i64 xv, .int .i64 xs] 92 ∧ Blk w' fb #[.pointer (some ⟨B, 0, none⟩)] 102 ∧ True) (by kernel_rfl) (by kernel_rfl) ⟨kx.drew, kf'.drew, trivial⟩ ?_
    (repeat (refine wpSched_quiet (v := ?_) rfl rfl (fun w' hS => ?_) (fun K hK => ?_); rotate_left; (focus ((try have e1 := hS.1.cell); (try have e2 := hS.2.1.cell); (try have e3 := hS.2.2.1.cell); (try have e4 := hS.2.2.2.1.cell); (try have f1 := hS.1); (try have f2 := hS.2.1); (try have f3 := hS.2.2.1); (try have f4 := hS.2.2.2.1); (try have f5 := hS.2.2.2.2.1); clear hS; go_simp; (try with_reducible rfl))); (go_simp; refine hK _ ?_; clear hK K)))
    refine wpSched_loud rfl (fun K hK => ?_)
    go_wp2_with (go_at_call 159; refine (hnow.out _ ((FoldAt.loc B f t).below hF.out (Below.drew (Below.refl _ _))) (by omega)).mono ?_; rintro e w1 ⟨rfl, hb1⟩)
    have kx1 := kx.drew.call hb1
    have kf1 := kf'.drew.call hb1
    have kv1 := kv'.drew.call hb1
    refine hK.out _ _ (fun _ => ⟨kx1, kf1, trivial⟩) ?_
    clear hK K
    (repeat (refine wpSched_quiet (v := ?_) rfl rfl (fun w' hS => ?_) (fun K hK => ?_); rotate_left; (focus ((try have e1 := hS.1.cell); (try have e2 := hS.2.1.cell); (try have e3 := hS.2.2.1.cell); (try have e4 := hS.2.2.2.1.cell); (try have f1 := hS.1); (try have f2 := hS.2.1); (try have f3 := hS.2.2.1); (try have f4 := hS.2.2.2.1); (try have f5 := hS.2.2.2.2.1); clear hS; go_simp; (try with_reducible rfl))); (go_simp; refine hK _ ?_; clear hK K)))
    refine wpSched_nil ?_
    have hbm : Below W.heap.size W w1 := by (repeat (first | exact Below.refl _ _ | with_reducible assumption | refine pb_alloc ?_ _ | refine pb_drew ?_ | refine pb_drewN ?_ _ | refine pb_set ?_ (by simp; try omega) _ | refine pb_trans ?_ (by with_reducible assumption)))
    clear heq kx1 kf1 kf'
    cases q
    · have hq : ¬ (xe, xv, xs) = (ep, ve, st) := fun h => by
        have := hqd.out
        simp only [Prod.mk.injEq] at h
        obtain ⟨rfl, rfl, rfl⟩ := h
        simp at this
      have hav : aheadP (ep, ve, st) (f.eras.drop (k + 1)) xv = aheadP (ep, ve, st) f.eras 0 := by
        rw [← ha.out, aheadP_cons, if_neg hq]
      have kx1 := kx.call hbm
      have ex := kx1.cell
      have evv := kv1.cell
      have fvv := kv1.frozen
      have lv1 := kv1.lt
      clear hq
      replace hav : Hid (_ = _) := hav
      gi_wp2
      have hm : Mod (fun k => k = fb + 1 + 1) W (w1.setCell ⟨fb + 1 + 1, 0, none⟩ (.int .i64 xv)) := (Mod.of_below (fun k => k = fb + 1 + 1) hbm).thenSet (p := ⟨fb + 1 + 1, 0, none⟩) rfl _
      exact ⟨⟨hfr.mod hm (fun k _ h => h), by omega, xv, kv1.set _, hav.out⟩, Saves.of_mod hm (fun k _ hX he => by have := hfr.1 k hX; omega)⟩
    · have hq : (xe, xv, xs) = (ep, ve, st) := by
        have := hqd.out
        simp only [Bool.and_eq_true, beq_iff_eq] at this
        obtain ⟨h1, h2, h3⟩ := this
        simp only [Prod.mk.injEq]
        exact ⟨by omega, h2, h3⟩
      have hav : v = aheadP (ep, ve, st) f.eras 0 := by rw [← ha.out, aheadP_cons, if_pos hq]
      clear hq
      replace hav : Hid (_ = _) := hav
      gi_wp2
      exact ⟨⟨rfl, hfr.mod (Mod.of_below (fun _ => False) hbm) (fun _ _ h => h.elim), by rw [← hav.out]; exact kv1⟩, Saves.of_mod (Mod.of_below (fun _ => False) hbm) (fun _ _ _ h => h)⟩
  case done =>
    rintro D k X W hD hXD hfin ⟨hfr, hk, v, kv', ha⟩ hdef
    obtain rfl : k = f.eras.length := hfin
    rw [List.drop_length] at ha
    have hav : v = aheadP (ep, ve, st) f.eras 0 := ha
    rw [hav] at kv'
    have hbW : Below w.heap.size w W := hb0.trans (hfr.below (by have := hb0.size; omega) (fun k hk => by omega))
    have kf' := kf.mod hfr.2 (by omega)
    have ef := kf'.cell
    have evv := kv'.cell
    have hbeg := begin_any B f t (ow.cut w) (aheadP (ep, ve, st) f.eras 0) false W ((FoldAt.loc B f t).cut h0.out hbW) hl
    have hDl := (Array.getElem?_eq_some_iff.1 hdef).1
    have hDw : w.heap.size ≤ D := by have := hb0.size; omega
    replace hbeg : Hid (Calls _ _ _ _ _) := hbeg
    go_wp2_with (go_at_call 187; refine hbeg.out.mono ?_; rintro e w2 ⟨rfl, ow2, hs2, hf2⟩; replace hf2 : Hid (FoldAt _ _ _ _ _) := hf2)
    rw [Exit.noGoto_ret]
    have hfree := hs2.free ht hDw hDl
    exact end_mark1 (D := D) (v := .tuple #[.slice none 0 0, .bool true]) (hfree.1.trans hdef) (by simp [results, Tryz.results162, go_sem])
      ⟨rfl, ow2, (Step.wrap hbW hs2).putNew D _ hDw, by rw [hn.out]; exact (FoldAt.loc B _ t).put ht hf2.out hfree.2 _⟩
  case stop =>
    rintro D c X W hD hXD ⟨rfl, hfr, kv'⟩ hdef
    have hbW : Below w.heap.size w W := hb0.trans (hfr.below (by have := hb0.size; omega) (fun k hk => by omega))
    have kf' := kf.mod hfr.2 (by omega)
    have ef := kf'.cell
    have evv := kv'.cell
    have hbeg := begin_any B f t (ow.cut w) (aheadP (ep, ve, st) f.eras 0) false W ((FoldAt.loc B f t).cut h0.out hbW) hl
    have hDl := (Array.getElem?_eq_some_iff.1 hdef).1
    have hDw : w.heap.size ≤ D := by have := hb0.size; omega
    replace hbeg : Hid (Calls _ _ _ _ _) := hbeg
    go_wp2_with (go_at_call 187; refine hbeg.out.mono ?_; rintro e w2 ⟨rfl, ow2, hs2, hf2⟩; replace hf2 : Hid (FoldAt _ _ _ _ _) := hf2)
    rw [Exit.noGoto_ret]
    have hfree := hs2.free ht hDw hDl
    exact end_mark1 (D := D) (v := .tuple #[.slice none 0 0, .bool true]) (hfree.1.trans hdef) (by simp [results, Tryz.results162, go_sem])
      ⟨rfl, ow2, (Step.wrap hbW hs2).putNew D _ hDw, by rw [hn.out]; exact (FoldAt.loc B _ t).put ht hf2.out hfree.2 _⟩
end Go.Proofs.YtaopeioebpfdeaaGreatDoor
namespace Go.Proofs.YtaopeioebpfdeaaGreatDoor
open Go

theorem takeRow_size : ∀ (n : Nat) (ws : List (MId × MsgD)) (x : MsgD), WsOk ws → (takeRow n ws x).2.length + (takeRow n ws x).1.length ≤ (del x.1 ws).length + 1
  | 0, ws, x, _ => by simp [takeRow]; omega
  | n + 1, ws, x, hw => by
    unfold takeRow
    cases hl : look (x.1.1, (x.1.2 + 1) % 4294967296) (del x.1 ws) with
    | none => simp; omega
    | some y =>
      have h1 := takeRow_size n (del x.1 ws) y (hw.del _)
      have hy : y.1 = (x.1.1, (x.1.2 + 1) % 4294967296) := ((hw.del x.1) _ (look_mem hl)).1
      have hlen := del_len hl
      rw [← hy] at hlen
      simp; omega
theorem put_len {V : Type} (k : MId) (v : V) : ∀ l : List (MId × V), (put k v l).length ≤ l.length + 1
  | [] => by simp [put]
  | (k', v') :: l => by
    have ih := put_len k v l
    unfold put
    split
    · simp
    · simp; exact ih
/-- How many messages a book holds. -/
def bookN (b : BookS) : Nat := b.log.length + b.ws.length
theorem take_log (b : BookS) (m : MsgD) : (takeP b m).1.log = b.log ++ (takeP b m).2.1 := by
  unfold takeP
  split
  · simp
  · split
    · split <;> simp
    · simp
theorem take_N {b : BookS} (hok : BookOk b) (m : MsgD) : bookN (takeP b m).1 ≤ bookN b + 1 := by
  unfold takeP bookN
  split
  · simp
  · split
    · split
      · simp
      · have := put_len m.1 m b.ws; simp; omega
    · have h1 := takeRow_size b.ws.length b.ws m hok.keys
      have h2 := del_len_le m.1 b.ws
      simp; omega
theorem wsOk_put {ws : List (MId × MsgD)} (h : WsOk ws) {m : MsgD} (hm : rightM m = true) : WsOk (put m.1 m ws) := by
  induction ws with
  | nil => intro p hp; simp [put] at hp; subst hp; exact ⟨rfl, hm⟩
  | cons q l ih =>
    obtain ⟨k, v⟩ := q
    intro p hp
    unfold put at hp
    split at hp
    · rcases List.mem_cons.1 hp with rfl | h1
      · exact ⟨rfl, hm⟩
      · exact h p (List.mem_cons_of_mem _ h1)
    · rcases List.mem_cons.1 hp with rfl | h1
      · exact h _ (List.mem_cons_self ..)
      · exact ih (fun q hq => h q (List.mem_cons_of_mem _ hq)) p h1
theorem take_ok {b : BookS} (hok : BookOk b) (m : MsgD) : BookOk (takeP b m).1 := by
  unfold takeP
  split
  · exact hok
  · rename_i hr
    have hr' : rightM m = true := by simpa using hr
    split
    · split
      · exact hok
      · exact ⟨hok.sixteen, hok.most, wsOk_put hok.keys hr'⟩
    · exact hok.row hr' _
theorem deliver_snoc (b : BookS) : ∀ (l : List MsgD) (m : MsgD), deliverP b (l ++ [m]) = ((takeP (deliverP b l).1 m).1, (deliverP b l).2 ++ (takeP (deliverP b l).1 m).2.1)
  | [], m => by simp [deliverP]
  | x :: l, m => by
    have ih := deliver_snoc (takeP b x).1 l m
    simp [deliverP, ih]
theorem deliver_ok {b : BookS} (hok : BookOk b) : ∀ (l : List MsgD), BookOk (deliverP b l).1 ∧ bookN (deliverP b l).1 ≤ bookN b + l.length ∧ (deliverP b l).1.log = b.log ++ (deliverP b l).2
  | [] => ⟨hok, Nat.le_refl _, by simp [deliverP]⟩
  | m :: l => by
    have h1 := deliver_ok (take_ok hok m) l
    have h2 := take_N hok m
    have h3 := take_log b m
    refine ⟨h1.1, ?_, ?_⟩
    · have := h1.2.1; simp only [deliverP, List.length_cons]; omega
    · simp only [deliverP]; rw [h1.2.2, h3, List.append_assoc]
theorem deliver_len {b : BookS} (hok : BookOk b) (l : List MsgD) : (deliverP b l).2.length ≤ bookN b + l.length := by
  have h := deliver_ok hok l
  have h2 := congrArg List.length h.2.2
  have h3 := h.2.1
  rw [List.length_append] at h2
  unfold bookN at h3 ⊢
  omega
theorem newBook_ok : BookOk newBook := ⟨rfl, by simp [newBook], by simp [newBook]⟩
end Go.Proofs.YtaopeioebpfdeaaGreatDoor
namespace Go.Proofs.YtaopeioebpfdeaaGreatDoor
open Go Go.RowKit Go.Shelf Go.Extern.Stop Go.Stop Go.Extern
attribute [local go_sem] Oper.semAt_some wide_fn wide_depth

theorem Step.grownNew {t : List Nat} {ow o1 : Own} {W W1 W2 : World} {row : Option Nat} (h : Step t ow W o1 W1) (hg : W1.grownBy W2 row) (hr : ∀ k, row = some k → W.heap.size ≤ k) : Step t ow W o1 W2 :=
  ⟨h.mod.trans (Mod.grown (X := fun k => row = some k) hg (fun _ h => h)) (fun _ _ e => e) (fun k hk e => by have := hr k e; omega), h.agree⟩
/-- Behind a step what is new is nobody's, but for what the step has taken. -/
theorem Step.cut {t : List Nat} {ow o1 : Own} {W W1 : World} (h : Step t ow W o1 W1) : Step t ow W (o1.cut W1) W1 := ⟨h.mod, fun k hk => (Own.cut_old (Nat.lt_of_lt_of_le hk h.size)).trans (h.agree k hk)⟩
theorem Local.cutHere {t : List Nat} {A : Own → World → Prop} (hA : Local t A) {ow : Own} {w : World} (h : A ow w) : A (ow.cut w) w := hA.cut h (Below.refl _ _)

/-- What was nobody's stays nobody's. -/
theorem Step.free2 {t : List Nat} {ow ow2 : Own} {w W w2 : World} (h : Step t (ow.cut w) W ow2 w2) {k : Nat} (hk : k < w.heap.size) (ho : ow k = []) (hs : w.heap.size ≤ W.heap.size) : ow2 k = [] :=
  (h.agree k (Nat.lt_of_lt_of_le hk hs)).trans ((Own.cut_old hk).trans ho)
/-- What deliver comes to. -/
def DelivPost (bb : Nat) (t : List Nat) (ow : Own) (w : World) (R : BookS × List MsgD) (e : Ending) (w' : World) : Prop :=
  ∃ v ow', e = .returned v ∧ Step t ow w ow' w' ∧ BookAt bb R.1 t ow' w' ∧ Row w' 34 3 v R.2.length (R.2.flatMap msgCells) ∧ (∀ g, v.ownBlock = some g → w.heap.size ≤ g ∧ ow' g = [])
/-- What holds ahead of each round. -/
def DelivAt (bb : Nat) (t : List Nat) (ow : Own) (w : World) (b : BookS) (l : List MsgD) (k : Nat) (v : Value) (W : World) : Prop :=
  k ≤ l.length ∧ ∃ ow1, Step t ow w ow1 W ∧ BookAt bb (deliverP b (l.take k)).1 t ow1 W ∧ Row W 34 3 v (deliverP b (l.take k)).2.length ((deliverP b (l.take k)).2.flatMap msgCells) ∧ (∀ g, v.ownBlock = some g → w.heap.size ≤ g ∧ ow1 g = [])

set_option maxRecDepth 8000 in
set_option maxHeartbeats 1000000 in
theorem deliver_any (B bb : Nat) (b : BookS) (t : List Nat) (ht : t ≠ []) (ow : Own) (mv : Value) (l : List MsgD) (w : World) (hB : w.cell? ⟨B, 0, none⟩ = some (.pointer (some ⟨bb, 0, none⟩))) (hBt : ¬ Sub t (ow B))
    (hb : BookAt bb b t ow w) (hm : MsgsAt w mv l) (hmt : ∀ a l c, mv = .slice (some a) l c → ¬ Sub t (ow a.block)) (hl : bookN b + l.length ≤ 536870912) :
    Calls Tryz.prog 186 #[.pointer (some ⟨B, 0, none⟩), mv] w (DelivPost bb t ow w (deliverP b l)) := by
  have hok := hb.1
  obtain ⟨a, c, rfl⟩ := hm.shape
  have hBl := cell_lt hB
  go_enter Tryz.func186, Tryz.ntmps186
  go_wp2
  go_loopw [5, 12] (fun p5 p12 wr => ∃ k : Nat, p12 = .int .i64 k ∧ DelivAt bb t ow w b l k p5 wr) (fun _ p12 _ => l.length - (intOf p12).toNat)
  case atStart => exact ⟨0, rfl, Nat.zero_le _, ow, Step.refl _ _ _, hb, row_nil _ _ _, by simp [Value.ownBlock]⟩
  case round =>
    obtain ⟨k, rfl, hk, ow1, hs1, hb1, hR1, hn1⟩ := hrel
    by_cases hlt : k < l.length
    · obtain ⟨x, hx⟩ : ∃ x, l[k]? = some x := ⟨_, List.getElem?_eq_getElem hlt⟩
      rcases hm.2 with ⟨h, h'⟩ | ⟨mb, off, cap, h, hc, -⟩
      · omega
      cases h
      have hm1 := hm.step hs1 hmt
      have hcell : ∀ j, j < 3 → wr.cell? ⟨mb, off + (k * 3 + j), none⟩ = (msgCells x)[j]? := fun j hj => by
        have h1 := flatMsg_at l k x hx j hj
        rcases hm1.2 with ⟨h, -⟩ | ⟨mb', off', cap', h, -, hr⟩
        · cases h
        · cases h
          cases hu : (msgCells x)[j]? with
          | none => simp [msgCells] at hu; omega
          | some u => exact hr _ u (h1.trans hu)
      have c0 : wr.cell? ⟨mb, off + k * 3, none⟩ = (msgCells x)[0]? := hcell 0 (by omega)
      have c1 : wr.cell? ⟨mb, off + k * 3 + 1, none⟩ = (msgCells x)[1]? := hcell 1 (by omega)
      have c2 : wr.cell? ⟨mb, off + k * 3 + 2, none⟩ = (msgCells x)[2]? := hcell 2 (by omega)
      have htk : l.take (k + 1) = l.take k ++ [x] := by rw [List.take_add_one, hx]; rfl
      have hdn := deliver_snoc b (l.take k) x
      rw [← htk] at hdn
      have hok1 := deliver_ok hok (l.take k)
      have hlen1 := deliver_len hok (l.take k)
      rw [List.length_take] at hok1 hlen1
      obtain ⟨⟨i, cc⟩, d⟩ := x
      simp only [msgCells, List.getElem?_cons_zero, List.getElem?_cons_succ] at c0 c1 c2
      have eB : wr.cell? ⟨B, 0, none⟩ = some (.pointer (some ⟨bb, 0, none⟩)) := (hs1.cell hBl hBt).trans hB
      have hBl1 := cell_lt eB
      have hB1t : ¬ Sub t (ow1 B) := by rw [hs1.agree B hBl]; exact hBt
      clear hcell hm1
      replace hdn : Hid (_ = _) := hdn
      replace htk : Hid (_ = _) := htk
      replace hx : Hid (_ = _) := hx
      replace hn1 : Hid (∀ _, _) := hn1
      replace hb1 : Hid (BookAt _ _ _ _ _) := hb1
      replace hmt : Hid (∀ _, _) := hmt
      go_wp2
      clear c0 c1 c2
      obtain ⟨W1, hW1⟩ : ∃ W1, W1 = (wr.alloc (.cells #[.int .i64 i, .int .u32 cc, .string (bs d)] 34)).drew := ⟨_, rfl⟩
      have hbw1 : Below wr.heap.size wr W1 := by rw [hW1]; (repeat (first | exact Below.refl _ _ | with_reducible assumption | refine pb_alloc ?_ _ | refine pb_drew ?_ | refine pb_drewN ?_ _ | refine pb_set ?_ (by simp; try omega) _ | refine pb_trans ?_ (by with_reducible assumption)))
      have kx : Blk W1 wr.heap.size #[.int .i64 i, .int .u32 cc, .string (bs d)] 34 := by rw [hW1]; (repeat (first | with_reducible assumption | (refine Blk.new ?_; simp; done) | refine Blk.alloc ?_ _ | refine Blk.drew ?_ | refine Blk.drewN ?_ _ | refine Blk.call ?_ (by with_reducible assumption)))
      have eB1 := (hbw1.cell hBl1).trans eB
      have hsz1 : W1.heap.size = wr.heap.size + 1 := by rw [hW1]; simp
      refine wp_region_sched [(0, true), (1, true), (2, true), (3, true), (4, true), (5, false), (6, true), (7, true), (8, true), (9, true), (10, true)] none (fun w' => Blk w' wr.heap.size #[.int .i64 i, .int .u32 cc, .string (bs d)] 34 ∧ w'.cell? ⟨B, 0, none⟩ = some (.pointer (some ⟨bb, 0, none⟩)) ∧ True) (by kernel_rfl) (by kernel_rfl) (by rw [← hW1]; exact ⟨kx, eB1, trivial⟩) ?_
      rw [← hW1]
      clear hW1 eB
      (repeat (refine wpSched_quiet (v := ?_) rfl rfl (fun w' hS => ?_) (fun K hK => ?_); rotate_left; (focus ((try have e1 := hS.1.cell); (try have e2 := hS.2.1.cell); (try have e3 := hS.2.2.1.cell); (try have e4 := hS.2.2.2.1.cell); (try have f1 := hS.1); (try have f2 := hS.2.1); (try have f3 := hS.2.2.1); (try have f4 := hS.2.2.2.1); (try have f5 := hS.2.2.2.2.1); clear hS; go_simp; (try with_reducible rfl))); (go_simp; refine hK _ ?_; clear hK K)))
      refine wpSched_loud rfl (fun K hK => ?_)
      have htake := take_any bb (deliverP b (l.take k)).1 t ht (ow1.cut wr) ((i, cc), d) W1 ((BookAt.loc bb _ t).cut hb1.out hbw1) (by have := hok1.2.1; unfold bookN at this hl; omega)
      unfold msgV at htake
      replace htake : Hid (Calls _ _ _ _ _) := htake
      go_wp2_with (go_at_call 204; refine htake.out.mono ?_; rintro e w2 ⟨nv, ow2, rfl, hs2, hb2, hR2, hn2⟩; replace hn2 : Hid (∀ _, _) := hn2; replace hb2 : Hid (BookAt _ _ _ _ _) := hb2)
      have hfx := hs2.free ht (Nat.le_refl _) (by omega)
      refine hK.out _ _ (fun _ => ⟨kx.kept hfx.1, (hs2.cell (p := ⟨B, 0, none⟩) (by show B < _; omega) (by rw [Own.cut_old hBl1]; exact hB1t)).trans eB1, trivial⟩) ?_
      clear hK K
      (repeat (refine wpSched_quiet (v := ?_) rfl rfl (fun w' hS => ?_) (fun K hK => ?_); rotate_left; (focus ((try have e1 := hS.1.cell); (try have e2 := hS.2.1.cell); (try have e3 := hS.2.2.1.cell); (try have e4 := hS.2.2.2.1.cell); (try have f1 := hS.1); (try have f2 := hS.2.1); (try have f3 := hS.2.2.1); (try have f4 := hS.2.2.2.1); (try have f5 := hS.2.2.2.2.1); clear hS; go_simp; (try with_reducible rfl))); (go_simp; refine hK _ ?_; clear hK K)))
      refine wpSched_nil ?_
      have hu2 := Hid.out hn1
      have hR1' := (hR1.below hbw1).step hs2 (fun g hg => by rw [Own.cut_old (hR1.lt hg), (hu2 g hg).2]; exact not_sub_nil ht)
      have hlenA : (deliverP b (l.take k)).2.length + (takeP (deliverP b (l.take k)).1 ((i, cc), d)).2.1.length ≤ 1073741824 := by
        have h1 := deliver_len hok (l.take (k + 1))
        rw [hdn.out] at h1
        simp only [List.length_append, List.length_take] at h1
        omega
      clear hu2 eB1 kx
      replace hlenA : Hid (_ ≤ _) := hlenA
      go_wp2_with (at_builtin
                   obtain ⟨v', W3, hrun, hrow, hgr, hown⟩ := row_append msgT hR1' hR2.src (msgCells_one _) hlenA.out 42
                   refine wpList_append_by rfl _ _ _ rfl rfl rfl hrun ?_
                   clear hrun)
      go_roundw
      case rel =>
        have hst : Step t ow w ow2 w2 := hs1.trans (Step.wrap hbw1 hs2)
        have hnv := hn1.out
        have hog : ∀ g, _ := fun g hg => (hs2.free2 (hR1.lt (g := g) hg) (hnv g hg).2 hbw1.size)
        refine ⟨k + 1, by go_num, by omega, ow2.cut w2, (Step.cut hst).grownNew hgr (fun g hg => (hnv g hg).1), ?_, ?_, ?_⟩
        · rw [hdn.out]
          exact (BookAt.loc bb _ t) _ _ _ _ ((BookAt.loc bb _ t).cutHere hb2.out) hgr.size (fun g hg hs => ⟨rfl, hgr.block g hg (fun e => by
            rw [Own.cut_old hg, hog g e.symm] at hs; exact not_sub_nil ht hs)⟩)
        · rw [hdn.out]
          simp only [List.length_append, List.flatMap_append]
          exact hrow
        · intro g hg
          rw [hg] at hown
          rcases hown with h | h
          · exact ⟨(hnv g h.symm).1, by rw [Own.cut_old (hR1'.lt h.symm)]; exact hog g h.symm⟩
          · simp at h
            exact ⟨by rw [h]; exact hst.size, Own.cut_new (by omega)⟩
      case measure => simp [intOf]; omega
    · obtain rfl : k = l.length := by omega
      rw [List.take_length] at hb1 hR1
      replace hn1 : Hid (∀ _, _) := hn1
      replace hb1 : Hid (BookAt _ _ _ _ _) := hb1
      clear hm hmt hB
      go_wp2
      go_ret
      exact ⟨_, ow1, rfl, hs1, hb1.out, hR1, hn1.out⟩
end Go.Proofs.YtaopeioebpfdeaaGreatDoor
