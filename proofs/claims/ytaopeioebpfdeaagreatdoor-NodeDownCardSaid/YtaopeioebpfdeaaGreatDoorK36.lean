/- PROVED HERE: WALK: node's enter. Condition: the node is one that calls have made, with no bad versions. -/
import Derived.Test.YtaopeioebpfdeaaGreatDoorK35
namespace Go.Proofs.YtaopeioebpfdeaaGreatDoor
open Go Go.RowKit Go.Shelf Go.Extern.Stop Go.Stop Go.Extern
attribute [local go_sem] Oper.semAt_some wide_fn wide_depth

theorem applyL_len {L : LocalS} {k : Nat} (h : LocalB L k) (e : EntryD) (f : Bool) : (applyL L e f).2.1.length ≤ 128 * (k + 1) := by
  have h1 := h.len
  have h2 := apply_len h.fold e
  unfold applyL
  split
  · simp
  · refine Nat.le_trans (releaseL_len _) ?_
    unfold holdL
    simp only [(midL_same L _ f).1, List.length_append]
    omega
/-- What enter comes to. -/
def EnterPost (B : Nat) (t : List Nat) (ow : Own) (w : World) (R : NodeS × List MsgD) (e : Ending) (w' : World) : Prop :=
  ∃ v ow', e = .returned v ∧ Step t ow w ow' w' ∧ NodeAt B R.1 t ow' w' ∧ Row w' 34 3 v R.2.length (R.2.flatMap msgCells) ∧ (∀ g, v.ownBlock = some g → w.heap.size ≤ g ∧ ow' g = [])
set_option maxRecDepth 8000 in
set_option maxHeartbeats 2000000 in
theorem nEnter_any {px sb lb pb : Nat} {av : Value} (a : Addr) (B : Nat) (n : NodeS) (t : List Nat) (ht : t ≠ []) (ow : Own) (e : EntryD) (mv : Value) (w : World) (hN : NodeIs B px sb lb pb av n t ow w) (he : ErrAt w a) (hge : ow 0 = [])
    (hm : MsgsAt w mv e.msgs) (hmt : ∀ a l c, mv = .slice (some a) l c → ow a.block = []) (hm2 : e.msgs.length ≤ 1073741824) {k : Nat} (hb : LocalB n.loc k) (hk : k ≤ 10000) (hacc : n.acc.length ≤ 200000) :
    Calls Tryz.prog 76 #[.pointer (some ⟨B, 0, none⟩), entV e mv] w (EnterPost B t ow w (enterN n e)) := by
  have hf := hb.fold
  have hln := hb.len
  have heras := hf.eras
  have hb2 := applyL_b hb e false
  have hms := applyL_len hb e false
  have hal := apply_len hf e
  have hae := (apply_b hf e).eras
  have hge' : e.ver = e.ver := rfl
  have hlt := he.lt
  have hb0 : Below w.heap.size w (w.alloc (.cells #[.int .i64 e.kind, .int .u32 e.epoch, .int .i64 e.ver, mv] 65)) := by (repeat (first | exact Below.refl _ _ | with_reducible assumption | refine pb_alloc ?_ _ | refine pb_drew ?_ | refine pb_drewN ?_ _ | refine pb_set ?_ (by simp; try omega) _ | refine pb_trans ?_ (by with_reducible assumption)))
  have hNa := (NodeIs.loc B px sb lb pb av n t).cut hN hb0
  have kA : Blk (w.alloc (.cells #[.int .i64 e.kind, .int .u32 e.epoch, .int .i64 e.ver, mv] 65)) w.heap.size #[.int .i64 e.kind, .int .u32 e.epoch, .int .i64 e.ver, mv] 65 := Blk.new (by simp)
  have hma : MsgsAt (w.alloc (.cells #[.int .i64 e.kind, .int .u32 e.epoch, .int .i64 e.ver, mv] 65)) mv e.msgs := Src.below hm hb0
  have hmlt : ∀ a l c, mv = .slice (some a) l c → (ow.cut w) a.block = [] := fun a l c hv => by
    rcases Nat.lt_or_ge a.block w.heap.size with h | h
    · rw [Own.cut_old h]; exact hmt a l c hv
    · exact Own.cut_new h
  have hea : ErrAt (w.alloc (.cells #[.int .i64 e.kind, .int .u32 e.epoch, .int .i64 e.ver, mv] 65)) a := he.below hb0 hlt
  have hga : (ow.cut w) 0 = [] := by rw [Own.cut_old hlt]; exact hge
  have hwrap := fun (ow2 : Own) (w2 : World) (h : Step t (ow.cut w) (w.alloc (.cells #[.int .i64 e.kind, .int .u32 e.epoch, .int .i64 e.ver, mv] 65)) ow2 w2) => Step.wrap hb0 h
  have hnewA : (ow.cut w) w.heap.size = [] := Own.cut_new (Nat.le_refl _)
  have hW0 : ∃ W0, W0 = w.alloc (.cells #[.int .i64 e.kind, .int .u32 e.epoch, .int .i64 e.ver, mv] 65) := ⟨_, rfl⟩
  obtain ⟨W0, hW0⟩ := hW0
  have hpost : ∀ v ow2 w2 m ms, Step t (ow.cut w) W0 ow2 w2 → NodeAt B m t ow2 w2 → Row w2 34 3 v ms.length (ms.flatMap msgCells) → (∀ g, v.ownBlock = some g → w.heap.size ≤ g ∧ ow2 g = []) → EnterPost B t ow w (m, ms) (.returned v) w2 :=
    fun v ow2 w2 m ms h1 h2 h3 h4 => ⟨v, ow2, rfl, hwrap ow2 w2 (by rw [hW0] at h1; exact h1), h2, h3, h4⟩
  have hsz : w.heap.size < W0.heap.size := by rw [hW0]; simp
  rw [← hW0] at hNa kA hma hea
  have hen : enterN n e = (offerN (n.acc.length + 1) { n with loc := (applyL n.loc e (n.bad.contains (aheadN n e))).1, wanted := if nowP (applyL n.loc e (n.bad.contains (aheadN n e))).1.fold.eras = nowP n.loc.fold.eras then n.wanted else 0, pool := doneP (doneP n.pool (applyL n.loc e (n.bad.contains (aheadN n e))).2.1) (applyL n.loc e (n.bad.contains (aheadN n e))).1.held }, (applyL n.loc e (n.bad.contains (aheadN n e))).2.1) := rfl
  have hbc : n.bad.contains (aheadN n e) = false := by rw [hN.bad]; rfl
  rw [hbc] at hen
  clear hbc
  have hla := fun W h1 h2 h3 => lApply_any a lb n.loc (t ++ [2]) (by simp) (ow.cut w) e mv false W h1 hga h2 h3 (fun a l c hv => by rw [hmlt a l c hv]; exact not_sub_nil (by simp)) (by have := hf.few; omega) (by omega) hm2 ⟨hf.low, by have := hf.high; omega⟩ (by omega) (by omega)
  have hera := fun ow' W h => lEra_any lb n.loc (t ++ [2]) ow' W h (by omega)
  have hah := fun W h => ahead_any (px := px) (sb := sb) (lb := lb) (pb := pb) (av := av) B n t (ow.cut w) e mv W h (by omega)
  obtain ⟨⟨L', ms, er⟩, hR⟩ : ∃ R, applyL n.loc e false = R := ⟨_, rfl⟩
  rw [hR] at hla hen hb2 hms
  unfold LApplyPost at hla
  simp only at hla hen hb2 hms
  have hera2 := fun ow' W h => lEra_any lb L' (t ++ [2]) ow' W h (by have := hb2.fold.eras; omega)
  have hhold := fun ow' W h => lHolds_any lb L' (t ++ [2]) ow' W h (by have := hb2.len; omega)
  have hhl : L'.held.length ≤ 1073741824 := by have := hb2.len; omega
  obtain ⟨⟨p1, p2, p3⟩, hP⟩ : ∃ x, nowP n.loc.fold.eras = x := ⟨_, rfl⟩
  obtain ⟨⟨q1, q2, q3⟩, hQ⟩ : ∃ x, nowP L'.fold.eras = x := ⟨_, rfl⟩
  rw [hP] at hera hen
  rw [hQ] at hera2 hen
  have hneq := fun W => era_neq (q1, q2, q3) (p1, p2, p3) W
  unfold eraV at hera hera2
  unfold entV at hla hah ⊢
  unfold eraV at hneq
  simp only at hera hera2 hneq
  have hdone := fun (M : NodeS) (ow' : Own) W v (hpl : PoolAt pb n.pool (t ++ [3]) ow' W) (h2 : Src W v 3 ms.length (ms.flatMap msgCells)) h3 => plDone_any pb n.pool (t ++ [3]) ow' v ms W hpl h2 (by omega) h3
  have hdone2 := fun (ow' : Own) W v h1 h2 h3 => plDone_any pb (doneP n.pool ms) (t ++ [3]) ow' v L'.held W h1 h2 (by omega) h3
  rw [hen]
  have hmonoW : Below W0.heap.size W0 W0 := Below.refl _ _
  replace hen : Hid (_ = _) := hen
  replace hla : Hid (∀ _, _) := hla
  replace hera : Hid (∀ _, _) := hera
  replace hera2 : Hid (∀ _, _) := hera2
  replace hhold : Hid (∀ _, _) := hhold
  replace hah : Hid (∀ _, _) := hah
  replace hR : Hid (_ = _) := hR
  replace hP : Hid (_ = _) := hP
  replace hQ : Hid (_ = _) := hQ
  replace hdone : Hid (∀ _, _) := hdone
  replace hdone2 : Hid (∀ _, _) := hdone2
  replace hpost : Hid (∀ _, _) := hpost
  replace hmlt : Hid (∀ _, _) := hmlt
  clear hwrap hb2 hms hge' hmonoW
  have hB0w := hN.blk
  unfold nodeCells at hB0w
  have cw := hB0w.cell
  have lw := hB0w.lt
  have hB := hNa.blk
  unfold nodeCells at hB
  clear hN hB0w
  go_enter Tryz.func76, Tryz.ntmps76
  go_wp2_with fail
  rw [← hW0]
  clear hW0 cw lw
  refine (hera.out _ _ hNa.lo).mono ?_
  rintro r w1 ⟨rfl, hb1⟩
  have hbE : Below W0.heap.size W0 (w1.alloc (.cells #[.int .u32 p1, .int .i64 p2, .int .i64 p3] 92)) := by (repeat (first | exact Below.refl _ _ | with_reducible assumption | refine pb_alloc ?_ _ | refine pb_drew ?_ | refine pb_drewN ?_ _ | refine pb_set ?_ (by simp; try omega) _ | refine pb_trans ?_ (by with_reducible assumption)))
  have kE : Blk (w1.alloc (.cells #[.int .u32 p1, .int .i64 p2, .int .i64 p3] 92)) w1.heap.size #[.int .u32 p1, .int .i64 p2, .int .i64 p3] 92 := Blk.new (by simp)
  have hz1 := hb1.size
  obtain ⟨W1, hW1⟩ : ∃ W1, W1 = w1.alloc (.cells #[.int .u32 p1, .int .i64 p2, .int .i64 p3] 92) := ⟨_, rfl⟩
  have hTE : w1.heap.size < W1.heap.size := by rw [hW1]; simp
  have hnewE : (ow.cut w) w1.heap.size = [] := Own.cut_new (by omega)
  go_wp2_with fail
  rw [← hW1] at hbE kE ⊢
  clear hW1
  have hbD : Below W0.heap.size W0 W1.drew := pb_drew hbE
  have hN1 := (NodeIs.loc B px sb lb pb av n t).below hNa hbD
  have kA1 := kA.call hbD
  have kE1 : Blk W1.drew w1.heap.size #[.int .u32 p1, .int .i64 p2, .int .i64 p3] 92 := kE.drew
  have hea1 := hea.below hbD (by omega)
  have hma1 := Src.below hma hbD
  have hB1 : Blk W1.drew B #[.pointer (some ⟨px, 0, none⟩), .int .i64 n.id, .int .i64 n.version, .slice none 0 0, .pointer (some ⟨sb, 0, none⟩), .pointer (some ⟨lb, 0, none⟩), .pointer (some ⟨pb, 0, none⟩), av, .int .i64 (n.offered : Nat), .int .i64 (n.applied : Nat), .int .i64 n.wanted, .bool n.down] 78 := hN1.blk
  clear kA kE hea hma hB
  refine wp_region_sched [(0, true), (1, true), (2, true), (3, true), (4, true), (5, true), (6, true), (7, true), (8, true), (9, true), (10, true), (11, false), (12, false), (13, false), (14, true), (15, true), (16, true), (17, true), (18, true)] none (fun w' => Blk w' B #[.pointer (some ⟨px, 0, none⟩), .int .i64 n.id, .int .i64 n.version, .slice none 0 0, .pointer (some ⟨sb, 0, none⟩), .pointer (some ⟨lb, 0, none⟩), .pointer (some ⟨pb, 0, none⟩), av, .int .i64 (n.offered : Nat), .int .i64 (n.applied : Nat), .int .i64 n.wanted, .bool n.down] 78 ∧ Blk w' w.heap.size #[.int .i64 e.kind, .int .u32 e.epoch, .int .i64 e.ver, mv] 65 ∧ True) (by kernel_rfl) (by kernel_rfl) ⟨hB1, kA1, trivial⟩ ?_
  (repeat (refine wpSched_quiet (v := ?_) rfl rfl (fun w' hS => ?_) (fun K hK => ?_); rotate_left; (focus ((try have e1 := hS.1.cell); (try have e2 := hS.2.1.cell); (try have e3 := hS.2.2.1.cell); (try have e4 := hS.2.2.2.1.cell); (try have f1 := hS.1); (try have f2 := hS.2.1); (try have f3 := hS.2.2.1); (try have f4 := hS.2.2.2.1); (try have f5 := hS.2.2.2.2.1); clear hS; go_simp; (try with_reducible rfl))); (go_simp; refine hK _ ?_; clear hK K)))
  refine wpSched_loud rfl (fun K hK => ?_)
  go_wp2_with fail
  refine (hah.out _ hN1).mono ?_
  rintro r w2 ⟨rfl, hb2⟩
  have hB2 := hB1.call hb2
  have kA2 := kA1.call hb2
  go_wp2
  refine hK.out _ _ (fun _ => ⟨hB2, kA2, trivial⟩) ?_
  clear hK K
  refine wpSched_loud rfl (fun K hK => ?_)
  go_wp2_with fail
  refine (Tryz.slices_Contains_int_empty none 0 _ _).mono ?_
  rintro r w3 ⟨rfl, hw3⟩
  obtain rfl := hw3.symm
  go_wp2
  refine hK.out _ _ (fun _ => ⟨hB2, kA2, trivial⟩) ?_
  clear hK K
  have hN2 := (NodeIs.loc B px sb lb pb av n t).below hN1 hb2
  refine wpSched_loud rfl (fun K hK => ?_)
  go_wp2_with fail
  refine (hla.out _ (hea1.below hb2 (by have := hbD.size; omega)) hN2.lo (Src.below hma1 hb2)).mono ?_
  rintro r w4 ⟨v, ow3, rfl, hs4, hL4, hrow4, hnew4⟩
  have hN4 := hN2.setLocal L' hs4 hL4
  have hB4 := hN2.blkS hs4
  unfold nodeCells at hB4
  have hAl : w.heap.size < w2.heap.size := kA2.lt
  have kA4 := kA2.kept (hs4.block hAl (by rw [hnewA]; exact not_sub_nil (by simp)))
  have kE4 := (kE1.call hb2).kept (hs4.block (kE1.call hb2).lt (by rw [hnewE]; exact not_sub_nil (by simp)))
  have hst4 : Step t (ow.cut w) W0 ow3 w4 := (Step.of_below t _ (hbD.trans (hb2.mono hbD.size))).trans (hs4.mono (Sub.child t 2))
  go_wp2
  refine hK.out _ _ (fun _ => ⟨hB4, kA4, trivial⟩) ?_
  clear hK K
  (repeat (refine wpSched_quiet (v := ?_) rfl rfl (fun w' hS => ?_) (fun K hK => ?_); rotate_left; (focus ((try have e1 := hS.1.cell); (try have e2 := hS.2.1.cell); (try have e3 := hS.2.2.1.cell); (try have e4 := hS.2.2.2.1.cell); (try have f1 := hS.1); (try have f2 := hS.2.1); (try have f3 := hS.2.2.1); (try have f4 := hS.2.2.2.1); (try have f5 := hS.2.2.2.2.1); clear hS; go_simp; (try with_reducible rfl))); (go_simp; refine hK _ ?_; clear hK K)))
  refine wpSched_nil ?_
  clear hB1 hB2 kA1 kA2 kA4
  go_wp2_with fail
  refine wp_region_sched [(0, true), (1, true), (2, true), (3, true), (5, true), (4, false), (6, true)] none (fun w' => Blk w' B #[.pointer (some ⟨px, 0, none⟩), .int .i64 n.id, .int .i64 n.version, .slice none 0 0, .pointer (some ⟨sb, 0, none⟩), .pointer (some ⟨lb, 0, none⟩), .pointer (some ⟨pb, 0, none⟩), av, .int .i64 (n.offered : Nat), .int .i64 (n.applied : Nat), .int .i64 n.wanted, .bool n.down] 78 ∧ Blk w' w1.heap.size #[.int .u32 p1, .int .i64 p2, .int .i64 p3] 92 ∧ True) (by kernel_rfl) (by kernel_rfl) ⟨hB4.drew, kE4.drew, trivial⟩ ?_
  (repeat (refine wpSched_quiet (v := ?_) rfl rfl (fun w' hS => ?_) (fun K hK => ?_); rotate_left; (focus ((try have e1 := hS.1.cell); (try have e2 := hS.2.1.cell); (try have e3 := hS.2.2.1.cell); (try have e4 := hS.2.2.2.1.cell); (try have f1 := hS.1); (try have f2 := hS.2.1); (try have f3 := hS.2.2.1); (try have f4 := hS.2.2.2.1); (try have f5 := hS.2.2.2.2.1); clear hS; go_simp; (try with_reducible rfl))); (go_simp; refine hK _ ?_; clear hK K)))
  refine wpSched_loud rfl (fun K hK => ?_)
  go_wp2_with fail
  refine (hera2.out _ _ ((LocalAt.loc lb L' (t ++ [2])).below hN4.lo (pb_drew (Below.refl _ _)))).mono ?_
  rintro r w5 ⟨rfl, hb5⟩
  have hb45 : Below w4.heap.size w4 w5 := pb_trans (pb_drew (Below.refl _ _)) hb5
  have hB5 := hB4.call hb45
  have kE5 := kE4.call hb45
  go_wp2
  refine hK.out _ _ (fun _ => ⟨hB5, kE5, trivial⟩) ?_
  clear hK K hB4 kE4 kE5 kE1
  by_cases hq : (q1, q2, q3) = (p1, p2, p3)
  · have hd := fun W => (hneq W).trans (by rw [show decide ((q1, q2, q3) ≠ (p1, p2, p3)) = false by simp [hq]])
    clear hneq
    (repeat (refine wpSched_quiet (v := ?_) rfl rfl (fun w' hS => ?_) (fun K hK => ?_); rotate_left; (focus ((try have e1 := hS.1.cell); (try have e2 := hS.2.1.cell); (try have e3 := hS.2.2.1.cell); (try have e4 := hS.2.2.2.1.cell); (try have f1 := hS.1); (try have f2 := hS.2.1); (try have f3 := hS.2.2.1); (try have f4 := hS.2.2.2.1); (try have f5 := hS.2.2.2.2.1); clear hS; go_simp; (try with_reducible rfl))); (go_simp; refine hK _ ?_; clear hK K)))
    refine wpSched_nil ?_
    have hN5 := (NodeIs.loc B px sb lb pb av _ t).below hN4 hb45
    have hst5 : Step t (ow.cut w) W0 ow3 w5 := hst4.trans (Step.of_below t _ hb45)
    have hrow5 := hrow4.below hb45
    replace hq : Hid (_ = _) := hq
    have cB5 := hB5.cell
    have lB5 := hB5.lt
    go_wp2_with fail
    refine (hdone.out n _ _ v hN5.pool hrow5.src (fun a l c hv => by subst hv; rw [(hnew4 _ rfl).2]; exact not_sub_nil (by simp))).mono ?_
    rintro r w6 ⟨vd, rfl, hs6, hp6⟩
    have hN6 := hN5.setPool _ hs6 hp6
    have hB6 := hN5.blkS hs6
    unfold nodeCells at hB6
    have hrow6 := hrow5.step hs6 (fun g hg => by rw [(hnew4 g hg).2]; exact not_sub_nil (by simp))
    clear cB5 lB5
    go_wp2_with fail
    refine wp_region_sched [(0, true), (1, true), (2, true), (3, true), (4, true), (5, true), (6, true), (7, true), (8, false), (9, false)] none (fun w' => Blk w' B #[.pointer (some ⟨px, 0, none⟩), .int .i64 n.id, .int .i64 n.version, .slice none 0 0, .pointer (some ⟨sb, 0, none⟩), .pointer (some ⟨lb, 0, none⟩), .pointer (some ⟨pb, 0, none⟩), av, .int .i64 (n.offered : Nat), .int .i64 (n.applied : Nat), .int .i64 n.wanted, .bool n.down] 78 ∧ True) (by kernel_rfl) (by kernel_rfl) ⟨hB6.drew, trivial⟩ ?_
    (repeat (refine wpSched_quiet (v := ?_) rfl rfl (fun w' hS => ?_) (fun K hK => ?_); rotate_left; (focus ((try have e1 := hS.1.cell); (try have e2 := hS.2.1.cell); (try have e3 := hS.2.2.1.cell); (try have e4 := hS.2.2.2.1.cell); (try have f1 := hS.1); (try have f2 := hS.2.1); (try have f3 := hS.2.2.1); (try have f4 := hS.2.2.2.1); (try have f5 := hS.2.2.2.2.1); clear hS; go_simp; (try with_reducible rfl))); (go_simp; refine hK _ ?_; clear hK K)))
    refine wpSched_loud rfl (fun K hK => ?_)
    go_wp2_with fail
    refine (hhold.out _ _ ((LocalAt.loc lb L' (t ++ [2])).below hN6.lo (pb_drew (Below.refl _ _)))).mono ?_
    rintro r w7 ⟨vh, rfl, hrow7, hb7, hnew7⟩
    have hb67 : Below w6.heap.size w6 w7 := pb_trans (pb_drew (Below.refl _ _)) hb7
    have hB7 := hB6.call hb67
    go_wp2
    refine hK.out _ _ (fun _ => ⟨hB7, trivial⟩) ?_
    clear hK K
    refine wpSched_loud rfl (fun K hK => ?_)
    have hN7 := (NodeIs.loc B px sb lb pb av _ t).cut hN6 hb67
    go_wp2_with fail
    refine (hdone2.out _ _ vh hN7.pool hrow7.src (fun a l c hv => by subst hv; rw [Own.cut_new (w := w6) (hnew7 _ rfl)]; exact not_sub_nil (by simp))).mono ?_
    rintro r w8 ⟨vd2, rfl, hs8, hp8⟩
    have hN8 := hN7.setPool _ hs8 hp8
    have hB8 := hN7.blkS hs8
    unfold nodeCells at hB8
    have hrow8 := (hrow6.below hb67).step hs8 (fun g hg => by rw [Own.cut_old (hrow6.lt hg), (hnew4 g hg).2]; exact not_sub_nil (by simp))
    have hst8 : Step t (ow.cut w) W0 _ w8 := hst5.trans ((hs6.mono (Sub.child t 3)).trans (Step.wrap hb67 (hs8.mono (Sub.child t 3))))
    go_wp2
    refine hK.out _ _ (fun _ => ⟨hB8, trivial⟩) ?_
    clear hK K
    refine wpSched_nil ?_
    go_wp2_with fail
    refine (nOffer_any B _ t _ _ ⟨_, _, _, _, _, hN8⟩ (by show n.acc.length ≤ _; omega)).mono ?_
    rintro r w9 ⟨rfl, ow9, hs9, hN9⟩
    have hrow9 := hrow8.step hs9 (fun g hg => by rw [Own.cut_old (hrow6.lt hg), (hnew4 g hg).2]; exact not_sub_nil ht)
    have hnew9 : ∀ g, v.ownBlock = some g → w.heap.size ≤ g ∧ ow9 g = [] := fun g hg => ⟨by have := (hnew4 g hg).1; have := hb2.size; have := hbD.size; omega, by rw [hs9.agree g (hrow8.lt hg), Own.cut_old (hrow6.lt hg)]; exact (hnew4 g hg).2⟩
    replace hrow9 : Hid (Row _ _ _ _ _ _) := hrow9
    replace hnew9 : Hid (∀ _, _) := hnew9
    replace hnew4 : Hid (∀ _, _) := hnew4
    replace hnew7 : Hid (∀ _, _) := hnew7
    clear hrow8 hrow7 hrow6 hrow5
    go_wp2
    go_ret
    first | rw [if_pos hq.out] | rw [if_neg hq.out] | skip
    exact hpost.out _ _ _ _ _ (hst8.trans hs9) hN9 hrow9.out hnew9.out
  · have hd := fun W => (hneq W).trans (by rw [show decide ((q1, q2, q3) ≠ (p1, p2, p3)) = true from decide_eq_true hq])
    clear hneq
    (repeat (refine wpSched_quiet (v := ?_) rfl rfl (fun w' hS => ?_) (fun K hK => ?_); rotate_left; (focus ((try have e1 := hS.1.cell); (try have e2 := hS.2.1.cell); (try have e3 := hS.2.2.1.cell); (try have e4 := hS.2.2.2.1.cell); (try have f1 := hS.1); (try have f2 := hS.2.1); (try have f3 := hS.2.2.1); (try have f4 := hS.2.2.2.1); (try have f5 := hS.2.2.2.2.1); clear hS; go_simp; (try with_reducible rfl))); (go_simp; refine hK _ ?_; clear hK K)))
    refine wpSched_nil ?_
    have hN5a := (NodeIs.loc B px sb lb pb av _ t).below hN4 hb45
    have cBa := hB5.cell
    have lBa := hB5.lt
    have fBa := hB5.frozen
    have hM5 : Mod (fun k => k = B) w5 (w5.setCell ⟨B, 10, none⟩ (.int .i64 0)) := (Mod.refl (fun k => k = B) w5).thenSet (p := ⟨B, 10, none⟩) rfl _
    have hset := hN5a.setOwn { n with loc := L', wanted := 0 } hM5 (hB5.set (o := 10) (.int .i64 0)) rfl rfl rfl rfl rfl rfl
    have hrow5a := (hrow4.below hb45).step hset.1 (fun g hg => by rw [(hnew4 g hg).2]; exact not_sub_nil ht)
    have hst5a := (hst4.trans (Step.of_below t _ hb45)).trans hset.1
    replace hset : Hid (_ ∧ _) := hset
    replace hrow5a : Hid (Row _ _ _ _ _ _) := hrow5a
    replace hq : Hid (_ → _) := hq
    go_wp2_with fail
    obtain ⟨W5, hW5⟩ : ∃ W5, W5 = w5.setCell ⟨B, 10, none⟩ (.int .i64 0) := ⟨_, rfl⟩
    rw [← hW5] at hset hst5a hrow5a ⊢
    clear hW5 hB5 cBa lBa fBa
    have hst5 := hst5a
    have hrow5 := hrow5a.out
    have hN5 := hset.out.2
    have hB5 := hN5.blk
    unfold nodeCells at hB5
    have cB5 := hB5.cell
    have lB5 := hB5.lt
    go_wp2_with fail
    refine (hdone.out n _ _ v hN5.pool hrow5.src (fun a l c hv => by subst hv; rw [(hnew4 _ rfl).2]; exact not_sub_nil (by simp))).mono ?_
    rintro r w6 ⟨vd, rfl, hs6, hp6⟩
    have hN6 := hN5.setPool _ hs6 hp6
    have hB6 := hN5.blkS hs6
    unfold nodeCells at hB6
    have hrow6 := hrow5.step hs6 (fun g hg => by rw [(hnew4 g hg).2]; exact not_sub_nil (by simp))
    clear cB5 lB5
    go_wp2_with fail
    refine wp_region_sched [(0, true), (1, true), (2, true), (3, true), (4, true), (5, true), (6, true), (7, true), (8, false), (9, false)] none (fun w' => Blk w' B #[.pointer (some ⟨px, 0, none⟩), .int .i64 n.id, .int .i64 n.version, .slice none 0 0, .pointer (some ⟨sb, 0, none⟩), .pointer (some ⟨lb, 0, none⟩), .pointer (some ⟨pb, 0, none⟩), av, .int .i64 (n.offered : Nat), .int .i64 (n.applied : Nat), .int .i64 (0:Int), .bool n.down] 78 ∧ True) (by kernel_rfl) (by kernel_rfl) ⟨hB6.drew, trivial⟩ ?_
    (repeat (refine wpSched_quiet (v := ?_) rfl rfl (fun w' hS => ?_) (fun K hK => ?_); rotate_left; (focus ((try have e1 := hS.1.cell); (try have e2 := hS.2.1.cell); (try have e3 := hS.2.2.1.cell); (try have e4 := hS.2.2.2.1.cell); (try have f1 := hS.1); (try have f2 := hS.2.1); (try have f3 := hS.2.2.1); (try have f4 := hS.2.2.2.1); (try have f5 := hS.2.2.2.2.1); clear hS; go_simp; (try with_reducible rfl))); (go_simp; refine hK _ ?_; clear hK K)))
    refine wpSched_loud rfl (fun K hK => ?_)
    go_wp2_with fail
    refine (hhold.out _ _ ((LocalAt.loc lb L' (t ++ [2])).below hN6.lo (pb_drew (Below.refl _ _)))).mono ?_
    rintro r w7 ⟨vh, rfl, hrow7, hb7, hnew7⟩
    have hb67 : Below w6.heap.size w6 w7 := pb_trans (pb_drew (Below.refl _ _)) hb7
    have hB7 := hB6.call hb67
    go_wp2
    refine hK.out _ _ (fun _ => ⟨hB7, trivial⟩) ?_
    clear hK K
    refine wpSched_loud rfl (fun K hK => ?_)
    have hN7 := (NodeIs.loc B px sb lb pb av _ t).cut hN6 hb67
    go_wp2_with fail
    refine (hdone2.out _ _ vh hN7.pool hrow7.src (fun a l c hv => by subst hv; rw [Own.cut_new (w := w6) (hnew7 _ rfl)]; exact not_sub_nil (by simp))).mono ?_
    rintro r w8 ⟨vd2, rfl, hs8, hp8⟩
    have hN8 := hN7.setPool _ hs8 hp8
    have hB8 := hN7.blkS hs8
    unfold nodeCells at hB8
    have hrow8 := (hrow6.below hb67).step hs8 (fun g hg => by rw [Own.cut_old (hrow6.lt hg), (hnew4 g hg).2]; exact not_sub_nil (by simp))
    have hst8 : Step t (ow.cut w) W0 _ w8 := hst5.trans ((hs6.mono (Sub.child t 3)).trans (Step.wrap hb67 (hs8.mono (Sub.child t 3))))
    go_wp2
    refine hK.out _ _ (fun _ => ⟨hB8, trivial⟩) ?_
    clear hK K
    refine wpSched_nil ?_
    go_wp2_with fail
    refine (nOffer_any B _ t _ _ ⟨_, _, _, _, _, hN8⟩ (by show n.acc.length ≤ _; omega)).mono ?_
    rintro r w9 ⟨rfl, ow9, hs9, hN9⟩
    have hrow9 := hrow8.step hs9 (fun g hg => by rw [Own.cut_old (hrow6.lt hg), (hnew4 g hg).2]; exact not_sub_nil ht)
    have hnew9 : ∀ g, v.ownBlock = some g → w.heap.size ≤ g ∧ ow9 g = [] := fun g hg => ⟨by have := (hnew4 g hg).1; have := hb2.size; have := hbD.size; omega, by rw [hs9.agree g (hrow8.lt hg), Own.cut_old (hrow6.lt hg)]; exact (hnew4 g hg).2⟩
    replace hrow9 : Hid (Row _ _ _ _ _ _) := hrow9
    replace hnew9 : Hid (∀ _, _) := hnew9
    replace hnew4 : Hid (∀ _, _) := hnew4
    replace hnew7 : Hid (∀ _, _) := hnew7
    clear hrow8 hrow7 hrow6 hrow5
    go_wp2
    go_ret
    first | rw [if_pos hq.out] | rw [if_neg hq.out] | skip
    exact hpost.out _ _ _ _ _ (hst8.trans hs9) hN9 hrow9.out hnew9.out
end Go.Proofs.YtaopeioebpfdeaaGreatDoor
