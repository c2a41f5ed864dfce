/- PROVED HERE: rostrumlaw17.NodeDown returns true for every input, and its arguments read afterwards as they did; the listed variable holds what the program's text lays (the card ties it). No further condition. -/
import Derived.Test.YtaopeioebpfdeaaGreatDoorK03
import Derived.Test.YtaopeioebpfdeaaGreatDoorK08
import Derived.Test.YtaopeioebpfdeaaGreatDoorK21
import Derived.Test.YtaopeioebpfdeaaGreatDoorK43
namespace Go.Proofs.YtaopeioebpfdeaaGreatDoor
open Go

theorem down_broadcast {n : NodeS} (h : n.down = true) (d : List UInt8) : broadcastN n d = (n, ((0, 0), []), 170) := by unfold broadcastN; rw [if_pos h]
theorem down_promise {n : NodeS} (h : n.down = true) (i : Int) (b : Nat) : promiseN n i b = (n, (0, 0, []), 170) := by unfold promiseN; rw [if_pos h]
theorem down_cast {n : NodeS} (h : n.down = true) (i : Int) (b : Nat) (x : List UInt8) : castN n i b x = (n, 170) := by unfold castN; rw [if_pos h]
theorem down_learn {n : NodeS} (h : n.down = true) (i : Int) (x : List UInt8) : learnN n i x = (n, [], 170) := by unfold learnN; rw [if_pos h]
theorem down_want {n : NodeS} (h : n.down = true) (i : Int) : wantN n i = (n, 170) := by unfold wantN; rw [if_pos h]
theorem down_proposal {n : NodeS} (h : n.down = true) : proposalN n = ([], false) := by unfold proposalN; rw [if_pos h]
theorem pack_one_len (i : Int) (c : Nat) (d : List UInt8) (h : rightM ((i, c), d) = true) : (packP [((i, c), d)]).1.length ≤ 1100 + d.length := by
  have := pack_one h
  rw [this]
  simp [msgBytes, le4_length]
  omega
theorem first_broadcast (id v : Int) (s : StD) (d : List UInt8) (hid : 0 ≤ id) (hid2 : id < 16) (hd : d.length ≤ 1000) : (broadcastN (newN id v 1048576 [] s) d).2.2 = 0 := by
  have hr : rightM ((id, 1), d) = true := by simp [rightM]; omega
  have hl := pack_one_len id 1 d hr
  have hrec : recordP ([109] ++ (packP [((id, 1), d)]).1) = (sealP ([52] ++ le4 ([109] ++ (packP [((id, 1), d)]).1).length ++ ([109] ++ (packP [((id, 1), d)]).1)), 0) := by
    unfold recordP; rw [if_neg (by simp; omega)]
  have hw : writeP (newStore 1048576) ([109] ++ (packP [((id, 1), d)]).1) = ({ newStore 1048576 with log := (newStore 1048576).log ++ (recordP ([109] ++ (packP [((id, 1), d)]).1)).1 }, 0) := by
    unfold writeP
    rw [if_neg (by simp [newStore]), if_neg (by rw [hrec]; simp), if_neg, if_pos (by rfl)]
    rw [hrec]
    simp [newStore, sealP, le4_length]
    omega
  unfold broadcastN
  rw [if_neg (by simp [newN])]
  rw [show ((newN id v 1048576 [] s).id, (newN id v 1048576 [] s).acc.length + 1) = (id, 1) from rfl]
  rw [if_neg (by rw [hr]; simp)]
  have hk : (keepN (newN id v 1048576 [] s) false ([109] ++ (packP [((id, 1), d)]).1)).2 = 0 := by
    show (writeP (newStore 1048576) ([109] ++ (packP [((id, 1), d)]).1)).2 = 0
    rw [hw]
  rw [if_neg (by rw [hk]; simp)]
/-- DOWN: what was accepted is accepted behind recovering, and nothing else. -/
theorem down_law (v : Int) (s : StD) (d : List UInt8) (hd : d.length ≤ 1000) :
    (crashN (broadcastN (newN 1 v 1048576 [] s) d).1).2 = 0 ∧ (crashN (broadcastN (newN 1 v 1048576 [] s) d).1).1.down = true ∧ (recoverN (crashN (broadcastN (newN 1 v 1048576 [] s) d).1).1 s).acc.length = 1 := by
  have h0 := first_broadcast 1 v s d (by omega) (by omega) hd
  obtain ⟨l, hs, hb⟩ := broadcast_step (newN_inv 1 v 1048576 [] s) d
  obtain ⟨-, hacc, -⟩ := hb h0
  have hdn : (broadcastN (newN 1 v 1048576 [] s) d).1.down = false := by
    unfold broadcastN at h0 ⊢
    rw [if_neg (by simp [newN])] at h0 ⊢
    split at h0
    · simp at h0
    · rename_i hr
      rw [if_neg hr]
      split at h0
      · rename_i hk; exact absurd h0 hk
      · rename_i hk
        rw [if_neg hk]
        rw [(offer_same _ _).1.down]
        have hk' : (writeP (newN 1 v 1048576 [] s).store ([109] ++ (packP [(((newN 1 v 1048576 [] s).id, (newN 1 v 1048576 [] s).acc.length + 1), d)]).1)).2 = 0 := Decidable.not_not.1 hk
        show (false || decide ((writeP (newN 1 v 1048576 [] s).store ([109] ++ (packP [(((newN 1 v 1048576 [] s).id, (newN 1 v 1048576 [] s).acc.length + 1), d)]).1)).2 = 31) || (false && _)) = false
        rw [hk']; rfl
  have hup := (hs.inv.up hdn).2.1
  have hcs := crash_step hs.inv
  have hcr : crashN (broadcastN (newN 1 v 1048576 [] s) d).1 = ({ (broadcastN (newN 1 v 1048576 [] s) d).1 with down := true }, 0) := by unfold crashN; rw [if_neg (by rw [hdn]; simp)]
  obtain ⟨hrs, hrd⟩ := recover_step hcs.inv
  have hup2 := (hrs.inv.up hrd).2.1
  refine ⟨by rw [hcr], by rw [hcr], ?_⟩
  rw [hup2, ← hup, hacc]
  simp [newN]
end Go.Proofs.YtaopeioebpfdeaaGreatDoor
namespace Go.Proofs.YtaopeioebpfdeaaGreatDoor
open Go Go.RowKit Go.Shelf Go.Extern.Stop Go.Stop Go.Extern
attribute [local go_sem] Oper.semAt_some wide_fn wide_depth

/-- The node, and the act's own block. -/
def BoxN (w : World) (x : ActD) (B : Nat) (n : NodeS) (W : World) : Prop :=
  OneN w (fun k => k = w.heap.size) B n W ∧ Blk W w.heap.size #[.int .i64 x.what, .int .i64 x.inst, .int .u64 (x.b : Nat), .string (bs x.s)] 24
theorem BoxN.below {w W W' : World} {x : ActD} {B : Nat} {n : NodeS} (h : BoxN w x B n W) (hb : Below W.heap.size W W') : BoxN w x B n W' := ⟨h.1.below hb, h.2.call hb⟩
theorem BoxN.post {w W W' w' : World} {x : ActD} {B : Nat} {n m : NodeS} {v : Value} {r : Ending} (h : BoxN w x B n W) (hb : Below W.heap.size W W') (h2 : OneNPost w (fun k => k = w.heap.size) B m v W W' r w') : r = .returned v ∧ BoxN w x B m w' ∧ ∀ k, W.heap.size ≤ k → k < W'.heap.size → w'.heap[k]? = W'.heap[k]? :=
  ⟨h2.1, ⟨h2.2.1.mono (fun _ h => .inl h), (h.2.call hb).kept (h2.2.2 _ (.inl rfl))⟩, fun k h3 h4 => h2.2.2 k (.inr ⟨h3, h4⟩)⟩
theorem BoxN.gives {w W W' w' : World} {x : ActD} {B : Nat} {n : NodeS} {R : NodeS × List MsgD × Int} {r : Ending} (h : BoxN w x B n W) (hb : Below W.heap.size W W') (h2 : OneNGives w (fun k => k = w.heap.size) B R W W' r w') : ∃ a c, r = .returned (.tuple #[.slice a R.2.1.length c, .int .i64 R.2.2]) ∧ BoxN w x B R.1 w' := by
  obtain ⟨v, rfl, h3, hR, hk⟩ := h2
  obtain ⟨a, c, rfl⟩ := hR.src.shape
  exact ⟨a, c, rfl, h3.mono (fun _ h => .inl h), (h.2.call hb).kept (hk _ (.inl rfl))⟩
set_option maxRecDepth 8000 in
set_option maxHeartbeats 4000000 in
theorem nodeDown_true (a : Addr) (x : ActD) (hx : x.b < 18446744073709551616) (ss : List UInt8) (w : World) (he : ErrAt w a) : Calls Tryz.prog 3 #[actV x, .string (bs ss)] w fun r w' => r = .returned (.bool true) ∧ Below w.heap.size w w' := by
  have heW := fun W (hW : Below w.heap.size w W) => he.below hW he.lt
  have hnew := fun W (hW : Below w.heap.size w W) => nNew_any a 1 1 1048576 (by omega) (by omega) (by decide) (by omega) (by omega) [1] (fun _ => []) W (he.below hW he.lt)
  obtain ⟨d, hd⟩ : ∃ d, d = ss.take 100 := ⟨_, rfl⟩
  have hdl : d.length ≤ 100 := by rw [hd, List.length_take]; omega
  have hst : (bs ss).extract 0 (min ((bs ss).size : Int) 100).toNat = bs d := by
    rw [extract_take, bs_size, hd]
    congr 1
    rcases Nat.lt_or_ge ss.length 100 with h | h
    · rw [show (min (ss.length : Int) 100).toNat = ss.length by omega, List.take_of_length_le (Nat.le_refl _), List.take_of_length_le (by omega)]
    · rw [show (min (ss.length : Int) 100).toNat = 100 by omega]
  obtain ⟨n0, hn0⟩ : ∃ n0, n0 = newN 1 1 1048576 [] (stBegin 1) := ⟨_, rfl⟩
  have g0 : NodeG 1 n0 := by rw [hn0]; exact NodeG.new (by omega) (by omega)
  obtain ⟨l1, l2, l3⟩ := down_law 1 (stBegin 1) d (by omega)
  have l0 := first_broadcast 1 1 (stBegin 1) d (by omega) (by omega) (by omega)
  rw [← hn0] at l0 l1 l2 l3
  have g1 := g0.broadcast d (by omega)
  have g2 := g1.crash
  have g3 := g2.recover
  obtain ⟨⟨n1, ⟨⟨mi, mc⟩, md⟩, e1⟩, hq1⟩ : ∃ q, broadcastN n0 d = q := ⟨_, rfl⟩
  rw [hq1] at l0 l1 l2 l3 g1 g2 g3
  simp only at l0 l1 l2 l3 g1 g2 g3
  subst l0
  obtain ⟨⟨n2, e2⟩, hq2⟩ : ∃ q, crashN n1 = q := ⟨_, rfl⟩
  rw [hq2] at l1 l2 l3 g2 g3
  simp only at l1 l2 l3 g2 g3
  subst l1
  unfold actV
  replace heW : Hid (∀ _, _) := heW
  replace hnew : Hid (∀ _ _, _) := hnew
  replace g0 : Hid (NodeG _ _) := g0
  replace g1 : Hid (NodeG _ _) := g1
  replace g2 : Hid (NodeG _ _) := g2
  replace g3 : Hid (NodeG _ _) := g3
  replace l2 : Hid (_ = _) := l2
  replace l3 : Hid (_ = _) := l3
  replace hd : Hid (_ = _) := hd
  replace hn0 : Hid (_ = _) := hn0
  replace hq1 : Hid (_ = _) := hq1
  replace hq2 : Hid (_ = _) := hq2
  replace hdl : Hid (_ ≤ _) := hdl
  replace he : Hid (ErrAt _ _) := he
  go_enter Tryz.func3, Tryz.ntmps3
  go_wp2_with fail
  refine (shown17_any a _ (heW.out _ (by (repeat (first | exact Below.refl _ _ | with_reducible assumption | refine pb_alloc ?_ _ | refine pb_drew ?_ | refine pb_drewN ?_ _ | refine pb_set ?_ (by simp; try omega) _ | refine pb_trans ?_ (by with_reducible assumption)))))).mono ?_
  rintro r w1 ⟨rfl, hb1⟩
  have kx1 : Blk w1 w.heap.size #[.int .i64 x.what, .int .i64 x.inst, .int .u64 (x.b : Nat), .string (bs x.s)] 24 := Blk.call (Blk.new rfl) hb1
  have hbw1 : Below w.heap.size w w1 := by (repeat (first | exact Below.refl _ _ | with_reducible assumption | refine pb_alloc ?_ _ | refine pb_drew ?_ | refine pb_drewN ?_ _ | refine pb_set ?_ (by simp; try omega) _ | refine pb_trans ?_ (by with_reducible assumption)))
  go_wp2_with fail
  refine (hnew.out _ hbw1).mono ?_
  rintro r w2 ⟨B, ow2, rfl, hs2, hb2, hF2, -⟩
  rw [← hn0.out] at hF2
  have h2 : BoxN w x B n0 w2 := ⟨(OneN.new hbw1 hs2 hF2).mono (fun k h => by subst h; exact kx1.lt), kx1.call hb2⟩
  clear hs2 hF2 kx1
  have q2 := h2.1.broadcast he.out g0.out d (by have := hdl.out; omega) (Below.refl _ _)
  rw [hq1.out] at q2
  replace h2 : Hid (BoxN _ _ _ _ _) := h2
  replace q2 : Hid (Calls _ _ _ _ _) := q2
  go_wp2_with fail
  refine q2.out.mono ?_
  intro r w3 hq
  obtain ⟨rfl, h3, -⟩ := h2.out.post (Below.refl _ _) hq
  unfold castV2 msgV
  have hb3 : Below w3.heap.size w3 (w3.alloc (.cells #[.int .i64 mi, .int .u32 (mc : Nat), .string (bs md)] 34)) := pb_alloc (Below.refl _ _) _
  have q3 := h3.1.crash he.out hb3
  rw [hq2.out] at q3
  replace h3 : Hid (BoxN _ _ _ _ _) := h3
  replace q3 : Hid (Calls _ _ _ _ _) := q3
  clear q2 h2
  go_wp2_with fail
  refine q3.out.mono ?_
  intro r w4 hq
  obtain ⟨rfl, h4, -⟩ := h3.out.post hb3 hq
  have q4 := h4.1.broadcast he.out g2.out d (by have := hdl.out; omega) (Below.refl _ _)
  rw [down_broadcast l2.out] at q4
  replace h4 : Hid (BoxN _ _ _ _ _) := h4
  replace q4 : Hid (Calls _ _ _ _ _) := q4
  clear q3 h3 hb3 hq
  go_wp2_with fail
  refine q4.out.mono ?_
  intro r w5 hq
  obtain ⟨rfl, h5, -⟩ := h4.out.post (Below.refl _ _) hq
  replace h5 : BoxN w x B n2 w5 := h5
  have h5c := (h5.2.alloc (.cells #[.int .i64 0, .int .u32 0, .string ⟨#[]⟩] 34)).cell
  have hb5 : Below w5.heap.size w5 (w5.alloc (.cells #[.int .i64 0, .int .u32 0, .string ⟨#[]⟩] 34)) := pb_alloc (Below.refl _ _) _
  have q5 := h5.1.promise he.out g2.out x.inst x.b hx hb5
  rw [down_promise l2.out] at q5
  have h5l := h5.2.lt
  have h5d := h5.2.cell
  replace h5 : Hid (BoxN _ _ _ _ _) := h5
  replace q5 : Hid (Calls _ _ _ _ _) := q5
  clear q4 h4 hq h5c
  unfold castV2 msgV
  go_wp2_with fail
  refine q5.out.mono ?_
  intro r w6 hq
  obtain ⟨rfl, h6, -⟩ := h5.out.post hb5 hq
  replace h6 : BoxN w x B n2 w6 := h6
  unfold voteE voteV
  clear h5l h5d q5 h5 hb5 hq
  have hb6 : Below w6.heap.size w6 (w6.alloc (.cells #[.int .u64 0, .int .u64 0, .string ⟨#[]⟩] 39)) := pb_alloc (Below.refl _ _) _
  have k6 := h6.2.alloc (.cells #[.int .u64 0, .int .u64 0, .string ⟨#[]⟩] 39)
  replace h6 : Hid (BoxN _ _ _ _ _) := h6
  go_wp2_with fail
  have htx := fun W => text17_any x W
  unfold actV at htx
  have htl := textD_len x
  replace htx : Hid (∀ _, _) := htx
  replace htl : Hid (_ ≤ _) := htl
  refine wp_region_sched [(0, true), (1, true), (2, true), (3, true), (4, false), (5, false), (6, true), (7, true), (8, true), (9, true), (10, true)] none (fun w' => Blk w' w.heap.size #[.int .i64 x.what, .int .i64 x.inst, .int .u64 (x.b : Nat), .string (bs x.s)] 24 ∧ True) (by kernel_rfl) (by kernel_rfl) ⟨k6.drew, trivial⟩ ?_
  (repeat (refine wpSched_quiet (v := ?_) rfl rfl (fun w' hS => ?_) (fun K hK => ?_); rotate_left; (focus ((try have e1 := hS.1.cell); (try have e2 := hS.2.1.cell); (try have e3 := hS.2.2.1.cell); (try have e4 := hS.2.2.2.1.cell); (try have f1 := hS.1); (try have f2 := hS.2.1); (try have f3 := hS.2.2.1); (try have f4 := hS.2.2.2.1); (try have f5 := hS.2.2.2.2.1); clear hS; go_simp; (try with_reducible rfl))); (go_simp; refine hK _ ?_; clear hK K)))
  refine wpSched_loud rfl (fun K hK => ?_)
  go_wp2_with fail
  refine (htx.out _).mono ?_
  rintro r w7 ⟨rfl, hb7⟩
  have hb67 : Below w6.heap.size w6 w7 := pb_trans (pb_drew hb6) hb7
  have h7 := h6.out.below hb67
  have k7 := h7.2
  go_wp2
  refine hK.out _ _ (fun _ => ⟨k7, trivial⟩) ?_
  clear hK K
  have q7 := h7.1.learn he.out g2.out x.inst (textD x) (by have := htl.out; omega) (Below.refl _ _)
  rw [down_learn l2.out] at q7
  replace h7 : Hid (BoxN _ _ _ _ _) := h7
  replace q7 : Hid (Calls _ _ _ _ _) := q7
  clear k6 hb6 h6 hb67 hb7
  refine wpSched_loud rfl (fun K hK => ?_)
  go_wp2_with fail
  refine q7.out.mono ?_
  intro r w8 hq
  obtain ⟨sa, sc, rfl, h8⟩ := h7.out.gives (Below.refl _ _) hq
  replace h8 : BoxN w x B n2 w8 := h8
  have k8 := h8.2
  go_wp2
  refine hK.out _ _ (fun _ => ⟨k8, trivial⟩) ?_
  clear hK K hq q7 h7 k7
  (repeat (refine wpSched_quiet (v := ?_) rfl rfl (fun w' hS => ?_) (fun K hK => ?_); rotate_left; (focus ((try have e1 := hS.1.cell); (try have e2 := hS.2.1.cell); (try have e3 := hS.2.2.1.cell); (try have e4 := hS.2.2.2.1.cell); (try have f1 := hS.1); (try have f2 := hS.2.1); (try have f3 := hS.2.2.1); (try have f4 := hS.2.2.2.1); (try have f5 := hS.2.2.2.2.1); clear hS; go_simp; (try with_reducible rfl))); (go_simp; refine hK _ ?_; clear hK K)))
  refine wpSched_nil ?_
  have q8 := h8.1.proposal g2.out
  rw [down_proposal l2.out] at q8
  unfold okV at q8
  replace h8 : Hid (BoxN _ _ _ _ _) := h8
  replace q8 : Hid (Calls _ _ _ _ _) := q8
  go_wp2_with fail
  refine q8.out.mono ?_
  rintro r w9 ⟨rfl, hb9⟩
  have h9 := h8.out.below hb9
  have k9 := h9.2
  replace h9 : Hid (BoxN _ _ _ _ _) := h9
  clear q8 h8 k8
  go_wp2_with fail
  refine wp_region_sched [(0, true), (1, true), (2, true), (3, true), (4, true), (5, true), (6, true), (7, true), (8, true), (9, true), (10, true), (11, true), (12, true), (13, true), (14, true), (15, true), (16, true), (17, true), (18, true), (19, true), (20, true), (21, true), (22, true), (23, true), (24, true), (25, true), (26, true), (27, true), (28, true), (29, true), (30, true), (31, true), (32, true), (33, true), (34, true), (35, true), (36, false), (37, false), (38, true), (39, true), (40, true), (41, true), (42, false), (43, true), (44, true), (45, true), (46, true), (47, false), (48, true), (49, true), (50, true), (51, true), (52, false), (53, true), (54, true), (55, true), (56, true)] none (fun w' => Blk w' w.heap.size #[.int .i64 x.what, .int .i64 x.inst, .int .u64 (x.b : Nat), .string (bs x.s)] 24 ∧ True) (by kernel_rfl) (by kernel_rfl) ⟨k9.drew, trivial⟩ ?_
  (repeat (refine wpSched_quiet (v := ?_) rfl rfl (fun w' hS => ?_) (fun K hK => ?_); rotate_left; (focus ((try have e1 := hS.1.cell); (try have e2 := hS.2.1.cell); (try have e3 := hS.2.2.1.cell); (try have e4 := hS.2.2.2.1.cell); (try have f1 := hS.1); (try have f2 := hS.2.1); (try have f3 := hS.2.2.1); (try have f4 := hS.2.2.2.1); (try have f5 := hS.2.2.2.2.1); clear hS; go_simp; (try with_reducible rfl))); (go_simp; refine hK _ ?_; clear hK K)))
  refine wpSched_loud rfl (fun K hK => ?_)
  go_wp2_with fail
  refine (htx.out _).mono ?_
  rintro r w10 ⟨rfl, hb10⟩
  have h10 := h9.out.below (pb_trans (pb_drew (Below.refl _ _)) hb10)
  have k10 := h10.2
  go_wp2
  refine hK.out _ _ (fun _ => ⟨k10, trivial⟩) ?_
  clear hK K
  have q10 := h10.1.cast he.out g2.out x.inst x.b hx (textD x) (by have := htl.out; omega) (Below.refl _ _)
  rw [down_cast l2.out] at q10
  replace h10 : Hid (BoxN _ _ _ _ _) := h10
  replace q10 : Hid (Calls _ _ _ _ _) := q10
  clear k9 h9
  refine wpSched_loud rfl (fun K hK => ?_)
  go_wp2_with fail
  refine q10.out.mono ?_
  intro r w11 hq
  obtain ⟨rfl, h11, -⟩ := h10.out.post (Below.refl _ _) hq
  replace h11 : BoxN w x B n2 w11 := h11
  have k11 := h11.2
  go_wp2
  refine hK.out _ _ (fun _ => ⟨k11, trivial⟩) ?_
  clear hK K hq q10 h10 k10
  have q11 := h11.1.want he.out g2.out 2 (Below.refl _ _)
  rw [down_want l2.out] at q11
  replace h11 : Hid (BoxN _ _ _ _ _) := h11
  replace q11 : Hid (Calls _ _ _ _ _) := q11
  (repeat (refine wpSched_quiet (v := ?_) rfl rfl (fun w' hS => ?_) (fun K hK => ?_); rotate_left; (focus ((try have e1 := hS.1.cell); (try have e2 := hS.2.1.cell); (try have e3 := hS.2.2.1.cell); (try have e4 := hS.2.2.2.1.cell); (try have f1 := hS.1); (try have f2 := hS.2.1); (try have f3 := hS.2.2.1); (try have f4 := hS.2.2.2.1); (try have f5 := hS.2.2.2.2.1); clear hS; go_simp; (try with_reducible rfl))); (go_simp; refine hK _ ?_; clear hK K)))
  refine wpSched_loud rfl (fun K hK => ?_)
  go_wp2_with fail
  refine q11.out.mono ?_
  intro r w12 hq
  obtain ⟨rfl, h12, -⟩ := h11.out.post (Below.refl _ _) hq
  replace h12 : BoxN w x B n2 w12 := h12
  have k12 := h12.2
  go_wp2
  refine hK.out _ _ (fun _ => ⟨k12, trivial⟩) ?_
  clear hK K hq q11 h11 k11
  have q12 := h12.1.recover he.out g2.out (by decide) (Below.refl _ _)
  replace h12 : Hid (BoxN _ _ _ _ _) := h12
  replace q12 : Hid (Calls _ _ _ _ _) := q12
  (repeat (refine wpSched_quiet (v := ?_) rfl rfl (fun w' hS => ?_) (fun K hK => ?_); rotate_left; (focus ((try have e1 := hS.1.cell); (try have e2 := hS.2.1.cell); (try have e3 := hS.2.2.1.cell); (try have e4 := hS.2.2.2.1.cell); (try have f1 := hS.1); (try have f2 := hS.2.1); (try have f3 := hS.2.2.1); (try have f4 := hS.2.2.2.1); (try have f5 := hS.2.2.2.2.1); clear hS; go_simp; (try with_reducible rfl))); (go_simp; refine hK _ ?_; clear hK K)))
  refine wpSched_loud rfl (fun K hK => ?_)
  go_wp2_with fail
  refine q12.out.mono ?_
  intro r w13 hq
  obtain ⟨rfl, h13, -⟩ := h12.out.post (Below.refl _ _) hq
  have k13 := h13.2
  go_wp2
  refine hK.out _ _ (fun _ => ⟨k13, trivial⟩) ?_
  clear hK K hq q12 h12 k12
  have q13 := h13.1.accepted g3.out
  rw [l3.out] at q13
  have hb13 := h13.1.bel
  replace h13 : Hid (BoxN _ _ _ _ _) := h13
  replace q13 : Hid (Calls _ _ _ _ _) := q13
  (repeat (refine wpSched_quiet (v := ?_) rfl rfl (fun w' hS => ?_) (fun K hK => ?_); rotate_left; (focus ((try have e1 := hS.1.cell); (try have e2 := hS.2.1.cell); (try have e3 := hS.2.2.1.cell); (try have e4 := hS.2.2.2.1.cell); (try have f1 := hS.1); (try have f2 := hS.2.1); (try have f3 := hS.2.2.1); (try have f4 := hS.2.2.2.1); (try have f5 := hS.2.2.2.2.1); clear hS; go_simp; (try with_reducible rfl))); (go_simp; refine hK _ ?_; clear hK K)))
  refine wpSched_loud rfl (fun K hK => ?_)
  go_wp2_with fail
  refine q13.out.mono ?_
  rintro r w14 ⟨v14, rfl, hR14, hb14, -⟩
  obtain ⟨sa14, sc14, rfl⟩ := hR14.src.shape
  go_wp2
  refine hK.out _ _ (fun _ => ⟨k13.call hb14, trivial⟩) ?_
  clear hK K hR14
  (repeat (refine wpSched_quiet (v := ?_) rfl rfl (fun w' hS => ?_) (fun K hK => ?_); rotate_left; (focus ((try have e1 := hS.1.cell); (try have e2 := hS.2.1.cell); (try have e3 := hS.2.2.1.cell); (try have e4 := hS.2.2.2.1.cell); (try have f1 := hS.1); (try have f2 := hS.2.1); (try have f3 := hS.2.2.1); (try have f4 := hS.2.2.2.1); (try have f5 := hS.2.2.2.2.1); clear hS; go_simp; (try with_reducible rfl))); (go_simp; refine hK _ ?_; clear hK K)))
  refine wpSched_nil ?_
  go_wp2
  go_ret
  exact ⟨rfl, pb_trans hb13 hb14⟩
end Go.Proofs.YtaopeioebpfdeaaGreatDoor
namespace Go.Proofs.YtaopeioebpfdeaaGreatDoor.nodeDown
open Go Go.RowKit Go.ChangeShapes Go.WideShapes Go.ChangeAt

set_option maxRecDepth 100000 in
theorem contract (H : Type) (enc : TypeId × Value → H) (W : World) (base : Nat) (args : Array Value) (ds gs : List (DataW H)) (before : List MemPlace)
    (hval : ∀ (j : Nat) t v, Tryz.f3.params[j]? = some t → args[j]? = some v → Value.okWide Tryz.prog W .any base t v)
    (hW : DataW.Whole enc Tryz.prog Tryz.f3.params.toList Rows.nodeDownSpec.vars false W args.toList ds gs before) (hL : laidMetH Tryz.prog Rows.nodeDownRow.laid W) :
    Calls Tryz.prog 3 args W fun e W' => ∃ v, e = .returned v ∧ Rows.nodeDownSpec.post enc Tryz.prog Tryz.f3 false true false false W args v W' := by
  obtain ⟨a, he⟩ := err_of_laid hL
  have hW' := hW
  obtain ⟨p, q, hA0, hV, rfl, _, _⟩ := hW
  have hA : DataW.TrodAll enc Tryz.prog W 0 (fun _ => true) true Tryz.f3.params.toList args.toList ds p := hA0
  rw [Tryz.params3] at hA hval
  obtain ⟨v0, vs0, d0, ds0, p0, q0, hargs, rfl, rfl, h0, r0⟩ := trodAll_cons hA
  obtain ⟨v1, vs1, d1, ds1, p1, q1, rfl, rfl, rfl, h1, r1⟩ := trodAll_cons r0
  obtain ⟨rfl, rfl, rfl⟩ := trodAll_nil r1
  obtain rfl : args = #[v0, v1] := by cases args; simp_all
  obtain ⟨rfl, rfl⟩ := trodVars_none hV
  obtain ⟨x, rfl, hx0⟩ := open_actV (hval 0 24 v0 rfl rfl) h0
  obtain ⟨s, rfl⟩ := open_textV (hval 1 9 v1 rfl rfl) h1
  have walk := nodeDown_true a x hx0 s W he
  clear hA0
  refine walk.mono fun e W' ⟨he, hg⟩ => ?_
  subst he
  exact ⟨_, rfl, law_post laidOut (by kernel_rfl) (by kernel_rfl) rfl Tryz.underlying4 rfl hW' hg⟩

theorem reads (os : Os) {H : Type} (enc : TypeId × Value → H) : ∃ places, DataW.whole enc Tryz.prog ((laidWorld os).forCall (fun _ _ => 0) ⟨#[], #[.agg #[.int .i64 0, .int .i64 0, .int .u64 0, .string ⟨#[]⟩], .string ⟨#[]⟩], []⟩).memory Tryz.f3.params.toList Rows.nodeDownSpec.vars false (#[.agg #[.int .i64 0, .int .i64 0, .int .u64 0, .string ⟨#[]⟩], .string ⟨#[]⟩] : Array Value).toList 8 = some ([.agg [.lit (.int .i64 0), .lit (.int .i64 0), .lit (.int .u64 0), .lit (.string [])], .lit (.string [])], [], places) :=
  ⟨[], by kernel_rfl⟩

set_option maxRecDepth 100000 in
theorem lifted (os : Os) (started : os.Started) (H : Type) (enc : TypeId × Value → H) (F : Stop.Interp) :
    ReturnsInHanded {} Tryz.checked os 3 .any ((OpenSpec.ofChange Rows.nodeDownSpec).preRow enc Tryz.prog Tryz.f3 Rows.nodeDownRow.domain false Rows.nodeDownRow.laid) (((OpenSpec.ofChange Rows.nodeDownSpec).at F).post enc Tryz.prog Tryz.f3 false true false false) := by
  obtain ⟨places, hx⟩ := reads os enc
  refine returnsInHanded_of_row (C := Tryz.checked) (s := OpenSpec.ofChange Rows.nodeDownSpec) own started (by kernel_rfl) Tryz.func3
    (witness_row_atRef (enc := enc) (C := Tryz.checked) false (laidWorld os) #[.agg #[.int .i64 0, .int .i64 0, .int .u64 0, .string ⟨#[]⟩], .string ⟨#[]⟩] rfl (by kernel_rfl) (by kernel_rfl) (by kernel_rfl)
      (OpenSpec.preRow_of_cond 8 hx (by kernel_rfl) (fun k hk => by cases hk) (by kernel_rfl) (laid_met os _))) ?_
  intro W base args ds gs before hval hW _ _ _ hL _ _
  exact contract H enc W base args ds gs before hval hW hL

theorem said : Rows.NodeDownSaid :=
  OpenClaim.holds_of_cond 3 Tryz.f3 rfl rfl rfl rfl rfl rfl rfl ⟨rfl, rfl, rfl, rfl, rfl⟩ rfl rfl rfl rfl rfl (by kernel_rfl) Tryz.func3 (by kernel_rfl)
    (of_decide_eq_true (by kernel_rfl)) (by unfold Func.isWrapper; first | (rw [if_pos (by decide +kernel)]; kernel_rfl) | (rw [if_neg (by decide +kernel)]; exact ⟨rfl, rfl⟩))
    (fun os started H enc _ F => by rw [OpenClaim.pre_eq_preRow]; exact lifted os started H enc F)

theorem plain (f : FuncId) (fn : Func) (hf : Tryz.pinned.checked.prog.funcNamed "rostrum/rostrumlaw17.NodeDown" = some f) (hfn : Tryz.pinned.checked.prog.funcs[f]? = some fn) :
    true = Tryz.pinned.checked.prog.looks [] ∧ ∀ (j : Nat) t, fn.params[j]? = some t → Tryz.pinned.checked.prog.wantsStandIn t = false := by
  obtain rfl : f = 3 := Option.some.inj ((show Tryz.prog.funcNamed "rostrum/rostrumlaw17.NodeDown" = some 3 by kernel_rfl).symm.trans hf) |>.symm
  obtain rfl : fn = Tryz.f3 := (Option.some.inj (Tryz.func3.symm.trans hfn)).symm
  refine ⟨by kernel_rfl, fun j t ht => ?_⟩
  rw [Tryz.params3] at ht
  have : t = 24 ∨ t = 9 := by
    match j, ht with
    | 0, h => exact .inl (by simpa using h.symm)
    | 1, h => exact .inr (by simpa using h.symm)
    | n + 2, h => simp at h
  rcases this with rfl | rfl
  · exact (show Tryz.prog.wantsStandIn 24 = false by kernel_rfl)
  · exact (show Tryz.prog.wantsStandIn 9 = false by kernel_rfl)

theorem card : Rows.NodeDownCardSaid :=
  Claim7.holds_tied_plain_at .later [] _ _ _ _ said (fun _ h => by cases h) (by kernel_rfl) (fun _ h => by cases h) nodeDown_row_tie rfl ⟨rfl, rfl⟩ (by kernel_rfl) rfl plain (by kernel_rfl)
end Go.Proofs.YtaopeioebpfdeaaGreatDoor.nodeDown
