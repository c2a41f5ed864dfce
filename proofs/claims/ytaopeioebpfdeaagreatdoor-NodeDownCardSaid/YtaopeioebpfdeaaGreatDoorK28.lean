/- PROVED HERE: WALK: paxos' Replay. Condition: the node's part is one that calls have made. -/
import Derived.Test.YtaopeioebpfdeaaGreatDoorK27
namespace Go.Proofs.YtaopeioebpfdeaaGreatDoor
open Go Go.RowKit Go.Shelf Go.Extern.Stop Go.Stop Go.Extern
attribute [local go_sem] Oper.semAt_some wide_fn wide_depth

theorem vote_neq (a b : VoteD) (w : World) : (binOp .neq 39 (.agg #[.int .u64 a.1, .int .u64 a.2.1, .string (bs a.2.2)]) (.agg #[.int .u64 b.1, .int .u64 b.2.1, .string (bs b.2.2)])).run Tryz.prog w = .ok (.bool (decide (a ≠ b))) w := by
  obtain ⟨a1, a2, a3⟩ := a
  obtain ⟨b1, b2, b3⟩ := b
  have hq := bs_beq a3 b3
  rw [run_neq_struct]
  by_cases h1 : a1 = b1
  · subst h1
    by_cases h2 : a2 = b2
    · subst h2
      by_cases h3 : a3 = b3
      · subst h3; simp [go_sem]
      · rw [show decide (a3 = b3) = false by simpa using h3] at hq; simp [go_sem, h3, hq]
    · have h2' : ¬ ((a2 : Int) = (b2 : Int)) := fun e => h2 (by omega)
      simp [go_sem, h2, h2']
  · have h1' : ¬ ((a1 : Int) = (b1 : Int)) := fun e => h1 (by omega)
    simp [go_sem, h1, h1']
theorem readRec_facts {s : List UInt8} {k : UInt8} {i : Int} {b : Nat} {x : List UInt8} (h : readRec s = some (k, i, b, x)) : 1 ≤ i ∧ i ≤ 10000 ∧ x.length ≤ s.length ∧ b < 18446744073709551616 := by
  unfold readRec at h
  have g1 := getP_lt ((s.drop 5).take 4)
  have g2 := getP_lt ((s.drop 9).take 4)
  split at h
  · cases h
  · split at h
    · cases h
    · rename_i hb
      have hi : isInstP (getP ((s.drop 1).take 4) : Int) = true := by cases h : isInstP (getP ((s.drop 1).take 4) : Int); exact absurd (.inr h) hb; rfl
      have hi2 : 1 ≤ (getP ((s.drop 1).take 4) : Int) ∧ (getP ((s.drop 1).take 4) : Int) ≤ 10000 := by simpa [isInstP] using hi
      split at h
      · split at h
        · cases h; exact ⟨hi2.1, hi2.2, by simp, by omega⟩
        · cases h
      · split at h
        · split at h
          · cases h
          · split at h
            · cases h
            · split at h
              · cases h; exact ⟨hi2.1, hi2.2, by simp, by omega⟩
              · cases h
        · cases h/-- What Replay comes to. -/
def ReplayPost (B : Nat) (p : PaxS) (t : List Nat) (ow : Own) (w : World) (e : Ending) (w' : World) : Prop :=
  ∃ v : Int, e = .returned (.int .i64 v) ∧ ∃ ow', Step t ow w ow' w' ∧ PaxAt B p t ow' w'
set_option maxRecDepth 8000 in
set_option maxHeartbeats 2000000 in
theorem pxReplay_any (B : Nat) (p : PaxS) (t : List Nat) (_ht : t ≠ []) (ow : Own) (s : List UInt8) (hs : s.length ≤ 1000000) (w : World) (h : PaxAt B p t ow w) :
    Calls Tryz.prog 87 #[.pointer (some ⟨B, 0, none⟩), .string (bs s)] w (ReplayPost B (replayP p s) t ow w) := by
  have hread := fun W => pxRead_any s (by omega) W
  have hrp : replayP p s = match readRec s with
    | none => p
    | some (k, i, b, x) => if k = 100 then (learnP p i x).1 else if replayV k (voteAt p i) b x = voteAt p i then p else { p with votes := put i (replayV k (voteAt p i) b x) p.votes } := rfl
  have h0 := h
  obtain ⟨hl, vb, kb, hB, hv, -⟩ := h
  unfold paxCells at hB
  have e0 := hB.cell
  have l0 := hB.lt
  cases hrr : readRec s with
  | none =>
    rw [hrr] at hread hrp
    simp only at hrp
    rw [hrp]
    unfold ReadRecPost at hread
    replace hread : Hid (∀ _, _) := hread
    replace hrp : Hid (_ = _) := hrp
    replace hrr : Hid (_ = _) := hrr
    replace h0 : Hid (PaxAt _ _ _ _ _) := h0
    clear hB hv
    go_enter Tryz.func87, Tryz.ntmps87
    go_wp2_with fail
    refine (hread.out _).mono ?_
    rintro e w1 ⟨a, b, c, d, rfl, -, hb1⟩
    go_wp2
    go_ret
    exact ⟨_, rfl, ow, Step.of_below t ow (pb_alloc hb1 _), (PaxAt.loc B p t).below h0.out (pb_alloc hb1 _)⟩
  | some r =>
    obtain ⟨k, i, b, x⟩ := r
    rw [hrr] at hread hrp
    simp only at hrp
    unfold ReadRecPost at hread
    replace hread : Hid (∀ _, _) := hread
    by_cases hk : k = 100
    · subst hk
      rw [if_pos rfl] at hrp
      rw [hrp]
      obtain ⟨hi1, hi2, hxl, hb64⟩ := readRec_facts hrr
      have hlearn := fun W hW => pxLearn_any B p t ow i x (by omega) W hW
      have t1 : (((100 : UInt8).toNat : Int) == 100) = true := rfl
      replace hrp : Hid (_ = _) := hrp
      replace hrr : Hid (_ = _) := hrr
      replace h0 : Hid (PaxAt _ _ _ _ _) := h0
      replace hlearn : Hid (∀ _, _) := hlearn
      unfold castE at hlearn
      clear hB hv
      go_enter Tryz.func87, Tryz.ntmps87
      go_wp2_with fail
      refine (hread.out _).mono ?_
      rintro e w1 ⟨a, b', c, d, rfl, hf, hb1⟩
      obtain ⟨rfl, hf2, rfl, rfl⟩ := hf _ _ _ _ rfl
      obtain rfl := hf2.symm
      clear hf
      go_wp2_with fail
      refine (hlearn.out _ ((PaxAt.loc B p t).below h0.out (pb_alloc hb1 _))).mono ?_
      rintro e w2 ⟨rfl, ow2, hs2, h2⟩
      go_wp2
      go_ret
      exact ⟨_, rfl, ow2, (Step.of_below t ow (pb_alloc hb1 _)).trans hs2, h2⟩
    · rw [if_neg hk] at hrp
      rw [hrp]
      obtain ⟨hi1, hi2, hxl, hb64⟩ := readRec_facts hrr
      have hlkz : ∀ W, Below w.heap.size w W → (Instr.lookup 134 (.map (some vb)) (.int .i64 i) false).run Tryz.prog W = .ok (voteV (voteAt p i)) W := fun W hW => by
        rw [← vote_look p i]
        exact (hv.kept (hW.block vb hv.lt)).lookup intKey Tryz.underlying134 (vote_zero W) i
      have t1 : ((k.toNat : Int) == 100) = false := by
        simp only [beq_eq_false_iff_ne, ne_eq]
        intro hc
        exact hk (UInt8.toNat_inj.1 (by simpa using (by omega : k.toNat = 100)))
      have t2 : decide (i ≤ 0) = false := by simp; omega
      obtain ⟨V, hV⟩ : ∃ V, replayV k (voteAt p i) b x = V := ⟨_, rfl⟩
      have hVd : V = if k = 118 ∧ (voteAt p i).2.1 ≤ b then (max (voteAt p i).1 b, b, x) else (max (voteAt p i).1 b, (voteAt p i).2) := by rw [← hV]; rfl
      rw [hV] at hrp ⊢
      have hkeep := fun W hW => pxKeep_any B p t ow i V W hW
      have hneq := fun W => vote_neq V (voteAt p i) W
      obtain ⟨⟨p0, q0, y0⟩, hva⟩ : ∃ v, voteAt p i = v := ⟨_, rfl⟩
      rw [hva] at hlkz hVd hneq ⊢
      unfold voteV at hlkz hkeep
      simp only at hlkz hVd hneq
      obtain ⟨M, hM⟩ : ∃ M, max p0 b = M := ⟨_, rfl⟩
      have hMi : max (p0 : Int) (b : Int) = (M : Int) := by rw [← hM]; omega
      rw [hM] at hVd
      replace hrp : Hid (_ = _) := hrp
      replace hrr : Hid (_ = _) := hrr
      replace h0 : Hid (PaxAt _ _ _ _ _) := h0
      replace hlkz : Hid (∀ _, _) := hlkz
      replace hV : Hid (_ = _) := hV
      replace hva : Hid (_ = _) := hva
      replace hM : Hid (_ = _) := hM
      replace hk : Hid (_ → _) := hk
      clear hv
      by_cases h118 : k = 118 ∧ q0 ≤ b
      · rw [if_pos h118] at hVd
        obtain ⟨rfl, hqb⟩ := h118
        subst hVd
        have t3 : (((118 : UInt8).toNat : Int) == 118) = true := rfl
        have t4 : decide ((q0 : Int) ≤ (b : Int)) = true := by simp; omega
        replace hkeep : Hid (∀ _, _) := hkeep
        replace hqb : Hid (_ ≤ _) := hqb
        by_cases hVw : ((M, b, x) : VoteD) = (p0, q0, y0)
        · rw [if_pos hVw]
          rw [show decide (((M, b, x) : VoteD) ≠ (p0, q0, y0)) = false by simp [hVw]] at hneq
          simp only at hneq
          replace hVw : Hid (_ = _) := hVw
          go_enter Tryz.func87, Tryz.ntmps87
          go_wp2_with fail
          refine (hread.out _).mono ?_
          rintro e w1 ⟨a, b', c, d, rfl, hf, hb1⟩
          obtain ⟨rfl, hf2, rfl, rfl⟩ := hf _ _ _ _ rfl
          obtain rfl := hf2.symm
          clear hf
          have kB1 := hB.call hb1
          have eB1 := kB1.cell
          have lB1 := kB1.lt
          go_wp2_with fail
          refine wp_region_sched [(0, true), (1, true), (2, true), (3, true), (4, true), (5, true), (6, true)] none (fun w' => Blk w' B #[.map (some vb), .map (some kb), .int .i64 (p.length : Nat), .int .i64 0] 137 ∧ Blk w' w1.heap.size #[.int .u8 118, .int .i64 i, .int .u64 b, .string (bs x)] 201 ∧ True) (by kernel_rfl) (by kernel_rfl) ⟨(kB1.alloc _).drew, Blk.drew (Blk.new rfl), trivial⟩ ?_
          (repeat (refine wpSched_quiet (v := ?_) rfl rfl (fun w' hS => ?_) (fun K hK => ?_); rotate_left; (focus ((try have e1 := hS.1.cell); (try have e2 := hS.2.1.cell); (try have e3 := hS.2.2.1.cell); (try have e4 := hS.2.2.2.1.cell); (try have f1 := hS.1); (try have f2 := hS.2.1); (try have f3 := hS.2.2.1); (try have f4 := hS.2.2.2.1); (try have f5 := hS.2.2.2.2.1); clear hS; go_simp; (try with_reducible rfl))); (go_simp; refine hK _ ?_; clear hK K)))
          refine wpSched_nil ?_
          go_wp2_with fail
          obtain ⟨W2, hW2⟩ : ∃ W2, W2 = (w1.alloc (.cells #[.int .u8 118, .int .i64 i, .int .u64 b, .string (bs x)] 201)).drew := ⟨_, rfl⟩
          have hb2 : Below w.heap.size w W2 := by rw [hW2]; exact pb_drew (pb_alloc hb1 _)
          have kB2 : Blk W2 B #[.map (some vb), .map (some kb), .int .i64 (p.length : Nat), .int .i64 0] 137 := by rw [hW2]; exact (kB1.alloc _).drew
          have kT2 : Blk W2 w1.heap.size #[.int .u8 118, .int .i64 i, .int .u64 b, .string (bs x)] 201 := by rw [hW2]; exact Blk.drew (Blk.new rfl)
          rw [← hW2]
          clear hW2 eB1 lB1 kB1
          have hb3 : Below w.heap.size w W2.drew := pb_drew hb2
          refine wp_region_sched [(0, true), (1, true), (2, true), (3, true), (4, true), (5, true), (6, true), (7, false), (8, false)] none (fun w' => Blk w' B #[.map (some vb), .map (some kb), .int .i64 (p.length : Nat), .int .i64 0] 137 ∧ Blk w' w1.heap.size #[.int .u8 118, .int .i64 i, .int .u64 b, .string (bs x)] 201 ∧ (Instr.lookup 134 (.map (some vb)) (.int .i64 i) false).run Tryz.prog w' = .ok (.agg #[.int .u64 p0, .int .u64 q0, .string (bs y0)]) w' ∧ True) (by kernel_rfl) (by kernel_rfl) ⟨kB2.drew, kT2.drew, hlkz.out _ hb3, trivial⟩ ?_
          (repeat (refine wpSched_quiet (v := ?_) rfl rfl (fun w' hS => ?_) (fun K hK => ?_); rotate_left; (focus ((try have e1 := hS.1.cell); (try have e2 := hS.2.1.cell); (try have e3 := hS.2.2.1.cell); (try have e4 := hS.2.2.2.1.cell); (try have f1 := hS.1); (try have f2 := hS.2.1); (try have f3 := hS.2.2.1); (try have f4 := hS.2.2.2.1); (try have f5 := hS.2.2.2.2.1); clear hS; go_simp; (try with_reducible rfl))); (go_simp; refine hK _ ?_; clear hK K)))
          refine wpSched_loud rfl (fun K hK => ?_)
          go_wp2
          refine hK.out _ _ (fun _ => ⟨kB2.drew.alloc _, kT2.drew.alloc _, hlkz.out _ (pb_alloc hb3 _), trivial⟩) ?_
          clear hK K
          refine wpSched_loud rfl (fun K hK => ?_)
          go_wp2
          refine hK.out _ _ (fun _ => ⟨kB2.drew.alloc _, kT2.drew.alloc _, hlkz.out _ (pb_alloc hb3 _), trivial⟩) ?_
          clear hK K
          refine wpSched_nil ?_
          obtain ⟨W3, hW3⟩ : ∃ W3, W3 = (W2.alloc (.cells #[.int .u64 p0, .int .u64 q0, .string (bs y0)] 39)).drew := ⟨_, rfl⟩
          have hbW3 : Below w.heap.size w W3 := by rw [hW3]; exact pb_drew (pb_alloc hb2 _)
          have kT3 : Blk W3 w1.heap.size #[.int .u8 118, .int .i64 i, .int .u64 b, .string (bs x)] 201 := by rw [hW3]; exact (kT2.alloc _).drew
          have kW3 : Blk W3 W2.heap.size #[.int .u64 p0, .int .u64 q0, .string (bs y0)] 39 := by rw [hW3]; exact Blk.drew (Blk.new rfl)
          rw [← hW3]
          clear hW3 kB2 hb2 hb3 kT2
          have cT3 := kT3.cell
          have lT3 := kT3.lt
          have cW3 := kW3.cell
          have lW3 := kW3.lt
          go_wp2_with fail
          refine wp_region_sched [(0, true), (1, true), (2, true), (3, true), (4, true), (5, false), (6, true), (7, false)] none (fun w' => Blk w' w1.heap.size #[.int .u8 118, .int .i64 i, .int .u64 b, .string (bs x)] 201 ∧ True) (by kernel_rfl) (by kernel_rfl) ⟨(kT3.alloc _).drew, trivial⟩ ?_
          (repeat (refine wpSched_quiet (v := ?_) rfl rfl (fun w' hS => ?_) (fun K hK => ?_); rotate_left; (focus ((try have e1 := hS.1.cell); (try have e2 := hS.2.1.cell); (try have e3 := hS.2.2.1.cell); (try have e4 := hS.2.2.2.1.cell); (try have f1 := hS.1); (try have f2 := hS.2.1); (try have f3 := hS.2.2.1); (try have f4 := hS.2.2.2.1); (try have f5 := hS.2.2.2.2.1); clear hS; go_simp; (try with_reducible rfl))); (go_simp; refine hK _ ?_; clear hK K)))
          refine wpSched_loud rfl (fun K hK => ?_)
          go_wp2
          refine hK.out _ _ (fun _ => ⟨(kT3.alloc _).drew, trivial⟩) ?_
          clear hK K
          (repeat (refine wpSched_quiet (v := ?_) rfl rfl (fun w' hS => ?_) (fun K hK => ?_); rotate_left; (focus ((try have e1 := hS.1.cell); (try have e2 := hS.2.1.cell); (try have e3 := hS.2.2.1.cell); (try have e4 := hS.2.2.2.1.cell); (try have f1 := hS.1); (try have f2 := hS.2.1); (try have f3 := hS.2.2.1); (try have f4 := hS.2.2.2.1); (try have f5 := hS.2.2.2.2.1); clear hS; go_simp; (try with_reducible rfl))); (go_simp; refine hK _ ?_; clear hK K)))
          refine wpSched_loud rfl (fun K hK => ?_)
          go_wp2
          refine hK.out _ _ (fun _ => ⟨(kT3.alloc _).drew, trivial⟩) ?_
          clear hK K
          refine wpSched_nil ?_
          obtain ⟨W4, hW4⟩ : ∃ W4, W4 = (W3.alloc (.cells #[.int .u64 M, .int .u64 b, .string (bs x)] 39)).drew := ⟨_, rfl⟩
          have hb4 : Below w.heap.size w W4 := by rw [hW4]; exact pb_drew (pb_alloc hbW3 _)
          have kT4 : Blk W4 w1.heap.size #[.int .u8 118, .int .i64 i, .int .u64 b, .string (bs x)] 201 := by rw [hW4]; exact (kT3.alloc _).drew
          have kW4 : Blk W4 W2.heap.size #[.int .u64 p0, .int .u64 q0, .string (bs y0)] 39 := by rw [hW4]; exact (kW3.alloc _).drew
          have kX4 : Blk W4 W3.heap.size #[.int .u64 M, .int .u64 b, .string (bs x)] 39 := by rw [hW4]; exact Blk.drew (Blk.new rfl)
          rw [← hW4]
          clear hW4 cT3 lT3 cW3 lW3 kT3 kW3
          have cT4 := kT4.cell
          have cW4 := kW4.cell
          have cX4 := kX4.cell
          go_wp2
          go_ret
          exact ⟨_, rfl, ow, Step.of_below t ow hb4, (PaxAt.loc B p t).below h0.out hb4⟩
        · rw [if_neg hVw]
          rw [show decide (((M, b, x) : VoteD) ≠ (p0, q0, y0)) = true by simp [hVw]] at hneq
          simp only at hneq
          replace hVw : Hid (_ → _) := hVw
          go_enter Tryz.func87, Tryz.ntmps87
          go_wp2_with fail
          refine (hread.out _).mono ?_
          rintro e w1 ⟨a, b', c, d, rfl, hf, hb1⟩
          obtain ⟨rfl, hf2, rfl, rfl⟩ := hf _ _ _ _ rfl
          obtain rfl := hf2.symm
          clear hf
          have kB1 := hB.call hb1
          have eB1 := kB1.cell
          have lB1 := kB1.lt
          go_wp2_with fail
          refine wp_region_sched [(0, true), (1, true), (2, true), (3, true), (4, true), (5, true), (6, true)] none (fun w' => Blk w' B #[.map (some vb), .map (some kb), .int .i64 (p.length : Nat), .int .i64 0] 137 ∧ Blk w' w1.heap.size #[.int .u8 118, .int .i64 i, .int .u64 b, .string (bs x)] 201 ∧ True) (by kernel_rfl) (by kernel_rfl) ⟨(kB1.alloc _).drew, Blk.drew (Blk.new rfl), trivial⟩ ?_
          (repeat (refine wpSched_quiet (v := ?_) rfl rfl (fun w' hS => ?_) (fun K hK => ?_); rotate_left; (focus ((try have e1 := hS.1.cell); (try have e2 := hS.2.1.cell); (try have e3 := hS.2.2.1.cell); (try have e4 := hS.2.2.2.1.cell); (try have f1 := hS.1); (try have f2 := hS.2.1); (try have f3 := hS.2.2.1); (try have f4 := hS.2.2.2.1); (try have f5 := hS.2.2.2.2.1); clear hS; go_simp; (try with_reducible rfl))); (go_simp; refine hK _ ?_; clear hK K)))
          refine wpSched_nil ?_
          go_wp2_with fail
          obtain ⟨W2, hW2⟩ : ∃ W2, W2 = (w1.alloc (.cells #[.int .u8 118, .int .i64 i, .int .u64 b, .string (bs x)] 201)).drew := ⟨_, rfl⟩
          have hb2 : Below w.heap.size w W2 := by rw [hW2]; exact pb_drew (pb_alloc hb1 _)
          have kB2 : Blk W2 B #[.map (some vb), .map (some kb), .int .i64 (p.length : Nat), .int .i64 0] 137 := by rw [hW2]; exact (kB1.alloc _).drew
          have kT2 : Blk W2 w1.heap.size #[.int .u8 118, .int .i64 i, .int .u64 b, .string (bs x)] 201 := by rw [hW2]; exact Blk.drew (Blk.new rfl)
          rw [← hW2]
          clear hW2 eB1 lB1 kB1
          have hb3 : Below w.heap.size w W2.drew := pb_drew hb2
          refine wp_region_sched [(0, true), (1, true), (2, true), (3, true), (4, true), (5, true), (6, true), (7, false), (8, false)] none (fun w' => Blk w' B #[.map (some vb), .map (some kb), .int .i64 (p.length : Nat), .int .i64 0] 137 ∧ Blk w' w1.heap.size #[.int .u8 118, .int .i64 i, .int .u64 b, .string (bs x)] 201 ∧ (Instr.lookup 134 (.map (some vb)) (.int .i64 i) false).run Tryz.prog w' = .ok (.agg #[.int .u64 p0, .int .u64 q0, .string (bs y0)]) w' ∧ True) (by kernel_rfl) (by kernel_rfl) ⟨kB2.drew, kT2.drew, hlkz.out _ hb3, trivial⟩ ?_
          (repeat (refine wpSched_quiet (v := ?_) rfl rfl (fun w' hS => ?_) (fun K hK => ?_); rotate_left; (focus ((try have e1 := hS.1.cell); (try have e2 := hS.2.1.cell); (try have e3 := hS.2.2.1.cell); (try have e4 := hS.2.2.2.1.cell); (try have f1 := hS.1); (try have f2 := hS.2.1); (try have f3 := hS.2.2.1); (try have f4 := hS.2.2.2.1); (try have f5 := hS.2.2.2.2.1); clear hS; go_simp; (try with_reducible rfl))); (go_simp; refine hK _ ?_; clear hK K)))
          refine wpSched_loud rfl (fun K hK => ?_)
          go_wp2
          refine hK.out _ _ (fun _ => ⟨kB2.drew.alloc _, kT2.drew.alloc _, hlkz.out _ (pb_alloc hb3 _), trivial⟩) ?_
          clear hK K
          refine wpSched_loud rfl (fun K hK => ?_)
          go_wp2
          refine hK.out _ _ (fun _ => ⟨kB2.drew.alloc _, kT2.drew.alloc _, hlkz.out _ (pb_alloc hb3 _), trivial⟩) ?_
          clear hK K
          refine wpSched_nil ?_
          obtain ⟨W3, hW3⟩ : ∃ W3, W3 = (W2.alloc (.cells #[.int .u64 p0, .int .u64 q0, .string (bs y0)] 39)).drew := ⟨_, rfl⟩
          have hbW3 : Below w.heap.size w W3 := by rw [hW3]; exact pb_drew (pb_alloc hb2 _)
          have kT3 : Blk W3 w1.heap.size #[.int .u8 118, .int .i64 i, .int .u64 b, .string (bs x)] 201 := by rw [hW3]; exact (kT2.alloc _).drew
          have kW3 : Blk W3 W2.heap.size #[.int .u64 p0, .int .u64 q0, .string (bs y0)] 39 := by rw [hW3]; exact Blk.drew (Blk.new rfl)
          rw [← hW3]
          clear hW3 kB2 hb2 hb3 kT2
          have cT3 := kT3.cell
          have lT3 := kT3.lt
          have cW3 := kW3.cell
          have lW3 := kW3.lt
          go_wp2_with fail
          refine wp_region_sched [(0, true), (1, true), (2, true), (3, true), (4, true), (5, false), (6, true), (7, false)] none (fun w' => Blk w' w1.heap.size #[.int .u8 118, .int .i64 i, .int .u64 b, .string (bs x)] 201 ∧ True) (by kernel_rfl) (by kernel_rfl) ⟨(kT3.alloc _).drew, trivial⟩ ?_
          (repeat (refine wpSched_quiet (v := ?_) rfl rfl (fun w' hS => ?_) (fun K hK => ?_); rotate_left; (focus ((try have e1 := hS.1.cell); (try have e2 := hS.2.1.cell); (try have e3 := hS.2.2.1.cell); (try have e4 := hS.2.2.2.1.cell); (try have f1 := hS.1); (try have f2 := hS.2.1); (try have f3 := hS.2.2.1); (try have f4 := hS.2.2.2.1); (try have f5 := hS.2.2.2.2.1); clear hS; go_simp; (try with_reducible rfl))); (go_simp; refine hK _ ?_; clear hK K)))
          refine wpSched_loud rfl (fun K hK => ?_)
          go_wp2
          refine hK.out _ _ (fun _ => ⟨(kT3.alloc _).drew, trivial⟩) ?_
          clear hK K
          (repeat (refine wpSched_quiet (v := ?_) rfl rfl (fun w' hS => ?_) (fun K hK => ?_); rotate_left; (focus ((try have e1 := hS.1.cell); (try have e2 := hS.2.1.cell); (try have e3 := hS.2.2.1.cell); (try have e4 := hS.2.2.2.1.cell); (try have f1 := hS.1); (try have f2 := hS.2.1); (try have f3 := hS.2.2.1); (try have f4 := hS.2.2.2.1); (try have f5 := hS.2.2.2.2.1); clear hS; go_simp; (try with_reducible rfl))); (go_simp; refine hK _ ?_; clear hK K)))
          refine wpSched_loud rfl (fun K hK => ?_)
          go_wp2
          refine hK.out _ _ (fun _ => ⟨(kT3.alloc _).drew, trivial⟩) ?_
          clear hK K
          refine wpSched_nil ?_
          obtain ⟨W4, hW4⟩ : ∃ W4, W4 = (W3.alloc (.cells #[.int .u64 M, .int .u64 b, .string (bs x)] 39)).drew := ⟨_, rfl⟩
          have hb4 : Below w.heap.size w W4 := by rw [hW4]; exact pb_drew (pb_alloc hbW3 _)
          have kT4 : Blk W4 w1.heap.size #[.int .u8 118, .int .i64 i, .int .u64 b, .string (bs x)] 201 := by rw [hW4]; exact (kT3.alloc _).drew
          have kW4 : Blk W4 W2.heap.size #[.int .u64 p0, .int .u64 q0, .string (bs y0)] 39 := by rw [hW4]; exact (kW3.alloc _).drew
          have kX4 : Blk W4 W3.heap.size #[.int .u64 M, .int .u64 b, .string (bs x)] 39 := by rw [hW4]; exact Blk.drew (Blk.new rfl)
          rw [← hW4]
          clear hW4 cT3 lT3 cW3 lW3 kT3 kW3
          have cT4 := kT4.cell
          have cW4 := kW4.cell
          have cX4 := kX4.cell
          go_wp2_with fail
          refine (hkeep.out _ ((PaxAt.loc B p t).below h0.out hb4)).mono ?_
          rintro e w5 ⟨rfl, ow5, hs5, h5⟩
          go_wp2
          go_ret
          exact ⟨_, rfl, ow5, (Step.of_below t ow hb4).trans hs5, h5⟩
      · rw [if_neg h118] at hVd
        subst hVd
        replace hkeep : Hid (∀ _, _) := hkeep
        by_cases h18 : k = 118
        · subst h18
          have hqb : ¬ q0 ≤ b := fun h => h118 ⟨rfl, h⟩
          have t3 : (((118 : UInt8).toNat : Int) == 118) = true := rfl
          have t4 : decide ((q0 : Int) ≤ (b : Int)) = false := by simp; omega
          replace h118 : Hid (_ → _) := h118
          replace hqb : Hid (_ → _) := hqb
          by_cases hVw : ((M, q0, y0) : VoteD) = (p0, q0, y0)
          · rw [if_pos hVw]
            rw [show decide (((M, q0, y0) : VoteD) ≠ (p0, q0, y0)) = false by simp [hVw]] at hneq
            simp only at hneq
            replace hVw : Hid (_ = _) := hVw
            go_enter Tryz.func87, Tryz.ntmps87
            go_wp2_with fail
            refine (hread.out _).mono ?_
            rintro e w1 ⟨a, b', c, d, rfl, hf, hb1⟩
            obtain ⟨rfl, hf2, rfl, rfl⟩ := hf _ _ _ _ rfl
            obtain rfl := hf2.symm
            clear hf
            have kB1 := hB.call hb1
            have eB1 := kB1.cell
            have lB1 := kB1.lt
            go_wp2_with fail
            refine wp_region_sched [(0, true), (1, true), (2, true), (3, true), (4, true), (5, true), (6, true)] none (fun w' => Blk w' B #[.map (some vb), .map (some kb), .int .i64 (p.length : Nat), .int .i64 0] 137 ∧ Blk w' w1.heap.size #[.int .u8 118, .int .i64 i, .int .u64 b, .string (bs x)] 201 ∧ True) (by kernel_rfl) (by kernel_rfl) ⟨(kB1.alloc _).drew, Blk.drew (Blk.new rfl), trivial⟩ ?_
            (repeat (refine wpSched_quiet (v := ?_) rfl rfl (fun w' hS => ?_) (fun K hK => ?_); rotate_left; (focus ((try have e1 := hS.1.cell); (try have e2 := hS.2.1.cell); (try have e3 := hS.2.2.1.cell); (try have e4 := hS.2.2.2.1.cell); (try have f1 := hS.1); (try have f2 := hS.2.1); (try have f3 := hS.2.2.1); (try have f4 := hS.2.2.2.1); (try have f5 := hS.2.2.2.2.1); clear hS; go_simp; (try with_reducible rfl))); (go_simp; refine hK _ ?_; clear hK K)))
            refine wpSched_nil ?_
            go_wp2_with fail
            obtain ⟨W2, hW2⟩ : ∃ W2, W2 = (w1.alloc (.cells #[.int .u8 118, .int .i64 i, .int .u64 b, .string (bs x)] 201)).drew := ⟨_, rfl⟩
            have hb2 : Below w.heap.size w W2 := by rw [hW2]; exact pb_drew (pb_alloc hb1 _)
            have kB2 : Blk W2 B #[.map (some vb), .map (some kb), .int .i64 (p.length : Nat), .int .i64 0] 137 := by rw [hW2]; exact (kB1.alloc _).drew
            have kT2 : Blk W2 w1.heap.size #[.int .u8 118, .int .i64 i, .int .u64 b, .string (bs x)] 201 := by rw [hW2]; exact Blk.drew (Blk.new rfl)
            rw [← hW2]
            clear hW2 eB1 lB1 kB1
            have hb3 : Below w.heap.size w W2.drew := pb_drew hb2
            refine wp_region_sched [(0, true), (1, true), (2, true), (3, true), (4, true), (5, true), (6, true), (7, false), (8, false)] none (fun w' => Blk w' B #[.map (some vb), .map (some kb), .int .i64 (p.length : Nat), .int .i64 0] 137 ∧ Blk w' w1.heap.size #[.int .u8 118, .int .i64 i, .int .u64 b, .string (bs x)] 201 ∧ (Instr.lookup 134 (.map (some vb)) (.int .i64 i) false).run Tryz.prog w' = .ok (.agg #[.int .u64 p0, .int .u64 q0, .string (bs y0)]) w' ∧ True) (by kernel_rfl) (by kernel_rfl) ⟨kB2.drew, kT2.drew, hlkz.out _ hb3, trivial⟩ ?_
            (repeat (refine wpSched_quiet (v := ?_) rfl rfl (fun w' hS => ?_) (fun K hK => ?_); rotate_left; (focus ((try have e1 := hS.1.cell); (try have e2 := hS.2.1.cell); (try have e3 := hS.2.2.1.cell); (try have e4 := hS.2.2.2.1.cell); (try have f1 := hS.1); (try have f2 := hS.2.1); (try have f3 := hS.2.2.1); (try have f4 := hS.2.2.2.1); (try have f5 := hS.2.2.2.2.1); clear hS; go_simp; (try with_reducible rfl))); (go_simp; refine hK _ ?_; clear hK K)))
            refine wpSched_loud rfl (fun K hK => ?_)
            go_wp2
            refine hK.out _ _ (fun _ => ⟨kB2.drew.alloc _, kT2.drew.alloc _, hlkz.out _ (pb_alloc hb3 _), trivial⟩) ?_
            clear hK K
            refine wpSched_loud rfl (fun K hK => ?_)
            go_wp2
            refine hK.out _ _ (fun _ => ⟨kB2.drew.alloc _, kT2.drew.alloc _, hlkz.out _ (pb_alloc hb3 _), trivial⟩) ?_
            clear hK K
            refine wpSched_nil ?_
            obtain ⟨W3, hW3⟩ : ∃ W3, W3 = (W2.alloc (.cells #[.int .u64 p0, .int .u64 q0, .string (bs y0)] 39)).drew := ⟨_, rfl⟩
            have hbW3 : Below w.heap.size w W3 := by rw [hW3]; exact pb_drew (pb_alloc hb2 _)
            have kT3 : Blk W3 w1.heap.size #[.int .u8 118, .int .i64 i, .int .u64 b, .string (bs x)] 201 := by rw [hW3]; exact (kT2.alloc _).drew
            have kW3 : Blk W3 W2.heap.size #[.int .u64 p0, .int .u64 q0, .string (bs y0)] 39 := by rw [hW3]; exact Blk.drew (Blk.new rfl)
            rw [← hW3]
            clear hW3 kB2 hb2 hb3 kT2
            have cT3 := kT3.cell
            have lT3 := kT3.lt
            have cW3 := kW3.cell
            have lW3 := kW3.lt
            go_wp2
            go_ret
            exact ⟨_, rfl, ow, Step.of_below t ow (pb_alloc hbW3 _), (PaxAt.loc B p t).below h0.out (pb_alloc hbW3 _)⟩
          · rw [if_neg hVw]
            rw [show decide (((M, q0, y0) : VoteD) ≠ (p0, q0, y0)) = true by simp [hVw]] at hneq
            simp only at hneq
            replace hVw : Hid (_ → _) := hVw
            go_enter Tryz.func87, Tryz.ntmps87
            go_wp2_with fail
            refine (hread.out _).mono ?_
            rintro e w1 ⟨a, b', c, d, rfl, hf, hb1⟩
            obtain ⟨rfl, hf2, rfl, rfl⟩ := hf _ _ _ _ rfl
            obtain rfl := hf2.symm
            clear hf
            have kB1 := hB.call hb1
            have eB1 := kB1.cell
            have lB1 := kB1.lt
            go_wp2_with fail
            refine wp_region_sched [(0, true), (1, true), (2, true), (3, true), (4, true), (5, true), (6, true)] none (fun w' => Blk w' B #[.map (some vb), .map (some kb), .int .i64 (p.length : Nat), .int .i64 0] 137 ∧ Blk w' w1.heap.size #[.int .u8 118, .int .i64 i, .int .u64 b, .string (bs x)] 201 ∧ True) (by kernel_rfl) (by kernel_rfl) ⟨(kB1.alloc _).drew, Blk.drew (Blk.new rfl), trivial⟩ ?_
            (repeat (refine wpSched_quiet (v := ?_) rfl rfl (fun w' hS => ?_) (fun K hK => ?_); rotate_left; (focus ((try have e1 := hS.1.cell); (try have e2 := hS.2.1.cell); (try have e3 := hS.2.2.1.cell); (try have e4 := hS.2.2.2.1.cell); (try have f1 := hS.1); (try have f2 := hS.2.1); (try have f3 := hS.2.2.1); (try have f4 := hS.2.2.2.1); (try have f5 := hS.2.2.2.2.1); clear hS; go_simp; (try with_reducible rfl))); (go_simp; refine hK _ ?_; clear hK K)))
            refine wpSched_nil ?_
            go_wp2_with fail
            obtain ⟨W2, hW2⟩ : ∃ W2, W2 = (w1.alloc (.cells #[.int .u8 118, .int .i64 i, .int .u64 b, .string (bs x)] 201)).drew := ⟨_, rfl⟩
            have hb2 : Below w.heap.size w W2 := by rw [hW2]; exact pb_drew (pb_alloc hb1 _)
            have kB2 : Blk W2 B #[.map (some vb), .map (some kb), .int .i64 (p.length : Nat), .int .i64 0] 137 := by rw [hW2]; exact (kB1.alloc _).drew
            have kT2 : Blk W2 w1.heap.size #[.int .u8 118, .int .i64 i, .int .u64 b, .string (bs x)] 201 := by rw [hW2]; exact Blk.drew (Blk.new rfl)
            rw [← hW2]
            clear hW2 eB1 lB1 kB1
            have hb3 : Below w.heap.size w W2.drew := pb_drew hb2
            refine wp_region_sched [(0, true), (1, true), (2, true), (3, true), (4, true), (5, true), (6, true), (7, false), (8, false)] none (fun w' => Blk w' B #[.map (some vb), .map (some kb), .int .i64 (p.length : Nat), .int .i64 0] 137 ∧ Blk w' w1.heap.size #[.int .u8 118, .int .i64 i, .int .u64 b, .string (bs x)] 201 ∧ (Instr.lookup 134 (.map (some vb)) (.int .i64 i) false).run Tryz.prog w' = .ok (.agg #[.int .u64 p0, .int .u64 q0, .string (bs y0)]) w' ∧ True) (by kernel_rfl) (by kernel_rfl) ⟨kB2.drew, kT2.drew, hlkz.out _ hb3, trivial⟩ ?_
            (repeat (refine wpSched_quiet (v := ?_) rfl rfl (fun w' hS => ?_) (fun K hK => ?_); rotate_left; (focus ((try have e1 := hS.1.cell); (try have e2 := hS.2.1.cell); (try have e3 := hS.2.2.1.cell); (try have e4 := hS.2.2.2.1.cell); (try have f1 := hS.1); (try have f2 := hS.2.1); (try have f3 := hS.2.2.1); (try have f4 := hS.2.2.2.1); (try have f5 := hS.2.2.2.2.1); clear hS; go_simp; (try with_reducible rfl))); (go_simp; refine hK _ ?_; clear hK K)))
            refine wpSched_loud rfl (fun K hK => ?_)
            go_wp2
            refine hK.out _ _ (fun _ => ⟨kB2.drew.alloc _, kT2.drew.alloc _, hlkz.out _ (pb_alloc hb3 _), trivial⟩) ?_
            clear hK K
            refine wpSched_loud rfl (fun K hK => ?_)
            go_wp2
            refine hK.out _ _ (fun _ => ⟨kB2.drew.alloc _, kT2.drew.alloc _, hlkz.out _ (pb_alloc hb3 _), trivial⟩) ?_
            clear hK K
            refine wpSched_nil ?_
            obtain ⟨W3, hW3⟩ : ∃ W3, W3 = (W2.alloc (.cells #[.int .u64 p0, .int .u64 q0, .string (bs y0)] 39)).drew := ⟨_, rfl⟩
            have hbW3 : Below w.heap.size w W3 := by rw [hW3]; exact pb_drew (pb_alloc hb2 _)
            have kT3 : Blk W3 w1.heap.size #[.int .u8 118, .int .i64 i, .int .u64 b, .string (bs x)] 201 := by rw [hW3]; exact (kT2.alloc _).drew
            have kW3 : Blk W3 W2.heap.size #[.int .u64 p0, .int .u64 q0, .string (bs y0)] 39 := by rw [hW3]; exact Blk.drew (Blk.new rfl)
            rw [← hW3]
            clear hW3 kB2 hb2 hb3 kT2
            have cT3 := kT3.cell
            have lT3 := kT3.lt
            have cW3 := kW3.cell
            have lW3 := kW3.lt
            go_wp2_with fail
            refine (hkeep.out _ ((PaxAt.loc B p t).below h0.out (pb_alloc hbW3 _))).mono ?_
            rintro e w5 ⟨rfl, ow5, hs5, h5⟩
            go_wp2
            go_ret
            exact ⟨_, rfl, ow5, (Step.of_below t ow (pb_alloc hbW3 _)).trans hs5, h5⟩
        · have t3 : ((k.toNat : Int) == 118) = false := by
            simp only [beq_eq_false_iff_ne, ne_eq]
            intro hc
            exact h18 (UInt8.toNat_inj.1 (by simpa using (by omega : k.toNat = 118)))
          replace h118 : Hid (_ → _) := h118
          replace h18 : Hid (_ → _) := h18
          by_cases hVw : ((M, q0, y0) : VoteD) = (p0, q0, y0)
          · rw [if_pos hVw]
            rw [show decide (((M, q0, y0) : VoteD) ≠ (p0, q0, y0)) = false by simp [hVw]] at hneq
            simp only at hneq
            replace hVw : Hid (_ = _) := hVw
            go_enter Tryz.func87, Tryz.ntmps87
            go_wp2_with fail
            refine (hread.out _).mono ?_
            rintro e w1 ⟨a, b', c, d, rfl, hf, hb1⟩
            obtain ⟨rfl, hf2, rfl, rfl⟩ := hf _ _ _ _ rfl
            obtain rfl := hf2.symm
            clear hf
            have kB1 := hB.call hb1
            have eB1 := kB1.cell
            have lB1 := kB1.lt
            go_wp2_with fail
            refine wp_region_sched [(0, true), (1, true), (2, true), (3, true), (4, true), (5, true), (6, true)] none (fun w' => Blk w' B #[.map (some vb), .map (some kb), .int .i64 (p.length : Nat), .int .i64 0] 137 ∧ Blk w' w1.heap.size #[.int .u8 k.toNat, .int .i64 i, .int .u64 b, .string (bs x)] 201 ∧ True) (by kernel_rfl) (by kernel_rfl) ⟨(kB1.alloc _).drew, Blk.drew (Blk.new rfl), trivial⟩ ?_
            (repeat (refine wpSched_quiet (v := ?_) rfl rfl (fun w' hS => ?_) (fun K hK => ?_); rotate_left; (focus ((try have e1 := hS.1.cell); (try have e2 := hS.2.1.cell); (try have e3 := hS.2.2.1.cell); (try have e4 := hS.2.2.2.1.cell); (try have f1 := hS.1); (try have f2 := hS.2.1); (try have f3 := hS.2.2.1); (try have f4 := hS.2.2.2.1); (try have f5 := hS.2.2.2.2.1); clear hS; go_simp; (try with_reducible rfl))); (go_simp; refine hK _ ?_; clear hK K)))
            refine wpSched_nil ?_
            go_wp2_with fail
            obtain ⟨W2, hW2⟩ : ∃ W2, W2 = (w1.alloc (.cells #[.int .u8 k.toNat, .int .i64 i, .int .u64 b, .string (bs x)] 201)).drew := ⟨_, rfl⟩
            have hb2 : Below w.heap.size w W2 := by rw [hW2]; exact pb_drew (pb_alloc hb1 _)
            have kB2 : Blk W2 B #[.map (some vb), .map (some kb), .int .i64 (p.length : Nat), .int .i64 0] 137 := by rw [hW2]; exact (kB1.alloc _).drew
            have kT2 : Blk W2 w1.heap.size #[.int .u8 k.toNat, .int .i64 i, .int .u64 b, .string (bs x)] 201 := by rw [hW2]; exact Blk.drew (Blk.new rfl)
            rw [← hW2]
            clear hW2 eB1 lB1 kB1
            have hb3 : Below w.heap.size w W2.drew := pb_drew hb2
            refine wp_region_sched [(0, true), (1, true), (2, true), (3, true), (4, true), (5, true), (6, true), (7, false), (8, false)] none (fun w' => Blk w' B #[.map (some vb), .map (some kb), .int .i64 (p.length : Nat), .int .i64 0] 137 ∧ Blk w' w1.heap.size #[.int .u8 k.toNat, .int .i64 i, .int .u64 b, .string (bs x)] 201 ∧ (Instr.lookup 134 (.map (some vb)) (.int .i64 i) false).run Tryz.prog w' = .ok (.agg #[.int .u64 p0, .int .u64 q0, .string (bs y0)]) w' ∧ True) (by kernel_rfl) (by kernel_rfl) ⟨kB2.drew, kT2.drew, hlkz.out _ hb3, trivial⟩ ?_
            (repeat (refine wpSched_quiet (v := ?_) rfl rfl (fun w' hS => ?_) (fun K hK => ?_); rotate_left; (focus ((try have e1 := hS.1.cell); (try have e2 := hS.2.1.cell); (try have e3 := hS.2.2.1.cell); (try have e4 := hS.2.2.2.1.cell); (try have f1 := hS.1); (try have f2 := hS.2.1); (try have f3 := hS.2.2.1); (try have f4 := hS.2.2.2.1); (try have f5 := hS.2.2.2.2.1); clear hS; go_simp; (try with_reducible rfl))); (go_simp; refine hK _ ?_; clear hK K)))
            refine wpSched_loud rfl (fun K hK => ?_)
            go_wp2
            refine hK.out _ _ (fun _ => ⟨kB2.drew.alloc _, kT2.drew.alloc _, hlkz.out _ (pb_alloc hb3 _), trivial⟩) ?_
            clear hK K
            refine wpSched_loud rfl (fun K hK => ?_)
            go_wp2
            refine hK.out _ _ (fun _ => ⟨kB2.drew.alloc _, kT2.drew.alloc _, hlkz.out _ (pb_alloc hb3 _), trivial⟩) ?_
            clear hK K
            refine wpSched_nil ?_
            obtain ⟨W3, hW3⟩ : ∃ W3, W3 = (W2.alloc (.cells #[.int .u64 p0, .int .u64 q0, .string (bs y0)] 39)).drew := ⟨_, rfl⟩
            have hbW3 : Below w.heap.size w W3 := by rw [hW3]; exact pb_drew (pb_alloc hb2 _)
            have kT3 : Blk W3 w1.heap.size #[.int .u8 k.toNat, .int .i64 i, .int .u64 b, .string (bs x)] 201 := by rw [hW3]; exact (kT2.alloc _).drew
            have kW3 : Blk W3 W2.heap.size #[.int .u64 p0, .int .u64 q0, .string (bs y0)] 39 := by rw [hW3]; exact Blk.drew (Blk.new rfl)
            rw [← hW3]
            clear hW3 kB2 hb2 hb3 kT2
            have cT3 := kT3.cell
            have lT3 := kT3.lt
            have cW3 := kW3.cell
            have lW3 := kW3.lt
            go_wp2
            go_ret
            exact ⟨_, rfl, ow, Step.of_below t ow (pb_alloc hbW3 _), (PaxAt.loc B p t).below h0.out (pb_alloc hbW3 _)⟩
          · rw [if_neg hVw]
            rw [show decide (((M, q0, y0) : VoteD) ≠ (p0, q0, y0)) = true by simp [hVw]] at hneq
            simp only at hneq
            replace hVw : Hid (_ → _) := hVw
            go_enter Tryz.func87, Tryz.ntmps87
            go_wp2_with fail
            refine (hread.out _).mono ?_
            rintro e w1 ⟨a, b', c, d, rfl, hf, hb1⟩
            obtain ⟨rfl, hf2, rfl, rfl⟩ := hf _ _ _ _ rfl
            obtain rfl := hf2.symm
            clear hf
            have kB1 := hB.call hb1
            have eB1 := kB1.cell
            have lB1 := kB1.lt
            go_wp2_with fail
            refine wp_region_sched [(0, true), (1, true), (2, true), (3, true), (4, true), (5, true), (6, true)] none (fun w' => Blk w' B #[.map (some vb), .map (some kb), .int .i64 (p.length : Nat), .int .i64 0] 137 ∧ Blk w' w1.heap.size #[.int .u8 k.toNat, .int .i64 i, .int .u64 b, .string (bs x)] 201 ∧ True) (by kernel_rfl) (by kernel_rfl) ⟨(kB1.alloc _).drew, Blk.drew (Blk.new rfl), trivial⟩ ?_
            (repeat (refine wpSched_quiet (v := ?_) rfl rfl (fun w' hS => ?_) (fun K hK => ?_); rotate_left; (focus ((try have e1 := hS.1.cell); (try have e2 := hS.2.1.cell); (try have e3 := hS.2.2.1.cell); (try have e4 := hS.2.2.2.1.cell); (try have f1 := hS.1); (try have f2 := hS.2.1); (try have f3 := hS.2.2.1); (try have f4 := hS.2.2.2.1); (try have f5 := hS.2.2.2.2.1); clear hS; go_simp; (try with_reducible rfl))); (go_simp; refine hK _ ?_; clear hK K)))
            refine wpSched_nil ?_
            go_wp2_with fail
            obtain ⟨W2, hW2⟩ : ∃ W2, W2 = (w1.alloc (.cells #[.int .u8 k.toNat, .int .i64 i, .int .u64 b, .string (bs x)] 201)).drew := ⟨_, rfl⟩
            have hb2 : Below w.heap.size w W2 := by rw [hW2]; exact pb_drew (pb_alloc hb1 _)
            have kB2 : Blk W2 B #[.map (some vb), .map (some kb), .int .i64 (p.length : Nat), .int .i64 0] 137 := by rw [hW2]; exact (kB1.alloc _).drew
            have kT2 : Blk W2 w1.heap.size #[.int .u8 k.toNat, .int .i64 i, .int .u64 b, .string (bs x)] 201 := by rw [hW2]; exact Blk.drew (Blk.new rfl)
            rw [← hW2]
            clear hW2 eB1 lB1 kB1
            have hb3 : Below w.heap.size w W2.drew := pb_drew hb2
            refine wp_region_sched [(0, true), (1, true), (2, true), (3, true), (4, true), (5, true), (6, true), (7, false), (8, false)] none (fun w' => Blk w' B #[.map (some vb), .map (some kb), .int .i64 (p.length : Nat), .int .i64 0] 137 ∧ Blk w' w1.heap.size #[.int .u8 k.toNat, .int .i64 i, .int .u64 b, .string (bs x)] 201 ∧ (Instr.lookup 134 (.map (some vb)) (.int .i64 i) false).run Tryz.prog w' = .ok (.agg #[.int .u64 p0, .int .u64 q0, .string (bs y0)]) w' ∧ True) (by kernel_rfl) (by kernel_rfl) ⟨kB2.drew, kT2.drew, hlkz.out _ hb3, trivial⟩ ?_
            (repeat (refine wpSched_quiet (v := ?_) rfl rfl (fun w' hS => ?_) (fun K hK => ?_); rotate_left; (focus ((try have e1 := hS.1.cell); (try have e2 := hS.2.1.cell); (try have e3 := hS.2.2.1.cell); (try have e4 := hS.2.2.2.1.cell); (try have f1 := hS.1); (try have f2 := hS.2.1); (try have f3 := hS.2.2.1); (try have f4 := hS.2.2.2.1); (try have f5 := hS.2.2.2.2.1); clear hS; go_simp; (try with_reducible rfl))); (go_simp; refine hK _ ?_; clear hK K)))
            refine wpSched_loud rfl (fun K hK => ?_)
            go_wp2
            refine hK.out _ _ (fun _ => ⟨kB2.drew.alloc _, kT2.drew.alloc _, hlkz.out _ (pb_alloc hb3 _), trivial⟩) ?_
            clear hK K
            refine wpSched_loud rfl (fun K hK => ?_)
            go_wp2
            refine hK.out _ _ (fun _ => ⟨kB2.drew.alloc _, kT2.drew.alloc _, hlkz.out _ (pb_alloc hb3 _), trivial⟩) ?_
            clear hK K
            refine wpSched_nil ?_
            obtain ⟨W3, hW3⟩ : ∃ W3, W3 = (W2.alloc (.cells #[.int .u64 p0, .int .u64 q0, .string (bs y0)] 39)).drew := ⟨_, rfl⟩
            have hbW3 : Below w.heap.size w W3 := by rw [hW3]; exact pb_drew (pb_alloc hb2 _)
            have kT3 : Blk W3 w1.heap.size #[.int .u8 k.toNat, .int .i64 i, .int .u64 b, .string (bs x)] 201 := by rw [hW3]; exact (kT2.alloc _).drew
            have kW3 : Blk W3 W2.heap.size #[.int .u64 p0, .int .u64 q0, .string (bs y0)] 39 := by rw [hW3]; exact Blk.drew (Blk.new rfl)
            rw [← hW3]
            clear hW3 kB2 hb2 hb3 kT2
            have cT3 := kT3.cell
            have lT3 := kT3.lt
            have cW3 := kW3.cell
            have lW3 := kW3.lt
            go_wp2_with fail
            refine (hkeep.out _ ((PaxAt.loc B p t).below h0.out (pb_alloc hbW3 _))).mono ?_
            rintro e w5 ⟨rfl, ow5, hs5, h5⟩
            go_wp2
            go_ret
            exact ⟨_, rfl, ow5, (Step.of_below t ow (pb_alloc hbW3 _)).trans hs5, h5⟩
end Go.Proofs.YtaopeioebpfdeaaGreatDoor
