/- PROVED HERE: WALKS: node's bytes, batched, Proposal. Condition: the node is one that calls have made, with no bad versions. -/
import Derived.Test.YtaopeioebpfdeaaGreatDoorK38
namespace Go.Proofs.YtaopeioebpfdeaaGreatDoor
open Go Go.RowKit Go.Shelf Go.Extern.Stop Go.Stop Go.Extern
attribute [local go_sem] Oper.semAt_some wide_fn wide_depth

/-- Bytes, and whether there are any. -/
def okV (r : List UInt8 × Bool) : Value := .tuple #[.string (bs r.1), .bool r.2]
theorem nBytes_any (e : EntryD) (mv : Value) (w : World) (hm : MsgsAt w mv e.msgs) (hl : e.msgs.length ≤ 1073741824) : Calls Tryz.prog 41 #[entV e mv] w fun r w' => r = .returned (okV (encOk e)) ∧ Below w.heap.size w w' := by
  have hen := fun W h => encode_any e mv W h hl
  have hm1 := Src.below hm ((Below.refl w.heap.size w).alloc (Nat.le_refl _) (.cells #[.int .i64 e.kind, .int .u32 e.epoch, .int .i64 e.ver, mv] 65))
  unfold encOk okV
  obtain ⟨⟨x, er⟩, hx⟩ : ∃ q, encodeP e = q := ⟨_, rfl⟩
  rw [hx] at hen ⊢
  unfold entV at hen ⊢
  simp only at hen ⊢
  obtain ⟨ma, mn, mc, rfl⟩ : ∃ a n c, mv = .slice a n c := by
    rcases hm.2 with ⟨rfl, -⟩ | ⟨b, off, cap, rfl, -⟩
    · exact ⟨_, _, _, rfl⟩
    · exact ⟨_, _, _, rfl⟩
  replace hen : Hid (∀ _ _, _) := hen
  replace hx : Hid (_ = _) := hx
  by_cases her : er = 0
  · subst her
    go_enter Tryz.func41, Tryz.ntmps41
    go_wp2_with fail
    refine (hen.out _ hm1).mono ?_
    rintro r w1 ⟨rfl, hb1⟩
    go_wp2
    go_ret2
    exact ⟨rfl, by (repeat (first | exact Below.refl _ _ | with_reducible assumption | refine pb_alloc ?_ _ | refine pb_drew ?_ | refine pb_drewN ?_ _ | refine pb_set ?_ (by simp; try omega) _ | refine pb_trans ?_ (by with_reducible assumption)))⟩
  · have t1 : (er == 0) = false := by simpa using her
    rw [show decide (er = 0) = false by simpa using her]
    replace her : Hid (_ → _) := her
    go_enter Tryz.func41, Tryz.ntmps41
    go_wp2_with fail
    refine (hen.out _ hm1).mono ?_
    rintro r w1 ⟨rfl, hb1⟩
    go_wp2
    go_ret2
    exact ⟨rfl, by (repeat (first | exact Below.refl _ _ | with_reducible assumption | refine pb_alloc ?_ _ | refine pb_drew ?_ | refine pb_drewN ?_ _ | refine pb_set ?_ (by simp; try omega) _ | refine pb_trans ?_ (by with_reducible assumption)))⟩
/-- The head of a row of messages. -/
theorem src_msgs_take {W : World} {l : List MsgD} {b off cap : Nat} (h : Src W (.slice (some ⟨b, off, none⟩) l.length cap) 3 l.length (l.flatMap msgCells)) {k : Nat} (hk : k ≤ l.length) : MsgsAt W (.slice (some ⟨b, off, none⟩) k cap) (l.take k) := by
  have hlen : (l.take k).length = k := by rw [List.length_take]; omega
  rcases h.2 with ⟨h, -⟩ | ⟨b', off', cap', h, hc, hr⟩
  · cases h
  · cases h
    show Src W _ 3 (l.take k).length _
    rw [hlen]
    refine ⟨?_, .inr ⟨b, off, cap, rfl, by omega, fun j u hu => ?_⟩⟩
    · rw [msgCells_len, hlen]
    · refine hr j u ?_
      have hap : l.flatMap msgCells = (l.take k).flatMap msgCells ++ (l.drop k).flatMap msgCells := by rw [← List.flatMap_append, List.take_append_drop]
      rw [hap, List.getElem?_append_left (List.getElem?_eq_some_iff.1 hu).1]
      exact hu
theorem batchedN_step (era : EraD) (l : List MsgD) {k : Nat} (hk : k < l.length) (r : List UInt8 × Bool) : batchedN era (l.take k) (l.drop k) r = if (encOk ⟨1, era.1, 0, l.take (k + 1)⟩).2 then batchedN era (l.take (k + 1)) (l.drop (k + 1)) (encOk ⟨1, era.1, 0, l.take (k + 1)⟩) else r := by
  rw [List.drop_eq_getElem_cons hk, batchedN, List.take_add_one, List.getElem?_eq_getElem hk]
  rfl
set_option maxRecDepth 8000 in
set_option maxHeartbeats 1000000 in
theorem nBatched_any {px sb lb pb : Nat} {av : Value} (B : Nat) (n : NodeS) (t : List Nat) (ow : Own) (era : EraD) (w : World) (hN : NodeIs B px sb lb pb av n t ow w) :
    Calls Tryz.prog 44 #[.pointer (some ⟨B, 0, none⟩), eraV era] w fun r w' => r = .returned (okV (batchedN era [] (batchP n.pool (if (protoP era.2.1).1 = 1 then 1 else 8)) ([], false))) ∧ Below w.heap.size w w' := by
  have hB := hN.blk
  unfold nodeCells at hB
  have e0 := hB.cell
  have l0 := hB.lt
  have hpr := fun W => protocol_any era.2.1 W
  obtain ⟨ep, ve, st⟩ := era
  unfold eraV okV
  simp only at hpr ⊢
  obtain ⟨⟨q1, q2⟩, hq⟩ : ∃ q, protoP ve = q := ⟨_, rfl⟩
  rw [hq] at hpr ⊢
  simp only at hpr ⊢
  obtain ⟨mo, hmo⟩ : ∃ mo : Nat, mo = (if q1 = 1 then 1 else 8) := ⟨_, rfl⟩
  rw [← hmo]
  have hm1 : 1 ≤ mo ∧ mo ≤ 64 := by rw [hmo]; split <;> omega
  have hbat := fun W h => plBatch_any pb n.pool (t ++ [3]) ow mo hm1.1 hm1.2 W h
  have hlen : (batchP n.pool mo).length ≤ mo := by unfold batchP; rw [List.length_take]; omega
  obtain ⟨l, hl⟩ : ∃ l, batchP n.pool mo = l := ⟨_, rfl⟩
  rw [hl] at hbat hlen ⊢
  unfold BatchPost at hbat
  have hpool := hN.pool
  replace hl : Hid (_ = _) := hl
  replace hq : Hid (_ = _) := hq
  replace hpr : Hid (∀ _, _) := hpr
  replace hbat : Hid (∀ _ _, _) := hbat
  have hkA : Blk (w.alloc (.cells #[.int .u32 ep, .int .i64 ve, .int .i64 st] 92)) w.heap.size #[.int .u32 ep, .int .i64 ve, .int .i64 st] 92 := Blk.new (by simp)
  by_cases h1 : q1 = 1
  · have t1 : (q1 == 1) = true := by simp [h1]
    rw [if_pos h1] at hmo
    subst hmo
    replace h1 : Hid (_ = _) := h1
    go_enter Tryz.func44, Tryz.ntmps44
    go_wp2_with fail
    refine (hpr.out _).mono ?_
    rintro r w1 ⟨rfl, hb1⟩
    have hb1w : Below w.heap.size w w1 := by (repeat (first | exact Below.refl _ _ | with_reducible assumption | refine pb_alloc ?_ _ | refine pb_drew ?_ | refine pb_drewN ?_ _ | refine pb_set ?_ (by simp; try omega) _ | refine pb_trans ?_ (by with_reducible assumption)))
    have hB1 := hB.call hb1w
    have kA1 := hkA.call hb1
    have c1 := hB1.cell
    go_wp2_with fail
    refine (hbat.out _ ((PoolAt.loc pb n.pool (t ++ [3])).below hpool hb1w)).mono ?_
    rintro r w2 ⟨v, rfl, hb2, hrow2, hnew2⟩
    have hb2w := pb_trans hb1w hb2
    have kA2 := kA1.call hb2
    obtain ⟨va, vc, rfl⟩ := hrow2.src.shape
    replace hrow2 : Hid (Row _ _ _ _ _ _) := hrow2
    replace hnew2 : Hid (∀ _, _) := hnew2
    clear e0 l0 c1 hB1 kA1 hkA
    go_wp2_with fail
    go_loopw [11, 12, 35] (fun p11 p12 p35 wr => ∃ (k : Nat) (x : List UInt8) (f : Bool), p11 = .string (bs x) ∧ p12 = .bool f ∧ p35 = .int .i64 (k : Nat) ∧ k ≤ l.length ∧ Below w2.heap.size w2 wr ∧ batchedN (ep, ve, st) [] l ([], false) = batchedN (ep, ve, st) (l.take k) (l.drop k) (x, f)) (fun _ _ p35 _ => l.length - (intOf p35).toNat)
    case atStart => exact ⟨0, [], false, rfl, rfl, rfl, by omega, Below.refl _ _, rfl⟩
    case round =>
      obtain ⟨k, x, f, rfl, rfl, rfl, hk, hbk, hbt⟩ := hrel
      by_cases hkl : k < l.length
      · rw [batchedN_step (ep, ve, st) l hkl] at hbt
        have t2 : decide ((k : Int) < (l.length : Int)) = true := by simpa using hkl
        have hwk : IntKind.i64.wrap ((k : Int) + 1) = (k : Int) + 1 := by rw [IntKind.wrap_i64]; omega
        obtain ⟨g, hva, hcap⟩ : ∃ g, va = some ⟨g, 0, none⟩ ∧ l.length ≤ vc := by
          rcases hrow2.out.form with ⟨h, h0, -⟩ | ⟨g, cap, h, h2, -⟩
          · omega
          · cases h; exact ⟨g, rfl, h2⟩
        subst hva
        have y0 : (0 : Int) ≤ (k : Int) + 1 := by omega
        have y1 : (k : Int) + 1 ≤ (vc : Int) := by omega
        have hcw : IntKind.i64.wrap (vc : Int) = (vc : Int) := by
          rcases hrow2.out.form with ⟨h, h0, -⟩ | ⟨g, cap, h, h2, h3⟩
          · omega
          · cases h; unfold maxLen at h3; rw [IntKind.wrap_i64]; omega
        have kAk := kA2.call hbk
        have hsk : MsgsAt wr (.slice (some ⟨g, 0, none⟩) (k + 1) vc) (l.take (k + 1)) := src_msgs_take (hrow2.out.src.below hbk) (by omega)
        have hby := fun W h => nBytes_any ⟨1, ep, 0, l.take (k + 1)⟩ (.slice (some ⟨g, 0, none⟩) (k + 1) vc) W h (by show (l.take (k + 1)).length ≤ _; rw [List.length_take]; omega)
        obtain ⟨⟨y, b⟩, hy⟩ : ∃ q, encOk ⟨1, ep, 0, l.take (k + 1)⟩ = q := ⟨_, rfl⟩
        rw [hy] at hby hbt
        unfold entV okV at hby
        simp only at hby hbt
        replace hby : Hid (∀ _ _, _) := hby
        replace hy : Hid (_ = _) := hy
        replace hbt : Hid (_ = _) := hbt
        go_wp2_with fail
        refine wp_region_sched [(0, true), (1, true), (2, true), (3, true), (4, true), (5, true), (6, false), (7, false), (8, true), (9, true), (10, true), (11, true), (12, true)] none (fun w' => Blk w' w.heap.size #[.int .u32 ep, .int .i64 ve, .int .i64 st] 92 ∧ True) (by kernel_rfl) (by kernel_rfl) ⟨kAk.drew, trivial⟩ ?_
        (repeat (refine wpSched_quiet (v := ?_) rfl rfl (fun w' hS => ?_) (fun K hK => ?_); rotate_left; (focus ((try have e1 := hS.1.cell); (try have e2 := hS.2.1.cell); (try have e3 := hS.2.2.1.cell); (try have e4 := hS.2.2.2.1.cell); (try have f1 := hS.1); (try have f2 := hS.2.1); (try have f3 := hS.2.2.1); (try have f4 := hS.2.2.2.1); (try have f5 := hS.2.2.2.2.1); clear hS; go_simp; (try with_reducible rfl))); (go_simp; refine hK _ ?_; clear hK K)))
        refine wpSched_loud rfl (fun K hK => ?_)
        go_wp2
        refine hK.out _ _ (fun _ => ⟨kAk.drew, trivial⟩) ?_
        clear hK K
        refine wpSched_loud rfl (fun K hK => ?_)
        go_wp2_with fail
        refine (hby.out _ (Src.below hsk (pb_drew (Below.refl _ _)))).mono ?_
        rintro r w4 ⟨rfl, hb4⟩
        have hbk4 := pb_trans (pb_drew hbk) hb4
        go_wp2
        refine hK.out _ _ (fun _ => ⟨kAk.drew.call hb4, trivial⟩) ?_
        clear hK K
        (repeat (refine wpSched_quiet (v := ?_) rfl rfl (fun w' hS => ?_) (fun K hK => ?_); rotate_left; (focus ((try have e1 := hS.1.cell); (try have e2 := hS.2.1.cell); (try have e3 := hS.2.2.1.cell); (try have e4 := hS.2.2.2.1.cell); (try have f1 := hS.1); (try have f2 := hS.2.1); (try have f3 := hS.2.2.1); (try have f4 := hS.2.2.2.1); (try have f5 := hS.2.2.2.2.1); clear hS; go_simp; (try with_reducible rfl))); (go_simp; refine hK _ ?_; clear hK K)))
        refine wpSched_nil ?_
        cases b with
        | true =>
          go_wp2
          go_roundw
          case rel => exact ⟨k + 1, y, true, rfl, rfl, by simp, by omega, hbk4, hbt.out⟩
          case measure => simp [intOf]; omega
        | false =>
          have hbw : Below w.heap.size w w4 := pb_trans hb2w hbk4
          go_wp2
          go_ret2
          exact ⟨by rw [hbt.out]; rfl, hbw⟩
      · obtain rfl : k = l.length := by omega
        have t2 : decide ((l.length : Int) < (l.length : Int)) = false := by simp
        rw [List.drop_length, batchedN] at hbt
        have hbw : Below w.heap.size w wr := pb_trans hb2w hbk
        replace hbt : Hid (_ = _) := hbt
        go_wp2
        go_ret2
        exact ⟨by rw [hbt.out]; rfl, hbw⟩
  · have t1 : (q1 == 1) = false := by simpa using h1
    rw [if_neg h1] at hmo
    subst hmo
    replace h1 : Hid (_ → _) := h1
    go_enter Tryz.func44, Tryz.ntmps44
    go_wp2_with fail
    refine (hpr.out _).mono ?_
    rintro r w1 ⟨rfl, hb1⟩
    have hb1w : Below w.heap.size w w1 := by (repeat (first | exact Below.refl _ _ | with_reducible assumption | refine pb_alloc ?_ _ | refine pb_drew ?_ | refine pb_drewN ?_ _ | refine pb_set ?_ (by simp; try omega) _ | refine pb_trans ?_ (by with_reducible assumption)))
    have hB1 := hB.call hb1w
    have kA1 := hkA.call hb1
    have c1 := hB1.cell
    go_wp2_with fail
    refine (hbat.out _ ((PoolAt.loc pb n.pool (t ++ [3])).below hpool hb1w)).mono ?_
    rintro r w2 ⟨v, rfl, hb2, hrow2, hnew2⟩
    have hb2w := pb_trans hb1w hb2
    have kA2 := kA1.call hb2
    obtain ⟨va, vc, rfl⟩ := hrow2.src.shape
    replace hrow2 : Hid (Row _ _ _ _ _ _) := hrow2
    replace hnew2 : Hid (∀ _, _) := hnew2
    clear e0 l0 c1 hB1 kA1 hkA
    go_wp2_with fail
    go_loopw [11, 12, 35] (fun p11 p12 p35 wr => ∃ (k : Nat) (x : List UInt8) (f : Bool), p11 = .string (bs x) ∧ p12 = .bool f ∧ p35 = .int .i64 (k : Nat) ∧ k ≤ l.length ∧ Below w2.heap.size w2 wr ∧ batchedN (ep, ve, st) [] l ([], false) = batchedN (ep, ve, st) (l.take k) (l.drop k) (x, f)) (fun _ _ p35 _ => l.length - (intOf p35).toNat)
    case atStart => exact ⟨0, [], false, rfl, rfl, rfl, by omega, Below.refl _ _, rfl⟩
    case round =>
      obtain ⟨k, x, f, rfl, rfl, rfl, hk, hbk, hbt⟩ := hrel
      by_cases hkl : k < l.length
      · rw [batchedN_step (ep, ve, st) l hkl] at hbt
        have t2 : decide ((k : Int) < (l.length : Int)) = true := by simpa using hkl
        have hwk : IntKind.i64.wrap ((k : Int) + 1) = (k : Int) + 1 := by rw [IntKind.wrap_i64]; omega
        obtain ⟨g, hva, hcap⟩ : ∃ g, va = some ⟨g, 0, none⟩ ∧ l.length ≤ vc := by
          rcases hrow2.out.form with ⟨h, h0, -⟩ | ⟨g, cap, h, h2, -⟩
          · omega
          · cases h; exact ⟨g, rfl, h2⟩
        subst hva
        have y0 : (0 : Int) ≤ (k : Int) + 1 := by omega
        have y1 : (k : Int) + 1 ≤ (vc : Int) := by omega
        have hcw : IntKind.i64.wrap (vc : Int) = (vc : Int) := by
          rcases hrow2.out.form with ⟨h, h0, -⟩ | ⟨g, cap, h, h2, h3⟩
          · omega
          · cases h; unfold maxLen at h3; rw [IntKind.wrap_i64]; omega
        have kAk := kA2.call hbk
        have hsk : MsgsAt wr (.slice (some ⟨g, 0, none⟩) (k + 1) vc) (l.take (k + 1)) := src_msgs_take (hrow2.out.src.below hbk) (by omega)
        have hby := fun W h => nBytes_any ⟨1, ep, 0, l.take (k + 1)⟩ (.slice (some ⟨g, 0, none⟩) (k + 1) vc) W h (by show (l.take (k + 1)).length ≤ _; rw [List.length_take]; omega)
        obtain ⟨⟨y, b⟩, hy⟩ : ∃ q, encOk ⟨1, ep, 0, l.take (k + 1)⟩ = q := ⟨_, rfl⟩
        rw [hy] at hby hbt
        unfold entV okV at hby
        simp only at hby hbt
        replace hby : Hid (∀ _ _, _) := hby
        replace hy : Hid (_ = _) := hy
        replace hbt : Hid (_ = _) := hbt
        go_wp2_with fail
        refine wp_region_sched [(0, true), (1, true), (2, true), (3, true), (4, true), (5, true), (6, false), (7, false), (8, true), (9, true), (10, true), (11, true), (12, true)] none (fun w' => Blk w' w.heap.size #[.int .u32 ep, .int .i64 ve, .int .i64 st] 92 ∧ True) (by kernel_rfl) (by kernel_rfl) ⟨kAk.drew, trivial⟩ ?_
        (repeat (refine wpSched_quiet (v := ?_) rfl rfl (fun w' hS => ?_) (fun K hK => ?_); rotate_left; (focus ((try have e1 := hS.1.cell); (try have e2 := hS.2.1.cell); (try have e3 := hS.2.2.1.cell); (try have e4 := hS.2.2.2.1.cell); (try have f1 := hS.1); (try have f2 := hS.2.1); (try have f3 := hS.2.2.1); (try have f4 := hS.2.2.2.1); (try have f5 := hS.2.2.2.2.1); clear hS; go_simp; (try with_reducible rfl))); (go_simp; refine hK _ ?_; clear hK K)))
        refine wpSched_loud rfl (fun K hK => ?_)
        go_wp2
        refine hK.out _ _ (fun _ => ⟨kAk.drew, trivial⟩) ?_
        clear hK K
        refine wpSched_loud rfl (fun K hK => ?_)
        go_wp2_with fail
        refine (hby.out _ (Src.below hsk (pb_drew (Below.refl _ _)))).mono ?_
        rintro r w4 ⟨rfl, hb4⟩
        have hbk4 := pb_trans (pb_drew hbk) hb4
        go_wp2
        refine hK.out _ _ (fun _ => ⟨kAk.drew.call hb4, trivial⟩) ?_
        clear hK K
        (repeat (refine wpSched_quiet (v := ?_) rfl rfl (fun w' hS => ?_) (fun K hK => ?_); rotate_left; (focus ((try have e1 := hS.1.cell); (try have e2 := hS.2.1.cell); (try have e3 := hS.2.2.1.cell); (try have e4 := hS.2.2.2.1.cell); (try have f1 := hS.1); (try have f2 := hS.2.1); (try have f3 := hS.2.2.1); (try have f4 := hS.2.2.2.1); (try have f5 := hS.2.2.2.2.1); clear hS; go_simp; (try with_reducible rfl))); (go_simp; refine hK _ ?_; clear hK K)))
        refine wpSched_nil ?_
        cases b with
        | true =>
          go_wp2
          go_roundw
          case rel => exact ⟨k + 1, y, true, rfl, rfl, by simp, by omega, hbk4, hbt.out⟩
          case measure => simp [intOf]; omega
        | false =>
          have hbw : Below w.heap.size w w4 := pb_trans hb2w hbk4
          go_wp2
          go_ret2
          exact ⟨by rw [hbt.out]; rfl, hbw⟩
      · obtain rfl : k = l.length := by omega
        have t2 : decide ((l.length : Int) < (l.length : Int)) = false := by simp
        rw [List.drop_length, batchedN] at hbt
        have hbw : Below w.heap.size w wr := pb_trans hb2w hbk
        replace hbt : Hid (_ = _) := hbt
        go_wp2
        go_ret2
        exact ⟨by rw [hbt.out]; rfl, hbw⟩
set_option maxRecDepth 8000 in
set_option maxHeartbeats 1000000 in
theorem nProposal_any {px sb lb pb : Nat} {av : Value} (B : Nat) (n : NodeS) (t : List Nat) (ow : Own) (w : World) (hN : NodeIs B px sb lb pb av n t ow w) (hl : n.loc.fold.eras.length ≤ 536870912) :
    Calls Tryz.prog 15 #[.pointer (some ⟨B, 0, none⟩)] w fun r w' => r = .returned (okV (proposalN n)) ∧ Below w.heap.size w w' := by
  have hB := hN.blk
  have hr := nReady_any w hB
  have hpn : proposalN n = if n.down then ([], false)
    else if n.loc.blk then encOk ⟨3, (nowP n.loc.fold.eras).1, 0, []⟩
    else if n.wanted ≠ 0 ∧ checkE (nowP n.loc.fold.eras).2.1 n.wanted = 0 then encOk ⟨2, (nowP n.loc.fold.eras).1, n.wanted, []⟩
    else batchedN (nowP n.loc.fold.eras) [] (batchP n.pool (if (protoP (nowP n.loc.fold.eras).2.1).1 = 1 then 1 else 8)) ([], false) := by
    have hp : (protoP (nowP n.loc.fold.eras).2.1).1 = (if known (nowP n.loc.fold.eras).2.1 then (if (nowP n.loc.fold.eras).2.1 = 1 then (1 : Int) else 2) else 0) := by
      unfold protoP; split
      · split <;> rfl
      · rfl
    rw [hp]; rfl
  have hera := fun W hW => lEra_any lb n.loc (t ++ [2]) ow W hW hl
  have hno := fun hb W hW => lAsks_no lb n.loc (t ++ [2]) ow W hW hb
  have hyes := fun hb W hW => lAsks_yes lb n.loc (t ++ [2]) ow W hW hb hl
  have hlo := hN.lo
  have hby := fun k ep v W => nBytes_any ⟨k, ep, v, []⟩ (.slice none 0 0) W (src_nil _ _) (by simp)
  unfold nodeCells at hB
  unfold readyN at hr
  have e0 := hB.cell
  have l0 := hB.lt
  obtain ⟨⟨ep, ve, st⟩, hn⟩ : ∃ x, nowP n.loc.fold.eras = x := ⟨_, rfl⟩
  rw [hn] at hera hpn hyes
  have hbt := fun W (hb : Below w.heap.size w W) => nBatched_any B n t ow (ep, ve, st) W ((NodeIs.loc B px sb lb pb av n t).below hN hb)
  unfold eraV at hera hbt
  unfold okV entV at hby
  unfold okV at hbt
  simp only at hera hpn hyes hbt
  obtain ⟨BB, hBB⟩ : ∃ q, batchedN (ep, ve, st) [] (batchP n.pool (if (protoP ve).1 = 1 then 1 else 8)) ([], false) = q := ⟨_, rfl⟩
  rw [hBB] at hbt hpn
  replace hBB : Hid (_ = _) := hBB
  replace hera : Hid (∀ _ _, _) := hera
  replace hn : Hid (_ = _) := hn
  replace hlo : Hid (LocalAt _ _ _ _ _) := hlo
  replace hbt : Hid (∀ _, _) := hbt
  replace hby : Hid (∀ _, _) := hby
  rw [hpn]
  by_cases hd : n.down = true
  · rw [if_pos hd] at hpn ⊢
    rw [hd] at hr
    replace hpn : Hid (_ = _) := hpn
    replace hr : Hid (Calls _ _ _ _ _) := hr
    replace hd : Hid (_ = _) := hd
    go_enter Tryz.func15, Tryz.ntmps15
    go_wp2_with fail
    refine hr.out.mono ?_
    rintro e w1 ⟨rfl, hw1⟩
    obtain rfl := hw1.symm
    go_wp2
    go_ret2
    exact ⟨rfl, Below.refl _ _⟩
  · have hd' : n.down = false := by simpa using hd
    rw [if_neg hd] at hpn ⊢
    rw [hd'] at hr
    replace hr : Hid (Calls _ _ _ _ _) := hr
    replace hd : Hid (_ → _) := hd
    replace hd' : Hid (_ = _) := hd'
    by_cases hbl : n.loc.blk = true
    · have hasks := hyes hbl
      rw [if_pos hbl] at hpn ⊢
      clear hyes hno
      replace hasks : Hid (∀ _ _, _) := hasks
      replace hpn : Hid (_ = _) := hpn
      replace hbl : Hid (_ = _) := hbl
      go_enter Tryz.func15, Tryz.ntmps15
      go_wp2_with fail
      refine hr.out.mono ?_
      rintro e w1 ⟨rfl, hw1⟩
      obtain rfl := hw1.symm
      go_wp2_with fail
      refine (hasks.out _ hlo.out).mono ?_
      rintro e w1 ⟨rfl, hb1⟩
      go_wp2_with fail
      refine (hby.out 3 ep 0 _).mono ?_
      rintro e w2 ⟨rfl, hb2⟩
      go_wp2
      go_ret2
      exact ⟨rfl, by (repeat (first | exact Below.refl _ _ | with_reducible assumption | refine pb_alloc ?_ _ | refine pb_drew ?_ | refine pb_drewN ?_ _ | refine pb_set ?_ (by simp; try omega) _ | refine pb_trans ?_ (by with_reducible assumption)))⟩
    · have hbl' : n.loc.blk = false := by simpa using hbl
      have hasks := hno hbl'
      rw [if_neg hbl] at hpn ⊢
      clear hyes hno
      replace hasks : Hid (∀ _ _, _) := hasks
      replace hbl : Hid (_ → _) := hbl
      replace hbl' : Hid (_ = _) := hbl'
      by_cases hw : n.wanted = 0
      · rw [if_neg (fun h => h.1 hw)] at hpn ⊢
        have t2 : (n.wanted != 0) = false := by simp [hw]
        replace hpn : Hid (_ = _) := hpn
        replace hw : Hid (_ = _) := hw
        go_enter Tryz.func15, Tryz.ntmps15
        go_wp2_with fail
        refine hr.out.mono ?_
        rintro e w1 ⟨rfl, hw1⟩
        obtain rfl := hw1.symm
        go_wp2_with fail
        refine (hasks.out _ hlo.out).mono ?_
        rintro e w1 ⟨rfl, hb1⟩
        have hbA : Below w.heap.size w (w1.alloc (.cells #[.int .i64 0, .int .u32 0, .int .i64 0, .slice none 0 0] 65)) := by (repeat (first | exact Below.refl _ _ | with_reducible assumption | refine pb_alloc ?_ _ | refine pb_drew ?_ | refine pb_drewN ?_ _ | refine pb_set ?_ (by simp; try omega) _ | refine pb_trans ?_ (by with_reducible assumption)))
        have cA := (hB.call hbA).cell
        go_wp2_with fail
        refine (hera.out _ ((LocalAt.loc lb n.loc (t ++ [2])).below hlo.out hbA)).mono ?_
        rintro e w2 ⟨rfl, hb2⟩
        obtain ⟨W3, hW3⟩ : ∃ W3, W3 = (w2.alloc (.cells #[.int .u32 ep, .int .i64 ve, .int .i64 st] 92)).drew := ⟨_, rfl⟩
        have hb3 : Below w.heap.size w W3 := by rw [hW3]; exact pb_drew (pb_alloc (pb_trans hbA hb2) _)
        have kE3 : Blk W3 w2.heap.size #[.int .u32 ep, .int .i64 ve, .int .i64 st] 92 := by rw [hW3]; (repeat (first | with_reducible assumption | (refine Blk.new ?_; simp; done) | refine Blk.alloc ?_ _ | refine Blk.drew ?_ | refine Blk.drewN ?_ _ | refine Blk.call ?_ (by with_reducible assumption)))
        have kB3 := hB.call hb3
        clear cA
        go_wp2_with fail
        refine wp_region_sched [(0, true), (1, true), (2, true), (3, true), (4, true), (5, true), (6, true), (7, true), (8, true), (9, true), (10, true), (11, true), (12, false), (13, true), (14, true)] none (fun w' => Blk w' B #[.pointer (some ⟨px, 0, none⟩), .int .i64 n.id, .int .i64 n.version, .slice none 0 0, .pointer (some ⟨sb, 0, none⟩), .pointer (some ⟨lb, 0, none⟩), .pointer (some ⟨pb, 0, none⟩), av, .int .i64 (n.offered : Nat), .int .i64 (n.applied : Nat), .int .i64 n.wanted, .bool n.down] 78 ∧ Blk w' w2.heap.size #[.int .u32 ep, .int .i64 ve, .int .i64 st] 92 ∧ True) (by kernel_rfl) (by kernel_rfl) (by rw [← hW3]; exact ⟨kB3, kE3, trivial⟩) ?_
        rw [← hW3]
        clear hW3
        (repeat (refine wpSched_quiet (v := ?_) rfl rfl (fun w' hS => ?_) (fun K hK => ?_); rotate_left; (focus ((try have e1 := hS.1.cell); (try have e2 := hS.2.1.cell); (try have e3 := hS.2.2.1.cell); (try have e4 := hS.2.2.2.1.cell); (try have f1 := hS.1); (try have f2 := hS.2.1); (try have f3 := hS.2.2.1); (try have f4 := hS.2.2.2.1); (try have f5 := hS.2.2.2.2.1); clear hS; go_simp; (try with_reducible rfl))); (go_simp; refine hK _ ?_; clear hK K)))
        (repeat (refine wpSched_unwanted rfl rfl (fun K hK => ?_); go_simp; refine hK _ ?_; clear hK K))
        refine wpSched_loud rfl (fun K hK => ?_)
        go_wp2
        refine hK.out _ _ (fun _ => ⟨kB3, kE3, trivial⟩) ?_
        clear hK K
        (repeat (refine wpSched_unwanted rfl rfl (fun K hK => ?_); go_simp; refine hK _ ?_; clear hK K))
        (repeat (refine wpSched_quiet (v := ?_) rfl rfl (fun w' hS => ?_) (fun K hK => ?_); rotate_left; (focus ((try have e1 := hS.1.cell); (try have e2 := hS.2.1.cell); (try have e3 := hS.2.2.1.cell); (try have e4 := hS.2.2.2.1.cell); (try have f1 := hS.1); (try have f2 := hS.2.1); (try have f3 := hS.2.2.1); (try have f4 := hS.2.2.2.1); (try have f5 := hS.2.2.2.2.1); clear hS; go_simp; (try with_reducible rfl))); (go_simp; refine hK _ ?_; clear hK K)))
        refine wpSched_nil ?_
        have cE := (kE3).cell
        go_wp2_with fail
        refine (hbt.out W3 hb3).mono ?_
        rintro e w7 ⟨rfl, hb7⟩
        have hb7w := pb_trans hb3 hb7
        go_wp2
        go_ret2
        exact ⟨rfl, hb7w⟩
      · have t2 : (n.wanted != 0) = true := by simpa using hw
        obtain ⟨er, her⟩ : ∃ er, checkE ve n.wanted = er := ⟨_, rfl⟩
        have hck := fun W => check_any ve n.wanted W
        rw [her] at hck
        rw [her] at hpn ⊢
        replace her : Hid (_ = _) := her
        replace hck : Hid (∀ _, _) := hck
        by_cases he : er = 0
        · rw [if_pos ⟨hw, he⟩] at hpn ⊢
          subst he
          replace hpn : Hid (_ = _) := hpn
          replace hw : Hid (_ → _) := hw
          go_enter Tryz.func15, Tryz.ntmps15
          go_wp2_with fail
          refine hr.out.mono ?_
          rintro e w1 ⟨rfl, hw1⟩
          obtain rfl := hw1.symm
          go_wp2_with fail
          refine (hasks.out _ hlo.out).mono ?_
          rintro e w1 ⟨rfl, hb1⟩
          have hbA : Below w.heap.size w (w1.alloc (.cells #[.int .i64 0, .int .u32 0, .int .i64 0, .slice none 0 0] 65)) := by (repeat (first | exact Below.refl _ _ | with_reducible assumption | refine pb_alloc ?_ _ | refine pb_drew ?_ | refine pb_drewN ?_ _ | refine pb_set ?_ (by simp; try omega) _ | refine pb_trans ?_ (by with_reducible assumption)))
          have cA := (hB.call hbA).cell
          go_wp2_with fail
          refine (hera.out _ ((LocalAt.loc lb n.loc (t ++ [2])).below hlo.out hbA)).mono ?_
          rintro e w2 ⟨rfl, hb2⟩
          obtain ⟨W3, hW3⟩ : ∃ W3, W3 = (w2.alloc (.cells #[.int .u32 ep, .int .i64 ve, .int .i64 st] 92)).drew := ⟨_, rfl⟩
          have hb3 : Below w.heap.size w W3 := by rw [hW3]; exact pb_drew (pb_alloc (pb_trans hbA hb2) _)
          have kE3 : Blk W3 w2.heap.size #[.int .u32 ep, .int .i64 ve, .int .i64 st] 92 := by rw [hW3]; (repeat (first | with_reducible assumption | (refine Blk.new ?_; simp; done) | refine Blk.alloc ?_ _ | refine Blk.drew ?_ | refine Blk.drewN ?_ _ | refine Blk.call ?_ (by with_reducible assumption)))
          have kB3 := hB.call hb3
          clear cA
          go_wp2_with fail
          refine wp_region_sched [(0, true), (1, true), (2, true), (3, true), (4, true), (5, true), (6, true), (7, true), (8, true), (9, true), (10, true), (11, true), (12, false), (13, true), (14, true)] none (fun w' => Blk w' B #[.pointer (some ⟨px, 0, none⟩), .int .i64 n.id, .int .i64 n.version, .slice none 0 0, .pointer (some ⟨sb, 0, none⟩), .pointer (some ⟨lb, 0, none⟩), .pointer (some ⟨pb, 0, none⟩), av, .int .i64 (n.offered : Nat), .int .i64 (n.applied : Nat), .int .i64 n.wanted, .bool n.down] 78 ∧ Blk w' w2.heap.size #[.int .u32 ep, .int .i64 ve, .int .i64 st] 92 ∧ True) (by kernel_rfl) (by kernel_rfl) (by rw [← hW3]; exact ⟨kB3, kE3, trivial⟩) ?_
          rw [← hW3]
          clear hW3
          (repeat (refine wpSched_quiet (v := ?_) rfl rfl (fun w' hS => ?_) (fun K hK => ?_); rotate_left; (focus ((try have e1 := hS.1.cell); (try have e2 := hS.2.1.cell); (try have e3 := hS.2.2.1.cell); (try have e4 := hS.2.2.2.1.cell); (try have f1 := hS.1); (try have f2 := hS.2.1); (try have f3 := hS.2.2.1); (try have f4 := hS.2.2.2.1); (try have f5 := hS.2.2.2.2.1); clear hS; go_simp; (try with_reducible rfl))); (go_simp; refine hK _ ?_; clear hK K)))
          refine wpSched_loud rfl (fun K hK => ?_)
          go_wp2_with fail
          refine (hck.out _).mono ?_
          rintro e w4 ⟨rfl, hb4⟩
          have kB4 := kB3.call hb4
          have kE4 := kE3.call hb4
          have hb4w := pb_trans hb3 hb4
          go_wp2
          refine hK.out _ _ (fun _ => ⟨kB4, kE4, trivial⟩) ?_
          clear hK K
          (repeat (refine wpSched_quiet (v := ?_) rfl rfl (fun w' hS => ?_) (fun K hK => ?_); rotate_left; (focus ((try have e1 := hS.1.cell); (try have e2 := hS.2.1.cell); (try have e3 := hS.2.2.1.cell); (try have e4 := hS.2.2.2.1.cell); (try have f1 := hS.1); (try have f2 := hS.2.1); (try have f3 := hS.2.2.1); (try have f4 := hS.2.2.2.1); (try have f5 := hS.2.2.2.2.1); clear hS; go_simp; (try with_reducible rfl))); (go_simp; refine hK _ ?_; clear hK K)))
          refine wpSched_nil ?_
          go_wp2_with fail
          refine wp_region_sched [(0, true), (1, true), (2, true), (3, true), (4, true), (5, true), (6, false), (7, false), (8, true), (9, true), (10, true), (11, true)] none (fun w' => Blk w' B #[.pointer (some ⟨px, 0, none⟩), .int .i64 n.id, .int .i64 n.version, .slice none 0 0, .pointer (some ⟨sb, 0, none⟩), .pointer (some ⟨lb, 0, none⟩), .pointer (some ⟨pb, 0, none⟩), av, .int .i64 (n.offered : Nat), .int .i64 (n.applied : Nat), .int .i64 n.wanted, .bool n.down] 78 ∧ Blk w' w2.heap.size #[.int .u32 ep, .int .i64 ve, .int .i64 st] 92 ∧ True) (by kernel_rfl) (by kernel_rfl) ⟨kB4.drew, kE4.drew, trivial⟩ ?_
          (repeat (refine wpSched_quiet (v := ?_) rfl rfl (fun w' hS => ?_) (fun K hK => ?_); rotate_left; (focus ((try have e1 := hS.1.cell); (try have e2 := hS.2.1.cell); (try have e3 := hS.2.2.1.cell); (try have e4 := hS.2.2.2.1.cell); (try have f1 := hS.1); (try have f2 := hS.2.1); (try have f3 := hS.2.2.1); (try have f4 := hS.2.2.2.1); (try have f5 := hS.2.2.2.2.1); clear hS; go_simp; (try with_reducible rfl))); (go_simp; refine hK _ ?_; clear hK K)))
          refine wpSched_loud rfl (fun K hK => ?_)
          go_wp2
          refine hK.out _ _ (fun _ => ⟨kB4.drew, kE4.drew, trivial⟩) ?_
          clear hK K
          refine wpSched_loud rfl (fun K hK => ?_)
          go_wp2_with fail
          refine (hby.out 2 ep n.wanted _).mono ?_
          rintro e w5 ⟨rfl, hb5⟩
          go_wp2
          refine hK.out _ _ (fun _ => ⟨kB4.drew.call hb5, kE4.drew.call hb5, trivial⟩) ?_
          clear hK K
          (repeat (refine wpSched_quiet (v := ?_) rfl rfl (fun w' hS => ?_) (fun K hK => ?_); rotate_left; (focus ((try have e1 := hS.1.cell); (try have e2 := hS.2.1.cell); (try have e3 := hS.2.2.1.cell); (try have e4 := hS.2.2.2.1.cell); (try have f1 := hS.1); (try have f2 := hS.2.1); (try have f3 := hS.2.2.1); (try have f4 := hS.2.2.2.1); (try have f5 := hS.2.2.2.2.1); clear hS; go_simp; (try with_reducible rfl))); (go_simp; refine hK _ ?_; clear hK K)))
          refine wpSched_nil ?_
          have hb5w := pb_trans (pb_drew hb4w) hb5
          go_wp2
          go_ret2
          exact ⟨rfl, hb5w⟩
        · rw [if_neg (fun h => he h.2)] at hpn ⊢
          have t3 : (er == 0) = false := by simpa using he
          replace hpn : Hid (_ = _) := hpn
          replace hw : Hid (_ → _) := hw
          replace he : Hid (_ → _) := he
          go_enter Tryz.func15, Tryz.ntmps15
          go_wp2_with fail
          refine hr.out.mono ?_
          rintro e w1 ⟨rfl, hw1⟩
          obtain rfl := hw1.symm
          go_wp2_with fail
          refine (hasks.out _ hlo.out).mono ?_
          rintro e w1 ⟨rfl, hb1⟩
          have hbA : Below w.heap.size w (w1.alloc (.cells #[.int .i64 0, .int .u32 0, .int .i64 0, .slice none 0 0] 65)) := by (repeat (first | exact Below.refl _ _ | with_reducible assumption | refine pb_alloc ?_ _ | refine pb_drew ?_ | refine pb_drewN ?_ _ | refine pb_set ?_ (by simp; try omega) _ | refine pb_trans ?_ (by with_reducible assumption)))
          have cA := (hB.call hbA).cell
          go_wp2_with fail
          refine (hera.out _ ((LocalAt.loc lb n.loc (t ++ [2])).below hlo.out hbA)).mono ?_
          rintro e w2 ⟨rfl, hb2⟩
          obtain ⟨W3, hW3⟩ : ∃ W3, W3 = (w2.alloc (.cells #[.int .u32 ep, .int .i64 ve, .int .i64 st] 92)).drew := ⟨_, rfl⟩
          have hb3 : Below w.heap.size w W3 := by rw [hW3]; exact pb_drew (pb_alloc (pb_trans hbA hb2) _)
          have kE3 : Blk W3 w2.heap.size #[.int .u32 ep, .int .i64 ve, .int .i64 st] 92 := by rw [hW3]; (repeat (first | with_reducible assumption | (refine Blk.new ?_; simp; done) | refine Blk.alloc ?_ _ | refine Blk.drew ?_ | refine Blk.drewN ?_ _ | refine Blk.call ?_ (by with_reducible assumption)))
          have kB3 := hB.call hb3
          clear cA
          go_wp2_with fail
          refine wp_region_sched [(0, true), (1, true), (2, true), (3, true), (4, true), (5, true), (6, true), (7, true), (8, true), (9, true), (10, true), (11, true), (12, false), (13, true), (14, true)] none (fun w' => Blk w' B #[.pointer (some ⟨px, 0, none⟩), .int .i64 n.id, .int .i64 n.version, .slice none 0 0, .pointer (some ⟨sb, 0, none⟩), .pointer (some ⟨lb, 0, none⟩), .pointer (some ⟨pb, 0, none⟩), av, .int .i64 (n.offered : Nat), .int .i64 (n.applied : Nat), .int .i64 n.wanted, .bool n.down] 78 ∧ Blk w' w2.heap.size #[.int .u32 ep, .int .i64 ve, .int .i64 st] 92 ∧ True) (by kernel_rfl) (by kernel_rfl) (by rw [← hW3]; exact ⟨kB3, kE3, trivial⟩) ?_
          rw [← hW3]
          clear hW3
          (repeat (refine wpSched_quiet (v := ?_) rfl rfl (fun w' hS => ?_) (fun K hK => ?_); rotate_left; (focus ((try have e1 := hS.1.cell); (try have e2 := hS.2.1.cell); (try have e3 := hS.2.2.1.cell); (try have e4 := hS.2.2.2.1.cell); (try have f1 := hS.1); (try have f2 := hS.2.1); (try have f3 := hS.2.2.1); (try have f4 := hS.2.2.2.1); (try have f5 := hS.2.2.2.2.1); clear hS; go_simp; (try with_reducible rfl))); (go_simp; refine hK _ ?_; clear hK K)))
          refine wpSched_loud rfl (fun K hK => ?_)
          go_wp2_with fail
          refine (hck.out _).mono ?_
          rintro e w4 ⟨rfl, hb4⟩
          have kB4 := kB3.call hb4
          have kE4 := kE3.call hb4
          have hb4w := pb_trans hb3 hb4
          go_wp2
          refine hK.out _ _ (fun _ => ⟨kB4, kE4, trivial⟩) ?_
          clear hK K
          (repeat (refine wpSched_quiet (v := ?_) rfl rfl (fun w' hS => ?_) (fun K hK => ?_); rotate_left; (focus ((try have e1 := hS.1.cell); (try have e2 := hS.2.1.cell); (try have e3 := hS.2.2.1.cell); (try have e4 := hS.2.2.2.1.cell); (try have f1 := hS.1); (try have f2 := hS.2.1); (try have f3 := hS.2.2.1); (try have f4 := hS.2.2.2.1); (try have f5 := hS.2.2.2.2.1); clear hS; go_simp; (try with_reducible rfl))); (go_simp; refine hK _ ?_; clear hK K)))
          refine wpSched_nil ?_
          have cE := (kE4).cell
          go_wp2_with fail
          refine (hbt.out w4 hb4w).mono ?_
          rintro e w7 ⟨rfl, hb7⟩
          have hb7w := pb_trans hb4w hb7
          go_wp2
          go_ret2
          exact ⟨rfl, hb7w⟩
end Go.Proofs.YtaopeioebpfdeaaGreatDoor
