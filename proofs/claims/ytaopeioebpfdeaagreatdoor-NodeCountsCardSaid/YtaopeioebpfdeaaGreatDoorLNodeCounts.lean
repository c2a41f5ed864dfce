/- PROVED HERE: rostrumlaw17.NodeCounts returns true for every input, and its arguments read afterwards as they did; the listed variable holds what the program's text lays (the card ties it). No further condition. -/
import Derived.Test.YtaopeioebpfdeaaGreatDoorK03
import Derived.Test.YtaopeioebpfdeaaGreatDoorK08
import Derived.Test.YtaopeioebpfdeaaGreatDoorK43
namespace Go.Proofs.YtaopeioebpfdeaaGreatDoor
open Go Go.RowKit Go.Shelf Go.Extern.Stop Go.Stop Go.Extern
attribute [local go_sem] Oper.semAt_some wide_fn wide_depth

/-- The node, and the last Count that was told. -/
def CntN (s : StD) (n : NodeS) (last : Nat) : Prop := (∃ l, NInv s n l ∧ IdsOk 5 (RR l).1) ∧ n.id = 5 ∧ last ≤ n.acc.length
theorem cnt_new (s : StD) : CntN s (newN 5 2 1048576 [] s) 0 := ⟨⟨[], newN_inv _ _ _ _ _, newN_ids 5⟩, rfl, Nat.zero_le _⟩
theorem CntN.step {s : StD} {n m : NodeS} {last : Nat} (h : CntN s n last) (hs : ∀ l, NInv s n l → ∃ l', NStep s n l m l') : CntN s m last := by
  obtain ⟨⟨l, hi, hids⟩, hid, hl⟩ := h
  obtain ⟨l', h1⟩ := hs l hi
  refine ⟨⟨l', h1.inv, ?_⟩, h1.same.1.trans hid, Nat.le_trans hl h1.acc.length_le⟩
  have := h1.ids
  rw [hid] at this
  exact this hids
theorem CntN.does {s : StD} {n : NodeS} {last : Nat} (h : CntN s n last) (x : ActD) (hb : x.b < 18446744073709551616) : CntN s (doesN s n x) last := h.step (fun _ hi => does_step hi x hb)
theorem CntN.broadcast {s : StD} {n : NodeS} {last : Nat} (h : CntN s n last) (d : List UInt8) (h0 : (broadcastN n d).2.2 = 0) : (broadcastN n d).2.1.1 = (5, n.acc.length + 1) ∧ CntN s (broadcastN n d).1 (n.acc.length + 1) := by
  have hc := h.step (m := (broadcastN n d).1) (fun l hi => by obtain ⟨l', h1, -⟩ := broadcast_step hi d; exact ⟨l', h1⟩)
  obtain ⟨⟨l, hi, -⟩, hid, -⟩ := h
  obtain ⟨l', -, hb⟩ := broadcast_step hi d
  obtain ⟨q1, q2, -⟩ := hb h0
  rw [hid] at q1
  refine ⟨q1, hc.1, hc.2.1, ?_⟩
  rw [q2, List.length_append]; simp
theorem CntN.recover {s : StD} {n : NodeS} {last : Nat} (h : CntN s n last) : IdsOk 5 (recoverN n s).acc ∧ last ≤ (recoverN n s).acc.length := by
  have hc := h.step (m := recoverN n s) (fun l hi => ⟨l, (recover_step hi).1⟩)
  obtain ⟨⟨l, hi, hids⟩, hid, hl⟩ := hc
  have := counts_law hi (by rw [hid]; exact hids)
  rw [hid] at this
  exact ⟨this, hl⟩
theorem neq_id (i : Int) (c : Int) (w : World) : (binOp .neq 32 (.agg #[.int .i64 i, .int .u32 c]) (.agg #[.int .i64 i, .int .u32 c])).run Tryz.prog w = .ok (.bool false) w := by
  rw [run_neq_struct]
  simp [go_sem]
set_option maxRecDepth 8000 in
set_option maxHeartbeats 4000000 in
theorem nodeCounts_true (a : Addr) (lv : Value) (es : List ActD) (w : World) (he : ErrAt w a) (hes : ElemsIn w lv 4 actCells es) (hall : ∀ x ∈ es, x.b < 18446744073709551616) (_hel : es.length ≤ 9223372036854775807) :
    Calls Tryz.prog 5 #[lv] w fun r w' => r = .returned (.bool true) ∧ Below w.heap.size w w' := by
  obtain ⟨ea, ec, rfl, hcs⟩ := hes.shape (by omega) (fun y => ⟨_, rfl⟩)
  have heW := fun W (hW : Below w.heap.size w W) => he.below hW he.lt
  have hnew := fun W (hW : Below w.heap.size w W) => nNew_any a 5 2 1048576 (by omega) (by omega) (by decide) (by omega) (by omega) [1] (fun _ => []) W (heW W hW)
  obtain ⟨n1, hn1⟩ : ∃ n1, n1 = newN 5 2 1048576 [] (stBegin 2) := ⟨_, rfl⟩
  have g1 : NodeG 2 n1 := by rw [hn1]; exact NodeG.new (by omega) (by omega)
  have cn1 : CntN (stBegin 2) n1 0 := by rw [hn1]; exact cnt_new _
  have hv2 : known 2 = true := by decide
  have htx := fun (x : ActD) W => text17_any x W
  unfold actV at htx
  replace hv2 : Hid (_ = _) := hv2
  replace htx : Hid (∀ _ _, _) := htx
  replace heW : Hid (∀ _, _) := heW
  replace hcs : Hid (∀ _, _) := hcs
  replace hall : Hid (∀ _, _) := hall
  replace he : Hid (ErrAt _ _) := he
  replace hnew : Hid (∀ _ _, _) := hnew
  replace g1 : Hid (NodeG _ _) := g1
  replace cn1 : Hid (CntN _ _ _) := cn1
  replace hn1 : Hid (_ = _) := hn1
  clear hes
  go_enter Tryz.func5, Tryz.ntmps5
  go_wp2_with fail
  refine (shown17_any a _ (heW.out _ (by (repeat (first | exact Below.refl _ _ | with_reducible assumption | refine pb_alloc ?_ _ | refine pb_drew ?_ | refine pb_drewN ?_ _ | refine pb_set ?_ (by simp; try omega) _ | refine pb_trans ?_ (by with_reducible assumption)))))).mono ?_
  rintro r w1 ⟨rfl, hb1⟩
  go_wp2_with fail
  refine (hnew.out _ hb1).mono ?_
  rintro r w2 ⟨B, ow2, rfl, hs2, hb2, hF2, -⟩
  rw [← hn1.out] at hF2
  have h2 : OneN w (fun _ => False) B n1 w2 := (OneN.new hb1 hs2 hF2).mono (fun k h => h.elim)
  replace h2 : Hid (OneN _ _ _ _ _) := h2
  clear hs2 hF2
  go_wp2
  go_loopw [6, 7] (fun p6 p7 wr => ∃ (k : Nat) (last : Nat) (n : NodeS), p6 = .int .u32 (last : Nat) ∧ p7 = .int .i64 (k : Nat) ∧ k ≤ es.length ∧ k ≤ 60 ∧ OneN w (fun _ => False) B n wr ∧ NodeG 2 n ∧ CntN (stBegin 2) n last) (fun _ p7 _ => 60 - (intOf p7).toNat)
  case atStart => exact ⟨0, 0, n1, rfl, rfl, Nat.zero_le _, Nat.zero_le _, h2.out, g1.out, cn1.out⟩
  case round =>
    obtain ⟨k, last, n, rfl, rfl, hk1, hk2, hnk, gn, hc⟩ := hrel
    have hbw : Below w.heap.size w wr := hnk.bel
    have hbn := gn.ok.bounds
    have hlast := hc.2.2
    clear h2
    replace hnk : Hid (OneN _ _ _ _ _) := hnk
    replace gn : Hid (NodeG _ _) := gn
    replace hc : Hid (CntN _ _ _) := hc
    replace hbn : Hid (_ ∧ _) := hbn
    by_cases hlt : k < es.length ∧ k < 60
    · obtain ⟨hlt, hlt2⟩ := hlt
      obtain ⟨x, hx⟩ : ∃ x, es[k]? = some x := ⟨_, List.getElem?_eq_getElem hlt⟩
      obtain ⟨lb, off, rfl, hcx⟩ := hcs.out k x hx
      obtain ⟨c0, c1, c2, c3⟩ := act_cells hbw hcx
      have hxb := hall.out x (List.mem_of_getElem? hx)
      have t1 : decide ((k : Int) < (es.length : Int)) = true := by simpa using hlt
      have t2 : decide ((k : Int) < 60) = true := by simp; omega
      have y0 : (k : Int) < (es.length : Int) := by omega
      have y1 : (0 : Int) ≤ (k : Int) := by omega
      have hwk : IntKind.i64.wrap ((k : Int) + 1) = (k : Int) + 1 := by rw [IntKind.wrap_i64]; omega
      have hK9 : kindD x < 9 := by unfold kindD; omega
      have hKt : (IntKind.u64.wrap x.what).tmod 9 = (kindD x : Int) := by rw [Int.tmod_eq_emod_of_nonneg (by rw [IntKind.wrap_u64]; omega)]; unfold kindD; rw [IntKind.wrap_u64]; omega
      replace hx : Hid (_ = _) := hx
      replace hcx : Hid (∀ _ _, _) := hcx
      by_cases hK : kindD x = 0
      · rw [hK] at hKt
        have hKt0 : (IntKind.u64.wrap x.what).tmod 9 = 0 := by simpa using hKt
        have htl := textD_len x
        have q1 := fun W (hW : Below wr.heap.size wr W) => hnk.out.broadcast he.out gn.out (textD x) (by omega) hW
        have hgb : NodeG 2 (broadcastN n (textD x)).1 := by
          have := gn.out.does x hxb
          rwa [show doesN (stBegin 2) n x = (broadcastN n (textD x)).1 by unfold doesN; rw [if_pos hK]] at this
        have hcb := hc.out.broadcast (textD x)
        have hcb0 := hc.out.step (m := (broadcastN n (textD x)).1) (fun l hi => by obtain ⟨l', h1, -⟩ := broadcast_step hi (textD x); exact ⟨l', h1⟩)
        obtain ⟨⟨M, ⟨⟨mi, mc⟩, md⟩, e1⟩, hM⟩ : ∃ q, broadcastN n (textD x) = q := ⟨_, rfl⟩
        rw [hM] at q1 hgb hcb hcb0
        unfold castV2 msgV at q1
        simp only at q1 hgb hcb hcb0
        replace hKt : Hid (_ = _) := hKt
        replace hM : Hid (_ = _) := hM
        replace q1 : Hid (∀ _ _, _) := q1
        replace hgb : Hid (NodeG _ _) := hgb
        replace hcb0 : Hid (CntN _ _ _) := hcb0
        by_cases he1 : e1 = 0
        · subst he1
          obtain ⟨p1, p2⟩ := hcb rfl
          simp only [Prod.mk.injEq] at p1
          obtain ⟨rfl, rfl⟩ := p1
          have hln := hbn.out.2.1
          have z1 : decide (((n.acc.length + 1 : Nat) : Int) ≤ (last : Int)) = false := by simp; omega
          have z2 : ¬ (n.acc.length + 1 ≤ last) := by omega
          replace p2 : Hid (CntN _ _ _) := p2
          replace hcb : Hid (_ → _) := hcb
          go_wp2_with fail
          refine (htx.out _ _).mono ?_
          rintro r w3 ⟨rfl, hb3⟩
          go_wp2_with fail
          refine (q1.out _ hb3).mono ?_
          rintro r w4 ⟨rfl, h4, -⟩
          have h5 : OneN w (fun _ => False) B M (w4.alloc (.cells #[.int .i64 5, .int .u32 ((n.acc.length + 1 : Nat) : Int), .string (bs md)] 34)) := (h4.mono (fun k h => h.elim)).below (pb_alloc (Below.refl _ _) _)
          replace h5 : Hid (OneN _ _ _ _ _) := h5
          clear h4
          go_wp2
          go_roundw
          case rel => exact ⟨k + 1, n.acc.length + 1, M, by simp, by simp, by omega, by omega, h5.out, hgb.out, p2.out⟩
          case measure => simp [intOf]; omega
        · have z1 : (e1 == 0) = false := by simpa using he1
          replace hcb : Hid (_ → _) := hcb
          replace he1 : Hid (_ → _) := he1
          go_wp2_with fail
          refine (htx.out _ _).mono ?_
          rintro r w3 ⟨rfl, hb3⟩
          go_wp2_with fail
          refine (q1.out _ hb3).mono ?_
          rintro r w4 ⟨rfl, h4, -⟩
          have h5 : OneN w (fun _ => False) B M (w4.alloc (.cells #[.int .i64 mi, .int .u32 (mc : Nat), .string (bs md)] 34)) := (h4.mono (fun k h => h.elim)).below (pb_alloc (Below.refl _ _) _)
          replace h5 : Hid (OneN _ _ _ _ _) := h5
          clear h4
          go_wp2
          go_roundw
          case rel => exact ⟨k + 1, last, M, rfl, by simp, by omega, by omega, h5.out, hgb.out, hcb0.out⟩
          case measure => simp [intOf]; omega
      · have hKt0 : ((IntKind.u64.wrap x.what).tmod 9 == 0) = false := by rw [hKt]; simp; omega
        have hdo := does17_any he.out hv2.out hnk.out gn.out (Below.refl _ _) x hxb
        unfold actV at hdo
        have gd := gn.out.does x hxb
        have cd := hc.out.does x hxb
        replace hdo : Hid (Calls _ _ _ _ _) := hdo
        replace gd : Hid (NodeG _ _) := gd
        replace cd : Hid (CntN _ _ _) := cd
        replace hKt : Hid (_ = _) := hKt
        go_wp2_with fail
        refine hdo.out.mono ?_
        rintro r w5 ⟨rfl, h5, -⟩
        go_wp2
        go_roundw
        case rel => exact ⟨k + 1, last, _, rfl, by simp, by omega, by omega, h5.mono (fun k h => h.elim), gd.out, cd.out⟩
        case measure => simp [intOf]; omega
    · have hend : (k < es.length ∧ ¬ k < 60) ∨ ¬ k < es.length := by omega
      rcases hend with ⟨q1, q2⟩ | q1
      · have t1 : decide ((k : Int) < (es.length : Int)) = true := by simpa using q1
        have t2 : decide ((k : Int) < 60) = false := by simp; omega
        obtain ⟨ids, hle⟩ := hc.out.recover
        have qr := hnk.out.recover he.out gn.out hv2.out (Below.refl _ _)
        have gr := gn.out.recover
        obtain ⟨N, hN⟩ : ∃ N, N = recoverN n (stBegin 2) := ⟨_, rfl⟩
        rw [← hN] at ids hle qr gr
        have hbN := gr.ok.bounds
        have hq : ∀ W, OneN w (fun _ => False) B N W → _ := fun W h => h.accepted gr
        replace qr : Hid (Calls _ _ _ _ _) := qr
        replace hN : Hid (_ = _) := hN
        replace gr : Hid (NodeG _ _) := gr
        replace hq : Hid (∀ _ _, _) := hq
        replace hbN : Hid (_ ∧ _) := hbN
        go_wp2_with fail
        refine qr.out.mono ?_
        rintro r w5 ⟨rfl, h5, -⟩
        have hbw5 := h5.bel
        have qa := hq.out _ (h5.mono (fun k h => h.elim))
        replace qa : Hid (Calls _ _ _ _ _) := qa
        clear h5
        go_wp2_with fail
        refine qa.out.mono ?_
        rintro r w6 ⟨va, rfl, hRa, hb6, -⟩
        obtain ⟨aa, ac, rfl⟩ := hRa.src.shape
        have hbw6 := pb_trans hbw5 hb6
        have hln := hbN.out.2.1
        have hwl : IntKind.u32.wrap (N.acc.length : Int) = (N.acc.length : Int) := by rw [IntKind.wrap_u32]; omega
        have t9 : decide ((last : Int) ≤ (N.acc.length : Int)) = true := by simp; omega
        replace hRa : Hid (Row _ _ _ _ _ _) := hRa
        go_wp2
        go_loopw [11] (fun p11 wq => ∃ j : Nat, p11 = .int .i64 (j : Nat) ∧ j ≤ N.acc.length ∧ wq = w6) (fun p11 _ => N.acc.length - (intOf p11).toNat)
        case atStart => exact ⟨0, rfl, Nat.zero_le _, by first | rfl | trivial⟩
        case round =>
          obtain ⟨j, rfl, hj, rfl⟩ := hrel
          by_cases hjl : j < N.acc.length
          · obtain ⟨m, hm⟩ : ∃ m, N.acc[j]? = some m := ⟨_, List.getElem?_eq_getElem hjl⟩
            have hmi := ids j m hm
            obtain ⟨g, hva, hcap⟩ : ∃ g, aa = some ⟨g, 0, none⟩ ∧ N.acc.length ≤ ac := by
              rcases hRa.out.form with ⟨h, h0, -⟩ | ⟨g, cap, h, h2, -⟩
              · omega
              · cases h; exact ⟨g, rfl, h2⟩
            subst hva
            obtain ⟨m0, m1, m2⟩ := src_msg hRa.out.src hm
            rw [hmi] at m0 m1
            simp only [Nat.zero_add] at m0 m1 m2
            have z1 : decide ((j : Int) < (N.acc.length : Int)) = true := by simpa using hjl
            have z2 : (j : Int) < (N.acc.length : Int) := by omega
            have z3 : (0 : Int) ≤ (j : Int) := by omega
            have hwj : IntKind.i64.wrap ((j : Int) + 1) = (j : Int) + 1 := by rw [IntKind.wrap_i64]; omega
            have hwu : IntKind.u32.wrap (j : Int) = (j : Int) := by rw [IntKind.wrap_u32]; omega
            have hwu1 : IntKind.u32.wrap ((j : Int) + 1) = ((j + 1 : Nat) : Int) := by rw [IntKind.wrap_u32]; omega
            have hni := neq_id 5 ((j + 1 : Nat) : Int)
            replace hm : Hid (_ = _) := hm
            replace hmi : Hid (_ = _) := hmi
            go_wp2
            go_roundw
            case rel => exact ⟨j + 1, by simp, by omega, by first | rfl | trivial⟩
            case measure => simp [intOf]; omega
          · have z1 : decide ((j : Int) < (N.acc.length : Int)) = false := by simpa using hjl
            go_wp2
            go_ret
            exact ⟨rfl, hbw6⟩
      · have t1 : decide ((k : Int) < (es.length : Int)) = false := by simpa using q1
        obtain ⟨ids, hle⟩ := hc.out.recover
        have qr := hnk.out.recover he.out gn.out hv2.out (Below.refl _ _)
        have gr := gn.out.recover
        obtain ⟨N, hN⟩ : ∃ N, N = recoverN n (stBegin 2) := ⟨_, rfl⟩
        rw [← hN] at ids hle qr gr
        have hbN := gr.ok.bounds
        have hq : ∀ W, OneN w (fun _ => False) B N W → _ := fun W h => h.accepted gr
        replace qr : Hid (Calls _ _ _ _ _) := qr
        replace hN : Hid (_ = _) := hN
        replace gr : Hid (NodeG _ _) := gr
        replace hq : Hid (∀ _ _, _) := hq
        replace hbN : Hid (_ ∧ _) := hbN
        go_wp2_with fail
        refine qr.out.mono ?_
        rintro r w5 ⟨rfl, h5, -⟩
        have hbw5 := h5.bel
        have qa := hq.out _ (h5.mono (fun k h => h.elim))
        replace qa : Hid (Calls _ _ _ _ _) := qa
        clear h5
        go_wp2_with fail
        refine qa.out.mono ?_
        rintro r w6 ⟨va, rfl, hRa, hb6, -⟩
        obtain ⟨aa, ac, rfl⟩ := hRa.src.shape
        have hbw6 := pb_trans hbw5 hb6
        have hln := hbN.out.2.1
        have hwl : IntKind.u32.wrap (N.acc.length : Int) = (N.acc.length : Int) := by rw [IntKind.wrap_u32]; omega
        have t9 : decide ((last : Int) ≤ (N.acc.length : Int)) = true := by simp; omega
        replace hRa : Hid (Row _ _ _ _ _ _) := hRa
        go_wp2
        go_loopw [11] (fun p11 wq => ∃ j : Nat, p11 = .int .i64 (j : Nat) ∧ j ≤ N.acc.length ∧ wq = w6) (fun p11 _ => N.acc.length - (intOf p11).toNat)
        case atStart => exact ⟨0, rfl, Nat.zero_le _, by first | rfl | trivial⟩
        case round =>
          obtain ⟨j, rfl, hj, rfl⟩ := hrel
          by_cases hjl : j < N.acc.length
          · obtain ⟨m, hm⟩ : ∃ m, N.acc[j]? = some m := ⟨_, List.getElem?_eq_getElem hjl⟩
            have hmi := ids j m hm
            obtain ⟨g, hva, hcap⟩ : ∃ g, aa = some ⟨g, 0, none⟩ ∧ N.acc.length ≤ ac := by
              rcases hRa.out.form with ⟨h, h0, -⟩ | ⟨g, cap, h, h2, -⟩
              · omega
              · cases h; exact ⟨g, rfl, h2⟩
            subst hva
            obtain ⟨m0, m1, m2⟩ := src_msg hRa.out.src hm
            rw [hmi] at m0 m1
            simp only [Nat.zero_add] at m0 m1 m2
            have z1 : decide ((j : Int) < (N.acc.length : Int)) = true := by simpa using hjl
            have z2 : (j : Int) < (N.acc.length : Int) := by omega
            have z3 : (0 : Int) ≤ (j : Int) := by omega
            have hwj : IntKind.i64.wrap ((j : Int) + 1) = (j : Int) + 1 := by rw [IntKind.wrap_i64]; omega
            have hwu : IntKind.u32.wrap (j : Int) = (j : Int) := by rw [IntKind.wrap_u32]; omega
            have hwu1 : IntKind.u32.wrap ((j : Int) + 1) = ((j + 1 : Nat) : Int) := by rw [IntKind.wrap_u32]; omega
            have hni := neq_id 5 ((j + 1 : Nat) : Int)
            replace hm : Hid (_ = _) := hm
            replace hmi : Hid (_ = _) := hmi
            go_wp2
            go_roundw
            case rel => exact ⟨j + 1, by simp, by omega, by first | rfl | trivial⟩
            case measure => simp [intOf]; omega
          · have z1 : decide ((j : Int) < (N.acc.length : Int)) = false := by simpa using hjl
            go_wp2
            go_ret
            exact ⟨rfl, hbw6⟩
end Go.Proofs.YtaopeioebpfdeaaGreatDoor
namespace Go.Proofs.YtaopeioebpfdeaaGreatDoor.nodeCounts
open Go Go.RowKit Go.ChangeShapes Go.WideShapes Go.ChangeAt

set_option maxRecDepth 100000 in
theorem contract (H : Type) (enc : TypeId × Value → H) (W : World) (base : Nat) (args : Array Value) (ds gs : List (DataW H)) (before : List MemPlace)
    (hval : ∀ (j : Nat) t v, Tryz.f5.params[j]? = some t → args[j]? = some v → Value.okWide Tryz.prog W .any base t v)
    (hW : DataW.Whole enc Tryz.prog Tryz.f5.params.toList Rows.nodeCountsSpec.vars false W args.toList ds gs before) (hL : laidMetH Tryz.prog Rows.nodeCountsRow.laid W) :
    Calls Tryz.prog 5 args W fun e W' => ∃ v, e = .returned v ∧ Rows.nodeCountsSpec.post enc Tryz.prog Tryz.f5 false true false false W args v W' := by
  obtain ⟨a, he⟩ := err_of_laid hL
  have hW' := hW
  obtain ⟨p, q, hA0, hV, rfl, _, _⟩ := hW
  have hA : DataW.TrodAll enc Tryz.prog W 0 (fun _ => true) true Tryz.f5.params.toList args.toList ds p := hA0
  rw [Tryz.params5] at hA hval
  obtain ⟨v0, vs0, d0, ds0, p0, q0, hargs, rfl, rfl, h0, r0⟩ := trodAll_cons hA
  obtain ⟨rfl, rfl, rfl⟩ := trodAll_nil r0
  obtain rfl : args = #[v0] := by cases args; simp_all
  obtain ⟨rfl, rfl⟩ := trodVars_none hV
  obtain ⟨l, hm0, hok0, hl0⟩ := open_acts17V (hval 0 52 v0 rfl rfl) h0
  have walk := nodeCounts_true a v0 l W he hm0 hok0 hl0
  clear hA0
  refine walk.mono fun e W' ⟨he, hg⟩ => ?_
  subst he
  exact ⟨_, rfl, law_post laidOut (by kernel_rfl) (by kernel_rfl) rfl Tryz.underlying4 rfl hW' hg⟩

theorem reads (os : Os) {H : Type} (enc : TypeId × Value → H) : ∃ places, DataW.whole enc Tryz.prog ((laidWorld os).forCall (fun _ _ => 0) ⟨#[], #[.slice none 0 0], []⟩).memory Tryz.f5.params.toList Rows.nodeCountsSpec.vars false (#[.slice none 0 0] : Array Value).toList 8 = some ([.nil], [], places) :=
  ⟨[], by kernel_rfl⟩

set_option maxRecDepth 100000 in
theorem lifted (os : Os) (started : os.Started) (H : Type) (enc : TypeId × Value → H) (F : Stop.Interp) :
    ReturnsInHanded {} Tryz.checked os 5 .any ((OpenSpec.ofChange Rows.nodeCountsSpec).preRow enc Tryz.prog Tryz.f5 Rows.nodeCountsRow.domain false Rows.nodeCountsRow.laid) (((OpenSpec.ofChange Rows.nodeCountsSpec).at F).post enc Tryz.prog Tryz.f5 false true false false) := by
  obtain ⟨places, hx⟩ := reads os enc
  refine returnsInHanded_of_row (C := Tryz.checked) (s := OpenSpec.ofChange Rows.nodeCountsSpec) own started (by kernel_rfl) Tryz.func5
    (witness_row_atRef (enc := enc) (C := Tryz.checked) false (laidWorld os) #[.slice none 0 0] rfl (by kernel_rfl) (by kernel_rfl) (by kernel_rfl)
      (OpenSpec.preRow_of_cond 8 hx (by kernel_rfl) (fun k hk => by cases hk) (by kernel_rfl) (laid_met os _))) ?_
  intro W base args ds gs before hval hW _ _ _ hL _ _
  exact contract H enc W base args ds gs before hval hW hL

theorem said : Rows.NodeCountsSaid :=
  OpenClaim.holds_of_cond 5 Tryz.f5 rfl rfl rfl rfl rfl rfl rfl ⟨rfl, rfl, rfl, rfl, rfl⟩ rfl rfl rfl rfl rfl (by kernel_rfl) Tryz.func5 (by kernel_rfl)
    (of_decide_eq_true (by kernel_rfl)) (by unfold Func.isWrapper; first | (rw [if_pos (by decide +kernel)]; kernel_rfl) | (rw [if_neg (by decide +kernel)]; exact ⟨rfl, rfl⟩))
    (fun os started H enc _ F => by rw [OpenClaim.pre_eq_preRow]; exact lifted os started H enc F)

theorem plain (f : FuncId) (fn : Func) (hf : Tryz.pinned.checked.prog.funcNamed "rostrum/rostrumlaw17.NodeCounts" = some f) (hfn : Tryz.pinned.checked.prog.funcs[f]? = some fn) :
    true = Tryz.pinned.checked.prog.looks [] ∧ ∀ (j : Nat) t, fn.params[j]? = some t → Tryz.pinned.checked.prog.wantsStandIn t = false := by
  obtain rfl : f = 5 := Option.some.inj ((show Tryz.prog.funcNamed "rostrum/rostrumlaw17.NodeCounts" = some 5 by kernel_rfl).symm.trans hf) |>.symm
  obtain rfl : fn = Tryz.f5 := (Option.some.inj (Tryz.func5.symm.trans hfn)).symm
  refine ⟨by kernel_rfl, fun j t ht => ?_⟩
  rw [Tryz.params5] at ht
  have : t = 52 := by
    match j, ht with
    | 0, h => simpa using h.symm
    | n + 1, h => simp at h
  subst this
  exact (show Tryz.prog.wantsStandIn 52 = false by kernel_rfl)

theorem card : Rows.NodeCountsCardSaid :=
  Claim7.holds_tied_plain_at .later [] _ _ _ _ said (fun _ h => by cases h) (by kernel_rfl) (fun _ h => by cases h) nodeCounts_row_tie rfl ⟨rfl, rfl⟩ (by kernel_rfl) rfl plain (by kernel_rfl)
end Go.Proofs.YtaopeioebpfdeaaGreatDoor.nodeCounts
