/- PROVED HERE: WALKS: node's offer, learned. Condition: the node is one that calls have made, with no bad versions. WALKS: node's learned, ahead, begin. Condition: the node is one that calls have made, with no bad versions. WALKS: node's begin, New. Condition: the version is known; the registry's error variable holds its error. WALKS: node's Promise, Cast, Want. Condition: the node is one that calls have made, with no bad versions. -/
import Derived.Test.YtaopeioebpfdeaaGreatDoorK32
namespace Go.Proofs.YtaopeioebpfdeaaGreatDoor
open Go Go.RowKit Go.Shelf Go.Extern.Stop Go.Stop Go.Extern
attribute [local go_sem] Oper.semAt_some wide_fn wide_depth

set_option maxRecDepth 8000 in
set_option maxHeartbeats 1000000 in
theorem nOffer_any (B : Nat) (n : NodeS) (t : List Nat) (ow : Own) (w : World) (h : NodeAt B n t ow w) (hl : n.acc.length ≤ 536870912) :
    Calls Tryz.prog 36 #[.pointer (some ⟨B, 0, none⟩)] w (NodePost B (offerN (n.acc.length + 1) n) t ow w (.tuple #[])) := by
  go_enter Tryz.func36, Tryz.ntmps36
  go_wp2
  go_loopw [2] (fun _ wr => ∃ (k : Nat) (m : NodeS) (ow' : Own), NodeAt B m t ow' wr ∧ Step t ow w ow' wr ∧ m.acc = n.acc ∧ offerN (n.acc.length + 1) n = offerN k m ∧ n.acc.length < k + m.offered) (fun _ wr => n.acc.length - (intOf (ptrCell (.pointer (some ⟨B, 0, none⟩)) 8 wr)).toNat)
  case atStart => exact ⟨_, n, ow, h, Step.refl _ _ _, rfl, rfl, by omega⟩
  case round =>
    obtain ⟨k, m, ow', ⟨px, sb, lb, pb, av, hN⟩, hst, hacc, hof, hk⟩ := hrel
    have hB := hN.blk
    have hmea : ptrCell (.pointer (some ⟨B, 0, none⟩)) 8 wr = .int .i64 (m.offered : Nat) := by show (wr.cell? ⟨B, 8, none⟩).getD undef = _; rw [hB.cell 8]; rfl
    have hrow := hN.row
    unfold nodeCells at hB
    obtain ⟨va, vc, hav⟩ := hrow.src.shape
    subst hav
    by_cases hlt : m.offered < m.acc.length
    · obtain ⟨x, hx⟩ : ∃ x, m.acc[m.offered]? = some x := ⟨_, List.getElem?_eq_getElem hlt⟩
      obtain ⟨k', rfl⟩ : ∃ k', k = k' + 1 := ⟨k - 1, by rw [hacc] at hlt; omega⟩
      have hoN : offerN (k' + 1) m = if (addP m.pool x).2 = 0 then offerN k' { m with pool := (addP m.pool x).1, offered := m.offered + 1 } else { m with pool := (addP m.pool x).1 } := by
        rw [offerN, hx]
      obtain ⟨g, hva⟩ : ∃ g, va = some ⟨g, 0, none⟩ := by
        rcases hrow.form with ⟨h, h0, -⟩ | ⟨g, cap, h, -⟩
        · omega
        · cases h; exact ⟨g, rfl⟩
      subst hva
      have hadd := fun W hW => plAdd_any pb m.pool (t ++ [3]) ow' x W hW
      obtain ⟨c0, c1, c2⟩ := src_msg hrow.src hx
      have t1 : decide ((m.offered : Int) < (m.acc.length : Int)) = true := by simpa using hlt
      have y0 : (m.offered : Int) < (m.acc.length : Int) := by omega
      have y1 : (0 : Int) ≤ (m.offered : Int) := by omega
      obtain ⟨⟨p', er⟩, hap⟩ : ∃ q, addP m.pool x = q := ⟨_, rfl⟩
      rw [hap] at hadd hoN
      obtain ⟨⟨xi, xc⟩, xd⟩ := x
      unfold msgV at hadd
      simp only at hadd c0 c1 c2 hoN
      simp only [Nat.zero_add] at c0 c1 c2
      replace hadd : Hid (∀ _, _) := hadd
      replace hx : Hid (_ = _) := hx
      replace hap : Hid (_ = _) := hap
      replace hoN : Hid (_ = _) := hoN
      replace hof : Hid (_ = _) := hof
      replace hmea : Hid (_ = _) := hmea
      replace hacc : Hid (_ = _) := hacc
      replace hrow : Hid (Row _ _ _ _ _ _) := hrow
      go_wp2_with fail
      refine wp_region_sched [(0, true), (1, true), (2, true), (3, true), (4, true), (5, true), (6, true), (7, true), (8, true), (9, true), (10, true), (11, true), (12, true), (13, true), (14, true), (15, true), (16, true), (17, true), (18, true), (19, true), (20, true), (21, true), (22, true), (23, true), (24, true), (25, false), (26, true), (27, true)] none (fun w' => Blk w' B #[.pointer (some ⟨px, 0, none⟩), .int .i64 m.id, .int .i64 m.version, .slice none 0 0, .pointer (some ⟨sb, 0, none⟩), .pointer (some ⟨lb, 0, none⟩), .pointer (some ⟨pb, 0, none⟩), .slice (some ⟨g, 0, none⟩) m.acc.length vc, .int .i64 (m.offered : Nat), .int .i64 (m.applied : Nat), .int .i64 m.wanted, .bool m.down] 78 ∧ w'.cell? ⟨g, m.offered * 3, none⟩ = some (.int .i64 xi) ∧ w'.cell? ⟨g, m.offered * 3 + 1, none⟩ = some (.int .u32 xc) ∧ w'.cell? ⟨g, m.offered * 3 + 2, none⟩ = some (.string (bs xd)) ∧ True) (by kernel_rfl) (by kernel_rfl) ⟨hB.drew, c0, c1, c2, trivial⟩ ?_
      (repeat (refine wpSched_quiet (v := ?_) rfl rfl (fun w' hS => ?_) (fun K hK => ?_); rotate_left; (focus ((try have e1 := hS.1.cell); (try have e2 := hS.2.1.cell); (try have e3 := hS.2.2.1.cell); (try have e4 := hS.2.2.2.1.cell); (try have f1 := hS.1); (try have f2 := hS.2.1); (try have f3 := hS.2.2.1); (try have f4 := hS.2.2.2.1); (try have f5 := hS.2.2.2.2.1); clear hS; go_simp; (try with_reducible rfl))); (go_simp; refine hK _ ?_; clear hK K)))
      refine wpSched_loud rfl (fun K hK => ?_)
      go_wp2_with fail
      refine (hadd.out _ ((PoolAt.loc pb m.pool (t ++ [3])).below hN.pool (pb_drew (Below.refl _ _)))).mono ?_
      rintro e w2 ⟨rfl, ow2, hs2, h2⟩
      have hND := (NodeIs.loc B px sb lb pb _ m t).below hN (pb_drew (Below.refl wr.heap.size wr))
      have kB2 := hND.blkS hs2
      unfold nodeCells at kB2
      have hN2 := hND.setPool p' hs2 h2
      obtain ⟨c20, c21, c22⟩ := src_msg hN2.row.src hx.out
      simp only [Nat.zero_add] at c20 c21 c22
      go_wp2
      refine hK.out _ _ (fun _ => ⟨kB2, c20, c21, c22, trivial⟩) ?_
      clear hK K c0 c1 c2 c20 c21 c22
      by_cases he : er = 0
      · have hoN' := hoN.out
        rw [if_pos he] at hoN'
        have t2 : (er == 0) = true := by simp [he]
        replace he : Hid (_ = _) := he
        replace hoN' : Hid (_ = _) := hoN'
        (repeat (refine wpSched_quiet (v := ?_) rfl rfl (fun w' hS => ?_) (fun K hK => ?_); rotate_left; (focus ((try have e1 := hS.1.cell); (try have e2 := hS.2.1.cell); (try have e3 := hS.2.2.1.cell); (try have e4 := hS.2.2.2.1.cell); (try have f1 := hS.1); (try have f2 := hS.2.1); (try have f3 := hS.2.2.1); (try have f4 := hS.2.2.2.1); (try have f5 := hS.2.2.2.2.1); clear hS; go_simp; (try with_reducible rfl))); (go_simp; refine hK _ ?_; clear hK K)))
        refine wpSched_nil ?_
        have cB2 := kB2.cell
        have fB2 := kB2.frozen
        have lB2 := kB2.lt
        have hwo : IntKind.i64.wrap ((m.offered : Int) + 1) = (m.offered : Int) + 1 := by
          have h1 := hacc.out
          have h2 : m.acc.length ≤ 536870912 := by rw [h1]; exact hl
          rw [IntKind.wrap_i64]; omega
        go_wp2
        go_roundw
        case rel =>
          have hwo2 : (m.offered : Int) + 1 = ((m.offered + 1 : Nat) : Int) := by omega
          rw [hwo2]
          have hq := hN2.setOwn (W' := w2.setCell ⟨B, 8, none⟩ (.int .i64 ((m.offered + 1 : Nat) : Int))) { m with pool := p', offered := m.offered + 1 } ((Mod.refl (fun k => k = B) w2).thenSet (p := ⟨B, 8, none⟩) rfl _) (kB2.set (o := 8) _) rfl rfl rfl rfl rfl rfl
          exact ⟨k', { m with pool := p', offered := m.offered + 1 }, ow2, ⟨_, _, _, _, _, hq.2⟩, hst.trans ((Step.drew t ow' wr).trans ((hs2.mono (Sub.child t 3)).trans hq.1)), hacc.out, hof.out.trans hoN'.out, by show n.acc.length < k' + (m.offered + 1); omega⟩
        case measure =>
          have hwo2 : (m.offered : Int) + 1 = ((m.offered + 1 : Nat) : Int) := by omega
          rw [hmea.out]
          have hm2 : ptrCell (.pointer (some ⟨B, 0, none⟩)) 8 (w2.setCell ⟨B, 8, none⟩ (.int .i64 ((m.offered + 1 : Nat) : Int))) = .int .i64 ((m.offered + 1 : Nat) : Int) := by
            show ((w2.setCell ⟨B, 8, none⟩ _).cell? ⟨B, 8, none⟩).getD undef = _
            rw [(kB2.set (o := 8) _).cell 8]; rfl
          rw [hwo2, hm2]
          simp only [intOf, Int.toNat_natCast]
          have := hacc.out
          rw [this] at hlt
          omega
      · have hoN' := hoN.out
        rw [if_neg he] at hoN'
        have t2 : (er == 0) = false := by simp [he]
        replace he : Hid (_ → _) := he
        replace hoN' : Hid (_ = _) := hoN'
        (repeat (refine wpSched_quiet (v := ?_) rfl rfl (fun w' hS => ?_) (fun K hK => ?_); rotate_left; (focus ((try have e1 := hS.1.cell); (try have e2 := hS.2.1.cell); (try have e3 := hS.2.2.1.cell); (try have e4 := hS.2.2.2.1.cell); (try have f1 := hS.1); (try have f2 := hS.2.1); (try have f3 := hS.2.2.1); (try have f4 := hS.2.2.2.1); (try have f5 := hS.2.2.2.2.1); clear hS; go_simp; (try with_reducible rfl))); (go_simp; refine hK _ ?_; clear hK K)))
        refine wpSched_nil ?_
        go_wp2
        go_end0
        rw [hof.out, hoN'.out]
        exact ⟨rfl, ow2, hst.trans ((Step.drew t ow' wr).trans (hs2.mono (Sub.child t 3))), _, _, _, _, _, hN2⟩
    · have hR : offerN k m = m := by
        cases k with
        | zero => rfl
        | succ k => rw [offerN, List.getElem?_eq_none (by omega)]
      have t1 : decide ((m.offered : Int) < (m.acc.length : Int)) = false := by simp; omega
      replace hrow : Hid (Row _ _ _ _ _ _) := hrow
      replace hof : Hid (_ = _) := hof
      replace hmea : Hid (_ = _) := hmea
      replace hacc : Hid (_ = _) := hacc
      replace hR : Hid (_ = _) := hR
      go_wp2_with fail
      refine wp_region_sched [(0, true), (1, true), (2, true), (3, true), (4, true), (5, true), (6, true), (7, true), (8, true), (9, true), (10, true), (11, true), (12, true), (13, true), (14, true), (15, true), (16, true), (17, true), (18, true), (19, true), (20, true), (21, true), (22, true), (23, true), (24, true), (25, false), (26, true), (27, true)] none (fun w' => Blk w' B #[.pointer (some ⟨px, 0, none⟩), .int .i64 m.id, .int .i64 m.version, .slice none 0 0, .pointer (some ⟨sb, 0, none⟩), .pointer (some ⟨lb, 0, none⟩), .pointer (some ⟨pb, 0, none⟩), .slice va m.acc.length vc, .int .i64 (m.offered : Nat), .int .i64 (m.applied : Nat), .int .i64 m.wanted, .bool m.down] 78 ∧ True) (by kernel_rfl) (by kernel_rfl) ⟨hB.drew, trivial⟩ ?_
      (repeat (refine wpSched_quiet (v := ?_) rfl rfl (fun w' hS => ?_) (fun K hK => ?_); rotate_left; (focus ((try have e1 := hS.1.cell); (try have e2 := hS.2.1.cell); (try have e3 := hS.2.2.1.cell); (try have e4 := hS.2.2.2.1.cell); (try have f1 := hS.1); (try have f2 := hS.2.1); (try have f3 := hS.2.2.1); (try have f4 := hS.2.2.2.1); (try have f5 := hS.2.2.2.2.1); clear hS; go_simp; (try with_reducible rfl))); (go_simp; refine hK _ ?_; clear hK K)))
      (repeat (refine wpSched_unwanted rfl rfl (fun K hK => ?_); go_simp; refine hK _ ?_; clear hK K))
      refine wpSched_loud rfl (fun K hK => ?_)
      go_wp2
      refine hK.out _ _ (fun _ => ⟨hB.drew, trivial⟩) ?_
      clear hK K
      (repeat (refine wpSched_quiet (v := ?_) rfl rfl (fun w' hS => ?_) (fun K hK => ?_); rotate_left; (focus ((try have e1 := hS.1.cell); (try have e2 := hS.2.1.cell); (try have e3 := hS.2.2.1.cell); (try have e4 := hS.2.2.2.1.cell); (try have f1 := hS.1); (try have f2 := hS.2.1); (try have f3 := hS.2.2.1); (try have f4 := hS.2.2.2.1); (try have f5 := hS.2.2.2.2.1); clear hS; go_simp; (try with_reducible rfl))); (go_simp; refine hK _ ?_; clear hK K)))
      (repeat (refine wpSched_unwanted rfl rfl (fun K hK => ?_); go_simp; refine hK _ ?_; clear hK K))
      (repeat (refine wpSched_quiet (v := ?_) rfl rfl (fun w' hS => ?_) (fun K hK => ?_); rotate_left; (focus ((try have e1 := hS.1.cell); (try have e2 := hS.2.1.cell); (try have e3 := hS.2.2.1.cell); (try have e4 := hS.2.2.2.1.cell); (try have f1 := hS.1); (try have f2 := hS.2.1); (try have f3 := hS.2.2.1); (try have f4 := hS.2.2.2.1); (try have f5 := hS.2.2.2.2.1); clear hS; go_simp; (try with_reducible rfl))); (go_simp; refine hK _ ?_; clear hK K)))
      refine wpSched_nil ?_
      go_wp2
      go_end0
      rw [hof.out, hR.out]
      exact ⟨rfl, ow', hst.trans (Step.drew t ow' wr), _, _, _, _, _, (NodeIs.loc B px sb lb pb _ m t).below hN (pb_drew (Below.refl wr.heap.size wr))⟩
end Go.Proofs.YtaopeioebpfdeaaGreatDoor
namespace Go.Proofs.YtaopeioebpfdeaaGreatDoor
open Go Go.RowKit Go.Shelf Go.Extern.Stop Go.Stop Go.Extern
attribute [local go_sem] Oper.semAt_some wide_fn wide_depth

theorem learned_any (B : Nat) (i : Int) (w : World) : Calls Tryz.prog 53 #[.pointer (some ⟨B, 0, none⟩), .int .i64 i] w fun e w' =>
    e = .returned (.func (.func 88) #[] #[.pointer (some ⟨w.heap.size + 1, 0, none⟩), .pointer (some ⟨w.heap.size, 0, none⟩)]) ∧ w' = (w.alloc (.cells #[.pointer (some ⟨B, 0, none⟩)] 156)).alloc (.cells #[.int .i64 i] 3) := by
  go_enter Tryz.func53, Tryz.ntmps53
  go_wp2
  go_ret
  exact ⟨rfl, rfl⟩
set_option maxRecDepth 8000 in
set_option maxHeartbeats 1000000 in
theorem learned_iter (ib qb B : Nat) (p : PaxS) (t : List Nat) (i0 : Nat) (hi : i0 ≤ 10001) (hk : KnownOk p.known) :
    Iter Fence.wide 2 Tryz.prog 88 #[.pointer (some ⟨ib, 0, none⟩), .pointer (some ⟨qb, 0, none⟩)] (fun x : List UInt8 => #[.string (bs x)])
      (fun (k : Nat) x => look (k : Int) p.known = some x) (fun k _ => k + 1) (fun k => look (k : Int) p.known = none)
      (fun _ W => Blk W ib #[.int .i64 (i0 : Nat)] 3 ∧ Blk W qb #[.pointer (some ⟨B, 0, none⟩)] 156 ∧ ∃ px ow, W.cell? ⟨B, 0, none⟩ = some (.pointer (some ⟨px, 0, none⟩)) ∧ PaxAt px p t ow W) i0 := by
  intro lp J Jx W hJ hJx hRd hY h0
  have e0 := (hRd _ _ _ h0).1.cell
  have hF : Fence.wide.fn 88 := trivial
  have hro : Fence.wide.round = none := rfl
  refine callsIn_of_wp Tryz.func88 rfl hF ?_ hro
  simp only [Tryz.ntmps88, List.size_toArray, List.length_cons, List.length_nil, Nat.reduceAdd, Nat.reduceSub, Array.replicate_succ, Array.replicate_zero, List.push_toArray, List.append_toArray, List.nil_append, List.cons_append]
  gi_wp2
  gi_loopw [4] (fun p4 wr => ∃ (k : Nat) (X : Nat → Prop), p4 = .int .i64 (k : Nat) ∧ k ≤ 10001 ∧ J k X wr) (fun p4 _ => 10001 - (intOf p4).toNat)
  case atStart => exact ⟨i0, _, rfl, hi, h0⟩
  case round =>
    obtain ⟨k, X, rfl, hk1, hJs⟩ := hrel
    clear e0
    obtain ⟨-, kq, px, ow, cB, hP⟩ := hRd _ _ _ hJs
    have eq := kq.cell
    have hdec := fun W hW => pxDecided_any px p t ow (k : Int) W hW
    cases hl : look (k : Int) p.known with
    | none =>
      rw [hl] at hdec
      simp only [Option.getD_none, Option.isSome_none] at hdec
      replace hdec : Hid (∀ _, _) := hdec
      replace hl : Hid (_ = _) := hl
      gi_wp2_with fail
      refine (callsIn_wide.2 (hdec.out _ hP)).mono ?_
      rintro e w1 ⟨rfl, hb1⟩
      have hJ1 : J k X w1 := hJ _ _ _ _ _ hJs (Mod.of_below X hb1) (fun k h => .inl h)
      gi_wp2
      refine bodyPost_ret (results_none rfl _ _ _) rfl ?_
      exact ⟨⟨_, rfl⟩, .inl ⟨k, X, hl.out, hJ1⟩⟩
    | some x =>
      rw [hl] at hdec
      simp only [Option.getD_some, Option.isSome_some] at hdec
      have hk4 := hk _ _ hl
      have hwk : IntKind.i64.wrap ((k : Int) + 1) = (k : Int) + 1 := by rw [IntKind.wrap_i64]; omega
      replace hdec : Hid (∀ _, _) := hdec
      gi_wp2_with fail
      refine (callsIn_wide.2 (hdec.out _ hP)).mono ?_
      rintro e w1 ⟨rfl, hb1⟩
      have hJ1 : J k X w1 := hJ _ _ _ _ _ hJs (Mod.of_below X hb1) (fun k h => .inl h)
      obtain ⟨fn, tmps, assign, body, hy, hR⟩ := hY k x X w1 hJ1 hl
      replace hl : Hid (_ = _) := hl
      gi_wp2
      refine hR.mono ?_
      rintro e W' (⟨rfl, hJ', -⟩ | ⟨rfl, hx'⟩)
      · clear hR hy
        gi_wp2
        go_roundw
        case rel => exact ⟨k + 1, _, by simp, by omega, hJ'⟩
        case measure => simp [intOf]; omega
      · gi_wp2
        refine bodyPost_ret (results_none rfl _ _ _) rfl ?_
        exact ⟨⟨_, rfl⟩, .inr ⟨_, hx'⟩⟩
set_option maxRecDepth 8000 in
theorem lEras_any (B : Nat) (L : LocalS) (t : List Nat) (ow : Own) (w : World) (h : LocalAt B L t ow w) (hl : L.fold.eras.length ≤ 536870912) : Calls Tryz.prog 136 #[.pointer (some ⟨B, 0, none⟩)] w fun e w' =>
    ∃ v', e = .returned v' ∧ Row w' 92 3 v' L.fold.eras.length (L.fold.eras.flatMap eraCells) ∧ Below w.heap.size w w' ∧ (∀ g, v'.ownBlock = some g → w.heap.size ≤ g) := by
  have hn := lNil_any B L t ow w h
  obtain ⟨hk, fb, hv, lv, hB, hF, -⟩ := h
  have he := eras_any fb L.fold (t ++ [0]) ow w hF hl
  have e0 := hB.cell
  unfold localCells at e0
  replace hn : Hid (Calls _ _ _ _ _) := hn
  replace he : Hid (Calls _ _ _ _ _) := he
  replace hF : Hid (FoldAt _ _ _ _ _) := hF
  clear hB hk
  go_enter Tryz.func136, Tryz.ntmps136
  go_wp2_with fail
  refine hn.out.mono ?_
  rintro e w1 ⟨rfl, hw1⟩
  obtain rfl := hw1.symm
  go_wp2_with fail
  refine he.out.mono ?_
  rintro e w2 ⟨v', rfl, h1, h2, h3⟩
  replace h3 : Hid (∀ _, _) := h3
  go_wp2
  go_ret
  exact ⟨_, rfl, h1, h2, h3.out⟩
theorem src_era {W : World} {l : List EraD} {b off cap : Nat} (h : Src W (.slice (some ⟨b, off, none⟩) l.length cap) 3 l.length (l.flatMap eraCells)) {k : Nat} {x : EraD} (hx : l[k]? = some x) :
    W.cell? ⟨b, off + k * 3, none⟩ = some (.int .u32 x.1) ∧ W.cell? ⟨b, off + k * 3 + 1, none⟩ = some (.int .i64 x.2.1) ∧ W.cell? ⟨b, off + k * 3 + 2, none⟩ = some (.int .i64 x.2.2) := by
  rcases h.2 with ⟨h, -⟩ | ⟨b', off', cap', h, -, hr⟩
  · cases h
  · cases h
    have hcell : ∀ j u, (eraCells x)[j]? = some u → j < 3 → W.cell? ⟨b, off + (k * 3 + j), none⟩ = some u := fun j u hu hj => hr _ u ((flatEra_at l k x hx j hj).trans hu)
    exact ⟨hcell 0 _ rfl (by omega), hcell 1 _ rfl (by omega), hcell 2 _ rfl (by omega)⟩
set_option maxRecDepth 8000 in
set_option maxHeartbeats 1000000 in
theorem ahead_any {px sb lb pb : Nat} {av : Value} (B : Nat) (n : NodeS) (t : List Nat) (ow : Own) (e : EntryD) (mv : Value) (w : World) (h : NodeIs B px sb lb pb av n t ow w) (hl : n.loc.fold.eras.length ≤ 536870912) :
    Calls Tryz.prog 108 #[.pointer (some ⟨B, 0, none⟩), entV e mv] w fun r w' => r = .returned (.int .i64 (aheadN n e)) ∧ Below w.heap.size w w' := by
  have hB := h.blk
  have her := fun W hW => lEras_any lb n.loc (t ++ [2]) ow W hW hl
  have hlo := h.lo
  unfold nodeCells at hB
  have e0 := hB.cell
  have l0 := hB.lt
  unfold entV aheadN
  clear h hB
  replace hlo : Hid (LocalAt _ _ _ _ _) := hlo
  replace her : Hid (∀ _, _) := her
  by_cases h2 : e.kind = 2
  · have t1 : (e.kind == 2) = true := by simp [h2]
    rw [if_pos h2]
    replace h2 : Hid (_ = _) := h2
    go_enter Tryz.func108, Tryz.ntmps108
    go_wp2
    go_ret
    exact ⟨rfl, by (repeat (first | exact Below.refl _ _ | with_reducible assumption | refine pb_alloc ?_ _ | refine pb_drew ?_ | refine pb_drewN ?_ _ | refine pb_set ?_ (by simp; try omega) _ | refine pb_trans ?_ (by with_reducible assumption)))⟩
  · have t1 : (e.kind == 2) = false := by simp [h2]
    rw [if_neg h2]
    replace h2 : Hid (_ → _) := h2
    by_cases h3 : e.kind = 3
    · have t2 : (e.kind == 3) = true := by simp [h3]
      rw [if_pos h3]
      replace h3 : Hid (_ = _) := h3
      generalize n.loc.fold.eras = l at *
      by_cases h4 : 1 < l.length
      · have t3 : decide ((1 : Int) < (l.length : Int)) = true := by simp; omega
        rw [if_pos h4]
        obtain ⟨x, hx⟩ : ∃ x, l[l.length - 2]? = some x := ⟨_, List.getElem?_eq_getElem (by omega)⟩
        rw [hx, Option.getD_some]
        have y0 : (0 : Int) ≤ (l.length : Int) - 2 := by omega
        have y1 : (l.length : Int) - 2 < (l.length : Int) := by omega
        have hw2 : IntKind.i64.wrap ((l.length : Int) - 2) = (l.length : Int) - 2 := by rw [IntKind.wrap_i64]; omega
        have hwn : ((l.length : Int) - 2).toNat = l.length - 2 := by omega
        replace hx : Hid (_ = _) := hx
        go_enter Tryz.func108, Tryz.ntmps108
        go_wp2_with fail
        refine (her.out _ ((LocalAt.loc lb n.loc _).below hlo.out (by (repeat (first | exact Below.refl _ _ | with_reducible assumption | refine pb_alloc ?_ _ | refine pb_drew ?_ | refine pb_drewN ?_ _ | refine pb_set ?_ (by simp; try omega) _ | refine pb_trans ?_ (by with_reducible assumption)))))).mono ?_
        rintro r w1 ⟨v', rfl, hrow, hb1, -⟩
        have hbw : Below w.heap.size w w1 := by (repeat (first | exact Below.refl _ _ | with_reducible assumption | refine pb_alloc ?_ _ | refine pb_drew ?_ | refine pb_drewN ?_ _ | refine pb_set ?_ (by simp; try omega) _ | refine pb_trans ?_ (by with_reducible assumption)))
        obtain ⟨g, cap, rfl⟩ : ∃ g cap, v' = .slice (some ⟨g, 0, none⟩) l.length cap := by
          rcases hrow.form with ⟨-, h0, -⟩ | ⟨g, cap, h, -⟩
          · omega
          · exact ⟨g, cap, h⟩
        obtain ⟨c0, c1, c2⟩ := src_era hrow.src hx.out
        simp only [Nat.zero_add] at c0 c1 c2
        replace hrow : Hid (Row _ _ _ _ _ _) := hrow
        go_wp2
        go_ret
        exact ⟨rfl, hbw⟩
      · have t3 : decide ((1 : Int) < (l.length : Int)) = false := by simp; omega
        rw [if_neg h4]
        go_enter Tryz.func108, Tryz.ntmps108
        go_wp2_with fail
        refine (her.out _ ((LocalAt.loc lb n.loc _).below hlo.out (by (repeat (first | exact Below.refl _ _ | with_reducible assumption | refine pb_alloc ?_ _ | refine pb_drew ?_ | refine pb_drewN ?_ _ | refine pb_set ?_ (by simp; try omega) _ | refine pb_trans ?_ (by with_reducible assumption)))))).mono ?_
        rintro r w1 ⟨v', rfl, hrow, hb1, -⟩
        have hbw : Below w.heap.size w w1 := by (repeat (first | exact Below.refl _ _ | with_reducible assumption | refine pb_alloc ?_ _ | refine pb_drew ?_ | refine pb_drewN ?_ _ | refine pb_set ?_ (by simp; try omega) _ | refine pb_trans ?_ (by with_reducible assumption)))
        obtain ⟨va, vc, rfl⟩ := hrow.src.shape
        replace hrow : Hid (Row _ _ _ _ _ _) := hrow
        go_wp2
        go_ret
        exact ⟨rfl, hbw⟩
    · have t2 : (e.kind == 3) = false := by simp [h3]
      rw [if_neg h3]
      replace h3 : Hid (_ → _) := h3
      go_enter Tryz.func108, Tryz.ntmps108
      go_wp2
      go_ret
      exact ⟨rfl, by (repeat (first | exact Below.refl _ _ | with_reducible assumption | refine pb_alloc ?_ _ | refine pb_drew ?_ | refine pb_drewN ?_ _ | refine pb_set ?_ (by simp; try omega) _ | refine pb_trans ?_ (by with_reducible assumption)))⟩
end Go.Proofs.YtaopeioebpfdeaaGreatDoor
namespace Go.Proofs.YtaopeioebpfdeaaGreatDoor
open Go Go.RowKit Go.Shelf Go.Extern.Stop Go.Stop Go.Extern
attribute [local go_sem] Oper.semAt_some wide_fn wide_depth

theorem Local.node {t : List Nat} {i B : Nat} {A : Own → World → Prop} (hA : Local (t ++ [i]) A) {ow ow' : Own} {W W' : World} (h : A ow W) (ho : ow B = t) (hM : Mod (fun k => k = B) W W') (hag : ∀ k, k < W.heap.size → ow' k = ow k) : A ow' W' :=
  hA _ _ _ _ h hM.size (fun k hk hs => ⟨hag k hk, hM.block k hk (fun e => by subst e; rw [ho] at hs; exact not_child_sub t i hs)⟩)
/-- What begin comes to. -/
def BeginPost (B : Nat) (id v : Int) (sv : Value) (down : Bool) (t : List Nat) (ow : Own) (w : World) (e : Ending) (w' : World) : Prop :=
  e = .returned (.int .i64 0) ∧ ∃ ow' px lb pb, (∀ k, k < w.heap.size → ow' k = ow k) ∧ Mod (fun k => k = B) w w' ∧
    Blk w' B #[.pointer (some ⟨px, 0, none⟩), .int .i64 id, .int .i64 v, .slice none 0 0, sv, .pointer (some ⟨lb, 0, none⟩), .pointer (some ⟨pb, 0, none⟩), .slice none 0 0, .int .i64 0, .int .i64 0, .int .i64 0, .bool down] 78 ∧
    PaxAt px newPax (t ++ [0]) ow' w' ∧ LocalAt lb (newL v (stBegin v)) (t ++ [2]) ow' w' ∧ PoolAt pb newPool (t ++ [3]) ow' w'
set_option maxRecDepth 8000 in
set_option maxHeartbeats 1000000 in
theorem begin_any' (a : Addr) (B : Nat) (c0 c5 c6 c7 c8 c9 c10 : Value) (id v : Int) (sv : Value) (down : Bool) (t : List Nat) (ow : Own) (w : World) (hv : known v = true) (he : ErrAt w a) (ho : ow B = t)
    (hB : Blk w B #[c0, .int .i64 id, .int .i64 v, .slice none 0 0, sv, c5, c6, c7, c8, c9, c10, .bool down] 78) :
    Calls Tryz.prog 31 #[.pointer (some ⟨B, 0, none⟩)] w (BeginPost B id v sv down t ow w) := by
  have hln := lNew_any a v hv (t ++ [2]) ow w he
  have hpn := fun ow1 W => pxNew_any (t ++ [0]) ow1 W
  have hbn := fun ow1 W => plNew_any (t ++ [3]) ow1 W
  have hBl := hB.lt
  have e0 := hB.cell
  replace hln : Hid (Calls _ _ _ _ _) := hln
  replace hpn : Hid (∀ _ _, _) := hpn
  replace hbn : Hid (∀ _ _, _) := hbn
  replace he : Hid (ErrAt _ _) := he
  go_enter Tryz.func31, Tryz.ntmps31
  go_wp2_with fail
  refine hln.out.mono ?_
  rintro e w1 ⟨lb, ow1, rfl, hs1, hb1, hL⟩
  have kB1 := hB.call hb1
  have ho1 : ow1 B = t := (hs1.agree B hBl).trans ho
  go_wp2_with fail
  refine (hpn.out ow1 _).mono ?_
  rintro e w2 ⟨px, ow2, rfl, hs2, hb2, hP, hpx⟩
  have kB2 := kB1.call hb2
  have ho2 : ow2 B = t := (hs2.agree B kB1.lt).trans ho1
  have hL2 : LocalAt lb (newL v (stBegin v)) (t ++ [2]) ow2 w2 := LocalAt.loc _ _ _ _ _ _ _ hL hb2.size (fun k hk _ => ⟨hs2.agree k hk, hb2.block k hk⟩)
  have hb12 := pb_trans hb1 hb2
  have fB2 := kB2.frozen
  have lB2 := kB2.lt
  have cB2 := kB2.cell
  clear e0
  go_wp2_with fail
  obtain ⟨W3, hW3⟩ : ∃ W3, W3 = (w2.setCell ⟨B, 0, none⟩ (.pointer (some ⟨px, 0, none⟩))).setCell ⟨B, 5, none⟩ (.pointer (some ⟨lb, 0, none⟩)) := ⟨_, rfl⟩
  have kB3 := (kB2.set (o := 0) (.pointer (some ⟨px, 0, none⟩))).set (o := 5) (.pointer (some ⟨lb, 0, none⟩))
  rw [← hW3] at kB3
  have hm3 : Mod (fun k => k = B) w2 W3 := by rw [hW3]; exact ((Mod.refl (fun k => k = B) w2).thenSet (p := ⟨B, 0, none⟩) rfl _).thenSet (p := ⟨B, 5, none⟩) rfl _
  rw [← hW3]
  clear hW3 fB2 cB2
  refine (hbn.out ow2 _).mono ?_
  rintro e w4 ⟨pb, ow4, rfl, hs4, hb4, hQ, hpb⟩
  have kB4 := kB3.call hb4
  have hP4 : PaxAt px newPax (t ++ [0]) ow4 w4 := Local.node (PaxAt.loc px newPax (t ++ [0])) hP ho2 (hm3.thenCall hb4) (fun k hk => hs4.agree k (by have := hm3.size; omega))
  have hL4 : LocalAt lb (newL v (stBegin v)) (t ++ [2]) ow4 w4 := Local.node (LocalAt.loc lb _ (t ++ [2])) hL2 ho2 (hm3.thenCall hb4) (fun k hk => hs4.agree k (by have := hm3.size; omega))
  have ho4 : ow4 B = t := (hs4.agree B kB3.lt).trans ho2
  have fB4 := kB4.frozen
  have cB4 := kB4.cell
  have lB4 := kB4.lt
  go_wp2
  go_ret
  have hm5 : Mod (fun k => k = B) w4 (((((w4.setCell ⟨B, 6, none⟩ (.pointer (some ⟨pb, 0, none⟩))).setCell ⟨B, 7, none⟩ (.slice none 0 0)).setCell ⟨B, 8, none⟩ (.int .i64 0)).setCell ⟨B, 9, none⟩ (.int .i64 0)).setCell ⟨B, 10, none⟩ (.int .i64 0)) :=
    (((((Mod.refl (fun k => k = B) w4).thenSet (p := ⟨B, 6, none⟩) rfl _).thenSet (p := ⟨B, 7, none⟩) rfl _).thenSet (p := ⟨B, 8, none⟩) rfl _).thenSet (p := ⟨B, 9, none⟩) rfl _).thenSet (p := ⟨B, 10, none⟩) rfl _
  have k5 := ((((kB4.set (o := 6) (.pointer (some ⟨pb, 0, none⟩))).set (o := 7) (.slice none 0 0)).set (o := 8) (.int .i64 0)).set (o := 9) (.int .i64 0)).set (o := 10) (.int .i64 0)
  have hmAll : Mod (fun k => k = B) w (((((w4.setCell ⟨B, 6, none⟩ (.pointer (some ⟨pb, 0, none⟩))).setCell ⟨B, 7, none⟩ (.slice none 0 0)).setCell ⟨B, 8, none⟩ (.int .i64 0)).setCell ⟨B, 9, none⟩ (.int .i64 0)).setCell ⟨B, 10, none⟩ (.int .i64 0)) :=
    ((Mod.of_below (fun k => k = B) hb12).trans (hm3.thenCall hb4) (fun _ _ e => e) (fun _ _ e => e)).trans hm5 (fun _ _ e => e) (fun _ _ e => e)
  have hz1 := hb1.size
  have hz2 := hb2.size
  have hz3 := hm3.size
  refine ⟨rfl, ow4, px, lb, pb, fun k hk => ?_, hmAll, k5, Local.node (PaxAt.loc px newPax (t ++ [0])) hP4 ho4 hm5 (fun _ _ => rfl), Local.node (LocalAt.loc lb _ (t ++ [2])) hL4 ho4 hm5 (fun _ _ => rfl), Local.node (PoolAt.loc pb newPool (t ++ [3])) hQ ho4 hm5 (fun _ _ => rfl)⟩
  rw [hs4.agree k (by omega), hs2.agree k (by omega), hs1.agree k hk]

/-- What New comes to. -/
def NewNodePost (id v cap : Int) (t : List Nat) (ow : Own) (w : World) (e : Ending) (w' : World) : Prop :=
  ∃ B ow', e = .returned (.tuple #[.pointer (some ⟨B, 0, none⟩), .int .i64 0]) ∧ Step t ow w ow' w' ∧ Below w.heap.size w w' ∧ NodeAt B (newN id v cap [] (stBegin v)) t ow' w' ∧ w.heap.size ≤ B
set_option maxRecDepth 8000 in
set_option maxHeartbeats 1000000 in
theorem nNew_any (a : Addr) (id v cap : Int) (hi : 0 ≤ id) (hi2 : id < 16) (hv : known v = true) (h1 : 64 ≤ cap) (h2 : cap ≤ 1048576) (t : List Nat) (ow : Own) (w : World) (he : ErrAt w a) :
    Calls Tryz.prog 9 #[.int .i64 id, .int .i64 v, .int .i64 cap, .slice none 0 0] w (NewNodePost id v cap t ow w) := by
  have hst := stNew_any cap h1 h2 (t ++ [1]) ow w
  have hcl := fun W => Tryz.slices_Clone_int_nil 0 0 W
  have t1 : decide (id < 0) = false := by simp; omega
  have t2 : decide (16 ≤ id) = false := by simp; omega
  replace hst : Hid (Calls _ _ _ _ _) := hst
  replace hcl : Hid (∀ _, _) := hcl
  go_enter Tryz.func9, Tryz.ntmps9
  go_wp2_with fail
  refine hst.out.mono ?_
  rintro e w1 ⟨sb, ow1, rfl, hs1, hb1, hS, hsb⟩
  go_wp2_with fail
  refine (hcl.out _).mono ?_
  rintro e w2 ⟨rfl, hw2⟩
  obtain rfl := hw2.symm
  have kB2 : Blk (w1.alloc (.cells #[.pointer none, .int .i64 id, .int .i64 v, .slice none 0 0, .pointer (some ⟨sb, 0, none⟩), .pointer none, .pointer none, .slice none 0 0, .int .i64 0, .int .i64 0, .int .i64 0, .bool false] 78)) w1.heap.size _ 78 := Blk.new rfl
  have hb2 : Below w.heap.size w (w1.alloc (.cells #[.pointer none, .int .i64 id, .int .i64 v, .slice none 0 0, .pointer (some ⟨sb, 0, none⟩), .pointer none, .pointer none, .slice none 0 0, .int .i64 0, .int .i64 0, .int .i64 0, .bool false] 78)) := pb_alloc hb1 _
  obtain ⟨W2, hW2⟩ : ∃ W2, W2 = w1.alloc (.cells #[.pointer none, .int .i64 id, .int .i64 v, .slice none 0 0, .pointer (some ⟨sb, 0, none⟩), .pointer none, .pointer none, .slice none 0 0, .int .i64 0, .int .i64 0, .int .i64 0, .bool false] 78) := ⟨_, rfl⟩
  have hS2 : StoreAt sb (newStore cap) (t ++ [1]) (ow1.ext w1.heap.size (fun k => k = w1.heap.size) t) W2 := StoreAt.loc _ _ _ _ _ _ _ hS (by rw [hW2]; simp) (fun k hk _ => ⟨Own.ext_old hk, by rw [hW2]; exact Below.heap_alloc _ _ _ hk⟩)
  have hsz2 : W2.heap.size = w1.heap.size + 1 := by rw [hW2]; simp
  rw [← hW2] at kB2 hb2
  have hbeg := begin_any' a w1.heap.size _ _ _ _ _ _ _ id v _ false t (ow1.ext w1.heap.size (fun k => k = w1.heap.size) t) W2 hv (he.below hb2 he.lt) (Own.ext_new (Nat.le_refl _) rfl) kB2
  replace hbeg : Hid (Calls _ _ _ _ _) := hbeg
  go_wp2_with fail
  rw [← hW2]
  clear hW2
  refine hbeg.out.mono ?_
  rintro e w3 ⟨rfl, ow3, px, lb, pb, hag, hM, k3, hP, hL, hQ⟩
  have hz1 := hb1.size
  go_wp2
  go_ret2
  have hb3 : Below w.heap.size w w3 := hb2.trans (hM.to_below (by omega) (fun k _ e => by omega))
  have hS3 : StoreAt sb (newStore cap) (t ++ [1]) ow3 w3 := Local.node (StoreAt.loc sb _ (t ++ [1])) hS2 (Own.ext_new (Nat.le_refl _) rfl) hM hag
  have hoB : ow3 w1.heap.size = t := (hag _ (by omega)).trans (Own.ext_new (Nat.le_refl _) rfl)
  refine ⟨w1.heap.size, ow3, rfl, ⟨Mod.of_below _ hb3, fun k hk => ?_⟩, hb3, ⟨px, sb, lb, pb, .slice none 0 0, k3, hP, hS3, hL, hQ, row_nil _ _ _, hoB, by simp [Value.ownBlock], rfl⟩, hz1⟩
  rw [hag k (by omega), Own.ext_old (by omega), hs1.agree k hk]
end Go.Proofs.YtaopeioebpfdeaaGreatDoor
namespace Go.Proofs.YtaopeioebpfdeaaGreatDoor
open Go Go.RowKit Go.Shelf Go.Extern.Stop Go.Stop Go.Extern
attribute [local go_sem] Oper.semAt_some wide_fn wide_depth

/-- What a keeper's call comes to. -/
def KeepPost (B : Nat) (R : NodeS × Int) (t : List Nat) (ow : Own) (w W : World) (e : Ending) (w' : World) : Prop :=
  e = .returned (.int .i64 R.2) ∧ ∃ ow', Step t ow w ow' w' ∧ NodeAt B R.1 t ow' w' ∧ ∀ k, w.heap.size ≤ k → k < W.heap.size → w'.heap[k]? = W.heap[k]? ∧ ow' k = []
theorem keep_call (B : Nat) (n : NodeS) (t : List Nat) (ht : t ≠ []) (ow : Own) (w : World) (h : NodeAt B n t ow w) (hcap : CapOk n.store) (b : Bool) (ts : List (List UInt8)) (h0 : 0 < ts.length) (hn : ts.length ≤ 1000) (hl : ts.flatten.length ≤ 1073741000)
    (W : World) (hb : Below w.heap.size w W) (kb kc g : Nat) (h1 : w.heap.size ≤ kb) (h2 : w.heap.size ≤ kc) (k0 : Blk W kb #[.pointer (some ⟨B, 0, none⟩)] 26) (k1 : Blk W kc #[.bool b] 4) (kg : Blk W g (texts ts).toArray 9) :
    Calls Tryz.prog 64 #[.slice (some ⟨g, 0, none⟩) ts.length ts.length, .pointer (some ⟨kb, 0, none⟩), .pointer (some ⟨kc, 0, none⟩)] W (KeepPost B (keepN n b ts.flatten) t ow w W) := by
  have hsrc : Src W (.slice (some ⟨g, 0, none⟩) ts.length ts.length) 1 ts.length (texts ts) := by
    have := src_blk (n := ts.length) (size := 1) (cap := ts.length) kg (by simp [texts]) (Nat.le_refl _)
    simpa using this
  refine (keep_any B n t (ow.cut w) b kb kc _ ts W ((NodeAt.loc B n t).cut h hb) hcap k0 k1 (Own.cut_new h1) (Own.cut_new h2) hsrc h0 hn hl).mono ?_
  rintro e w' ⟨rfl, ow', hs, hN⟩
  exact ⟨rfl, ow', Step.wrap hb hs, hN, fun k a b => hs.free ht a b⟩
theorem promiseP_err {p : PaxS} {i : Int} {b : Nat} (h : (promiseP p i b).2.2.2 ≠ 0) : (promiseP p i b).1 = p := by
  unfold promiseP at *
  split at h
  · rename_i h0; rw [if_pos h0]
  · rename_i h0; rw [if_neg h0]
    split at h
    · rename_i h1; rw [if_pos h1]
    · simp at h
theorem castP_err {p : PaxS} {i : Int} {b : Nat} {x : List UInt8} (h : (castP p i b x).2.2 ≠ 0) : (castP p i b x).1 = p := by
  unfold castP at *
  split at h
  · rename_i h0; rw [if_pos h0]
  · rename_i h0; rw [if_neg h0]
    split at h
    · rename_i h1; rw [if_pos h1]
    · simp at h
theorem castP_len (p : PaxS) (i : Int) (b : Nat) (x : List UInt8) : (castP p i b x).2.1.length ≤ 13 + x.length := by
  unfold castP
  split
  · simp
  · split
    · simp
    · simp [recP, le8, le4_length]; omega
theorem promiseP_len (p : PaxS) (i : Int) (b : Nat) : (promiseP p i b).2.2.1.length ≤ 13 := by
  unfold promiseP
  split
  · simp
  · split
    · simp
    · simp [recP, le8, le4_length]
set_option maxRecDepth 8000 in
set_option maxHeartbeats 1000000 in
theorem nCast_any {px sb lb pb : Nat} {av : Value} (B : Nat) (n : NodeS) (t : List Nat) (ht : t ≠ []) (ow : Own) (i : Int) (b : Nat) (hb : b < 18446744073709551616) (x : List UInt8) (hx : x.length ≤ 1000000) (w : World) (hN : NodeIs B px sb lb pb av n t ow w) (hcap : CapOk n.store) :
    Calls Tryz.prog 16 #[.pointer (some ⟨B, 0, none⟩), .int .i64 i, .int .u64 b, .string (bs x)] w (NodePost B (castN n i b x).1 t ow w (.int .i64 (castN n i b x).2)) := by
  have hB := hN.blk
  have hr := nReady_any w hB
  have hcast := fun W hW => pxCast_any px n.pax (t ++ [0]) (by simp) ow i b hb x hx W hW
  have hcn : castN n i b x = if n.down then (n, 170) else if (castP n.pax i b x).2.2 ≠ 0 then (n, (castP n.pax i b x).2.2) else keepN { n with pax := (castP n.pax i b x).1 } true (castP n.pax i b x).2.1 := rfl
  have hlen := castP_len n.pax i b x
  have herr := @castP_err n.pax i b x
  unfold nodeCells at hB
  unfold readyN at hr
  have e0 := hB.cell
  obtain ⟨⟨p', rc, er⟩, hcp⟩ : ∃ q, castP n.pax i b x = q := ⟨_, rfl⟩
  rw [hcp] at hcast hcn hlen herr
  unfold castE at hcast
  simp only at hcast hcn hlen herr
  replace hcp : Hid (_ = _) := hcp
  replace hcast : Hid (∀ _, _) := hcast
  replace herr : Hid (_ → _) := herr
  by_cases hd : n.down = true
  · rw [if_pos hd] at hcn
    rw [hd] at hr
    rw [hcn]
    replace hcn : Hid (_ = _) := hcn
    replace hr : Hid (Calls _ _ _ _ _) := hr
    replace hd : Hid (_ = _) := hd
    go_enter Tryz.func16, Tryz.ntmps16
    go_wp2_with fail
    refine hr.out.mono ?_
    rintro e w1 ⟨rfl, hw1⟩
    obtain rfl := hw1.symm
    go_wp2
    go_ret
    exact ⟨rfl, ow, Step.refl _ _ _, _, _, _, _, _, hN⟩
  · have hd' : n.down = false := by simpa using hd
    rw [if_neg hd] at hcn
    rw [hd'] at hr
    replace hr : Hid (Calls _ _ _ _ _) := hr
    replace hd : Hid (_ → _) := hd
    replace hd' : Hid (_ = _) := hd'
    by_cases he : er = 0
    · subst he
      rw [if_neg (by simp)] at hcn
      rw [hcn]
      have hkp := fun ow1 w1 h1 W h2 kb kc g h3 h4 k0 k1 kg => keep_call B { n with pax := p' } t ht ow1 w1 h1 hcap true [rc] (by simp) (by simp) (by simp; omega) W h2 kb kc g h3 h4 k0 k1 kg
      rw [show [rc].flatten = rc by simp] at hkp
      unfold KeepPost at hkp
      replace hcn : Hid (_ = _) := hcn
      generalize keepN { n with pax := p' } true rc = R at *
      replace hkp : Hid (∀ _, _) := hkp
      go_enter Tryz.func16, Tryz.ntmps16
      go_wp2_with fail
      refine hr.out.mono ?_
      rintro e w1 ⟨rfl, hw1⟩
      obtain rfl := hw1.symm
      go_wp2_with fail
      refine (hcast.out _ hN.pax).mono ?_
      rintro e w1 ⟨rfl, ow1, hs1, h1⟩
      have hN1 := hN.setPax p' hs1 h1
      go_wp2_with fail
      refine (keeper_any _ _ _).mono ?_
      rintro e w2 ⟨rfl, rfl⟩
      go_wp2_with fail
      refine (hkp.out ow1 w1 ⟨_, _, _, _, _, hN1⟩ (((w1.alloc (.cells #[.pointer (some ⟨B, 0, none⟩)] 26)).alloc (.cells #[.bool true] 4)).alloc (.cells #[.string (bs rc)] 9)) (by (repeat (first | exact Below.refl _ _ | with_reducible assumption | refine pb_alloc ?_ _ | refine pb_drew ?_ | refine pb_drewN ?_ _ | refine pb_set ?_ (by simp; try omega) _ | refine pb_trans ?_ (by with_reducible assumption)))) w1.heap.size (w1.heap.size + 1) _ (Nat.le_refl _) (by omega) (by (repeat (first | with_reducible assumption | (refine Blk.new ?_; simp; done) | refine Blk.alloc ?_ _ | refine Blk.drew ?_ | refine Blk.drewN ?_ _ | refine Blk.call ?_ (by with_reducible assumption)))) (by (repeat (first | with_reducible assumption | (refine Blk.new ?_; simp; done) | refine Blk.alloc ?_ _ | refine Blk.drew ?_ | refine Blk.drewN ?_ _ | refine Blk.call ?_ (by with_reducible assumption)))) (Blk.new (by simp))).mono ?_
      rintro e w3 ⟨rfl, ow3, hs3, hN3, -⟩
      go_wp2
      go_ret
      exact ⟨rfl, ow3, (hs1.mono (Sub.child t 0)).trans hs3, hN3⟩
    · rw [if_pos he] at hcn
      rw [hcn]
      have t1 : (er != 0) = true := by simpa using he
      have hp' := herr.out he
      subst hp'
      replace hcn : Hid (_ = _) := hcn
      replace he : Hid (_ → _) := he
      go_enter Tryz.func16, Tryz.ntmps16
      go_wp2_with fail
      refine hr.out.mono ?_
      rintro e w1 ⟨rfl, hw1⟩
      obtain rfl := hw1.symm
      go_wp2_with fail
      refine (hcast.out _ hN.pax).mono ?_
      rintro e w1 ⟨rfl, ow1, hs1, h1⟩
      have hN1 := hN.setPax _ hs1 h1
      go_wp2
      go_ret
      exact ⟨rfl, ow1, hs1.mono (Sub.child t 0), _, _, _, _, _, hN1⟩
end Go.Proofs.YtaopeioebpfdeaaGreatDoor
