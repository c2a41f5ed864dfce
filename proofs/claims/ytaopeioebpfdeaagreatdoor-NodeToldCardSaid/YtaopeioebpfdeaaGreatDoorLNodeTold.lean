/- PROVED HERE: rostrumlaw17.NodeTold returns true for every input, and its arguments read afterwards as they did; the listed variable holds what the program's text lays (the card ties it). No further condition. -/
import Derived.Test.YtaopeioebpfdeaaGreatDoorK03
import Derived.Test.YtaopeioebpfdeaaGreatDoorK08
import Derived.Test.YtaopeioebpfdeaaGreatDoorK43
namespace Go.Proofs.YtaopeioebpfdeaaGreatDoor
open Go Go.RowKit Go.Shelf Go.Extern.Stop Go.Stop Go.Extern
attribute [local go_sem] Oper.semAt_some wide_fn wide_depth

set_option maxRecDepth 8000 in
set_option maxHeartbeats 4000000 in
theorem nodeTold_true (a : Addr) (v : Int) (lv : Value) (es : List ActD) (w : World) (he : ErrAt w a) (hes : ElemsIn w lv 4 actCells es) (hall : ∀ x ∈ es, x.b < 18446744073709551616) (_hel : es.length ≤ 9223372036854775807) :
    Calls Tryz.prog 6 #[.int .i64 v, lv] w fun r w' => r = .returned (.bool true) ∧ Below w.heap.size w w' := by
  obtain ⟨ea, ec, rfl, hcs⟩ := hes.shape (by omega) (fun y => ⟨_, rfl⟩)
  have heW := fun W (hW : Below w.heap.size w W) => he.below hW he.lt
  replace heW : Hid (∀ _, _) := heW
  replace hcs : Hid (∀ _, _) := hcs
  replace hall : Hid (∀ _, _) := hall
  replace he : Hid (ErrAt _ _) := he
  clear hes
  cases hk : known v
  · have hnew := fun W => nNew_badver 1 v 1048576 (by omega) (by omega) hk (by omega) (by omega) W
    replace hnew : Hid (∀ _, _) := hnew
    replace hk : Hid (_ = _) := hk
    go_enter Tryz.func6, Tryz.ntmps6
    go_wp2_with fail
    refine (shown17_any a _ (heW.out _ (by (repeat (first | exact Below.refl _ _ | with_reducible assumption | refine pb_alloc ?_ _ | refine pb_drew ?_ | refine pb_drewN ?_ _ | refine pb_set ?_ (by simp; try omega) _ | refine pb_trans ?_ (by with_reducible assumption)))))).mono ?_
    rintro r w1 ⟨rfl, hb1⟩
    go_wp2_with fail
    refine (hnew.out _).mono ?_
    rintro r w2 ⟨rfl, hb2⟩
    go_wp2
    go_ret
    exact ⟨rfl, pb_trans hb1 hb2⟩
  · have hnew := fun W (hW : Below w.heap.size w W) => nNew_any a 1 v 1048576 (by omega) (by omega) hk (by omega) (by omega) [1] (fun _ => []) W (heW.out W hW)
    obtain ⟨n1, hn1⟩ : ∃ n1, n1 = newN 1 v 1048576 [] (stBegin v) := ⟨_, rfl⟩
    have g1 : NodeG v n1 := by rw [hn1]; exact NodeG.new (by omega) (by omega)
    replace hnew : Hid (∀ _ _, _) := hnew
    replace g1 : Hid (NodeG _ _) := g1
    replace hn1 : Hid (_ = _) := hn1
    replace hk : Hid (_ = _) := hk
    go_enter Tryz.func6, Tryz.ntmps6
    go_wp2_with fail
    refine (shown17_any a _ (heW.out _ (by (repeat (first | exact Below.refl _ _ | with_reducible assumption | refine pb_alloc ?_ _ | refine pb_drew ?_ | refine pb_drewN ?_ _ | refine pb_set ?_ (by simp; try omega) _ | refine pb_trans ?_ (by with_reducible assumption)))))).mono ?_
    rintro r w1 ⟨rfl, hb1⟩
    go_wp2_with fail
    refine (hnew.out _ hb1).mono ?_
    rintro r w2 ⟨B, ow2, rfl, hs2, hb2, hF2, -⟩
    rw [← hn1.out] at hF2
    have h2 : OneN w (fun _ => False) B n1 w2 := (OneN.new hb1 hs2 hF2).mono (fun k h => h.elim)
    replace h2 : Hid (OneN _ _ _ _ _) := h2
    clear hs2 hF2
    go_wp2
    go_loopw [8] (fun p8 wr => ∃ k : Nat, p8 = .int .i64 (k : Nat) ∧ k ≤ es.length ∧ k ≤ 60 ∧ OneN w (fun _ => False) B (runN (stBegin v) n1 (es.take k)) wr) (fun p8 _ => 60 - (intOf p8).toNat)
    case atStart => exact ⟨0, rfl, Nat.zero_le _, Nat.zero_le _, h2.out⟩
    case round =>
      obtain ⟨k, rfl, hk1, hk2, hnk⟩ := hrel
      have hbw : Below w.heap.size w wr := hnk.bel
      clear h2
      by_cases hlt : k < es.length ∧ k < 60
      · obtain ⟨hlt, hlt2⟩ := hlt
        have hv1 := hk.out
        obtain ⟨x, hx⟩ : ∃ x, es[k]? = some x := ⟨_, List.getElem?_eq_getElem hlt⟩
        obtain ⟨lb, off, rfl, hcx⟩ := hcs.out k x hx
        have hxb := hall.out x (List.mem_of_getElem? hx)
        have hrt := runN_take (s := stBegin v) (n := n1) hx
        have gk := g1.out.run (es.take k) (fun y hy => hall.out y (List.mem_of_mem_take hy))
        have htold := gk.told x hxb
        rw [← hrt] at htold
        have gk1 := g1.out.run (es.take (k + 1)) (fun y hy => hall.out y (List.mem_of_mem_take hy))
        have t1 : decide ((k : Int) < (es.length : Int)) = true := by simpa using hlt
        have t2 : decide ((k : Int) < 60) = true := by simp; omega
        have y0 : (k : Int) < (es.length : Int) := by omega
        have y1 : (0 : Int) ≤ (k : Int) := by omega
        have hwk : IntKind.i64.wrap ((k : Int) + 1) = (k : Int) + 1 := by rw [IntKind.wrap_i64]; omega
        replace hv1 : Hid (_ = _) := hv1
        obtain ⟨N, hN⟩ : ∃ N, N = runN (stBegin v) n1 (es.take k) := ⟨_, rfl⟩
        obtain ⟨M, hM⟩ : ∃ M, M = runN (stBegin v) n1 (es.take (k + 1)) := ⟨_, rfl⟩
        rw [← hN] at hrt gk htold hnk
        rw [← hM] at hrt gk1 htold
        have hgo : ∀ W, OneN w (fun _ => False) B M W → OneN w (fun _ => False) B (runN (stBegin v) n1 (es.take (k + 1))) W := fun W h => by rw [← hM]; exact h
        obtain ⟨p1, p2⟩ := htold
        have pl1 := p1.length_le
        have pl2 := p2.length_le
        rw [List.prefix_iff_eq_take] at p1 p2
        have hbN := gk.ok.bounds
        have hbM := gk1.ok.bounds
        have hLN := hbN.2.2.2.len
        have hLM := hbM.2.2.2.len
        have qa := hnk.accepted gk
        replace qa : Hid (Calls _ _ _ _ _) := qa
        replace hgo : Hid (∀ _ _, _) := hgo
        replace hnk : Hid (OneN _ _ _ _ _) := hnk
        replace hrt : Hid (_ = _) := hrt
        replace hN : Hid (_ = _) := hN
        replace hM : Hid (_ = _) := hM
        replace gk : Hid (NodeG _ _) := gk
        replace gk1 : Hid (NodeG _ _) := gk1
        replace p1 : Hid (_ = _) := p1
        replace p2 : Hid (_ = _) := p2
        replace hbN : Hid (_ ∧ _) := hbN
        replace hbM : Hid (_ ∧ _) := hbM
        replace hLN : Hid (_ ≤ _) := hLN
        replace hLM : Hid (_ ≤ _) := hLM
        replace hx : Hid (_ = _) := hx
        replace hcx : Hid (∀ _ _, _) := hcx
        go_wp2_with fail
        refine qa.out.mono ?_
        rintro r w3 ⟨va, rfl, hRa, hb3, hna⟩
        obtain ⟨aa, ac, rfl⟩ := hRa.src.shape
        have h3 := hnk.out.below hb3
        obtain ⟨lb, ql, qg⟩ := h3.log gk.out
        replace ql : Hid (Calls _ _ _ _ _) := ql
        replace qg : Hid (Calls _ _ _ _ _) := qg
        replace h3 : Hid (OneN _ _ _ _ _) := h3
        replace hRa : Hid (Row _ _ _ _ _ _) := hRa
        replace hna : Hid (∀ _, _) := hna
        go_wp2_with fail
        refine ql.out.mono ?_
        rintro r w4 ⟨rfl, -, hw4⟩
        obtain rfl := hw4.symm
        go_wp2_with fail
        refine qg.out.mono ?_
        rintro r w4 ⟨vb, rfl, hRb, hb4, hnb⟩
        obtain ⟨ba, bc, rfl⟩ := hRb.src.shape
        have hb34 := pb_trans hb3 hb4
        obtain ⟨c0, c1, c2, c3⟩ := act_cells (pb_trans hbw hb34) hcx.out
        have hdo := does17_any he.out hk.out hnk.out gk.out hb34 x hxb
        rw [← hrt.out] at hdo
        unfold actV at hdo
        replace hdo : Hid (Calls _ _ _ _ _) := hdo
        replace hRb : Hid (Row _ _ _ _ _ _) := hRb
        replace hnb : Hid (∀ _, _) := hnb
        clear ql qg h3 qa
        go_wp2_with fail
        refine hdo.out.mono ?_
        rintro r w5 ⟨rfl, h5, hk5⟩
        have hRa5 := (hRa.out.below hb4).kept (w' := w5) (fun g hg => hk5 g (.inr ⟨hna.out g hg, (hRa.out.below hb4).lt hg⟩))
        have hRb5 := hRb.out.kept (w' := w5) (fun g hg => hk5 g (.inr ⟨by have := hnb.out g hg; have := hb3.size; omega, hRb.out.lt hg⟩))
        replace h5 : OneN w (fun _ => False) B M w5 := h5.mono (fun k h => h.elim)
        have qa := h5.accepted gk1.out
        replace qa : Hid (Calls _ _ _ _ _) := qa
        replace h5 : Hid (OneN _ _ _ _ _) := h5
        replace hRa5 : Hid (Row _ _ _ _ _ _) := hRa5
        replace hRb5 : Hid (Row _ _ _ _ _ _) := hRb5
        clear hRa hRb hna hnb hk5 hdo c0 c1 c2 c3 hnk
        go_wp2_with fail
        refine qa.out.mono ?_
        rintro r w6 ⟨vc, rfl, hRc, hb6, -⟩
        obtain ⟨ca, cc, rfl⟩ := hRc.src.shape
        have h6 := h5.out.below hb6
        obtain ⟨lb, ql, qg⟩ := h6.log gk1.out
        replace ql : Hid (Calls _ _ _ _ _) := ql
        replace qg : Hid (Calls _ _ _ _ _) := qg
        replace h6 : Hid (OneN _ _ _ _ _) := h6
        replace hRc : Hid (Row _ _ _ _ _ _) := hRc
        go_wp2_with fail
        refine ql.out.mono ?_
        rintro r w7 ⟨rfl, -, hw7⟩
        obtain rfl := hw7.symm
        go_wp2_with fail
        refine qg.out.mono ?_
        rintro r w7 ⟨vd, rfl, hRd, hb7, -⟩
        obtain ⟨da, dc, rfl⟩ := hRd.src.shape
        have h7 := h6.out.below hb7
        have hb67 := pb_trans hb6 hb7
        have hRa7 := hRa5.out.below hb67
        have hRb7 := hRb5.out.below hb67
        have hRc7 := hRc.out.below hb7
        have z1 : decide ((M.acc.length : Int) < (N.acc.length : Int)) = false := by simp; omega
        have z2 : decide ((M.loc.log.length : Int) < (N.loc.log.length : Int)) = false := by simp; omega
        have y2 : (N.acc.length : Int) ≤ (cc : Int) := by have := src_cap hRc7.src; omega
        have y3 : (N.loc.log.length : Int) ≤ (dc : Int) := by have := src_cap hRd.src; omega
        have y4 : (0 : Int) ≤ (N.acc.length : Int) := by omega
        have y5 : (0 : Int) ≤ (N.loc.log.length : Int) := by omega
        have s1 := fun W (hW : Below w7.heap.size w7 W) => sameMsg_any (.slice ca N.acc.length cc) (.slice aa N.acc.length ac) (M.acc.take N.acc.length) N.acc W (src_takeN (n := N.acc.length) (hRc7.src.below hW) pl1) (hRa7.src.below hW) (by have := hbM.out; simp; omega) (by have := hbN.out; omega)
        have s2 := fun W (hW : Below w7.heap.size w7 W) => sameMsg_any (.slice da N.loc.log.length dc) (.slice ba N.loc.log.length bc) (M.loc.log.take N.loc.log.length) N.loc.log W (src_takeN (n := N.loc.log.length) (hRd.src.below hW) pl2) (hRb7.src.below hW) (by have := hbM.out; have := hLM.out; simp; omega) (by have := hbN.out; have := hLN.out; omega)
        rw [show decide (M.acc.take N.acc.length = N.acc) = true by simpa using p1.out.symm] at s1
        rw [show decide (M.loc.log.take N.loc.log.length = N.loc.log) = true by simpa using p2.out.symm] at s2
        replace s1 : Hid (∀ _ _, _) := s1
        replace s2 : Hid (∀ _ _, _) := s2
        replace h7 : Hid (OneN _ _ _ _ _) := h7
        clear hRa5 hRb5 hRc hRd hRa7 hRb7 hRc7 ql qg qa h5 h6
        go_wp2_with fail
        refine (s1.out _ (Below.refl _ _)).mono ?_
        rintro r w8 ⟨rfl, hb8⟩
        go_wp2_with fail
        refine (s2.out _ hb8).mono ?_
        rintro r w9 ⟨rfl, hb9⟩
        have h9 := h7.out.below (pb_trans hb8 hb9)
        go_wp2
        go_roundw
        case rel => exact ⟨k + 1, by simp, by omega, by omega, hgo.out _ h9⟩
        case measure => simp [intOf]; omega
      · have hend : (k < es.length ∧ ¬ k < 60) ∨ ¬ k < es.length := by omega
        replace hnk : Hid (OneN _ _ _ _ _) := hnk
        rcases hend with ⟨q1, q2⟩ | q1
        · have t1 : decide ((k : Int) < (es.length : Int)) = true := by simpa using q1
          have t2 : decide ((k : Int) < 60) = false := by simp; omega
          go_wp2
          go_ret
          exact ⟨rfl, hbw⟩
        · have t1 : decide ((k : Int) < (es.length : Int)) = false := by simpa using q1
          go_wp2
          go_ret
          exact ⟨rfl, hbw⟩
end Go.Proofs.YtaopeioebpfdeaaGreatDoor
namespace Go.Proofs.YtaopeioebpfdeaaGreatDoor.nodeTold
open Go Go.RowKit Go.ChangeShapes Go.WideShapes Go.ChangeAt

set_option maxRecDepth 100000 in
theorem contract (H : Type) (enc : TypeId × Value → H) (W : World) (base : Nat) (args : Array Value) (ds gs : List (DataW H)) (before : List MemPlace)
    (hval : ∀ (j : Nat) t v, Tryz.f6.params[j]? = some t → args[j]? = some v → Value.okWide Tryz.prog W .any base t v)
    (hW : DataW.Whole enc Tryz.prog Tryz.f6.params.toList Rows.nodeToldSpec.vars false W args.toList ds gs before) (hL : laidMetH Tryz.prog Rows.nodeToldRow.laid W) :
    Calls Tryz.prog 6 args W fun e W' => ∃ v, e = .returned v ∧ Rows.nodeToldSpec.post enc Tryz.prog Tryz.f6 false true false false W args v W' := by
  obtain ⟨a, he⟩ := err_of_laid hL
  have hW' := hW
  obtain ⟨p, q, hA0, hV, rfl, _, _⟩ := hW
  have hA : DataW.TrodAll enc Tryz.prog W 0 (fun _ => true) true Tryz.f6.params.toList args.toList ds p := hA0
  rw [Tryz.params6] at hA hval
  obtain ⟨v0, vs0, d0, ds0, p0, q0, hargs, rfl, rfl, h0, r0⟩ := trodAll_cons hA
  obtain ⟨v1, vs1, d1, ds1, p1, q1, rfl, rfl, rfl, h1, r1⟩ := trodAll_cons r0
  obtain ⟨rfl, rfl, rfl⟩ := trodAll_nil r1
  obtain rfl : args = #[v0, v1] := by cases args; simp_all
  obtain ⟨rfl, rfl⟩ := trodVars_none hV
  obtain ⟨x, rfl, _, _, _⟩ := open_int Tryz.underlying3 (hval 0 3 v0 rfl rfl) h0
  obtain ⟨l, hm1, hok1, hl1⟩ := open_acts17V (hval 1 52 v1 rfl rfl) h1
  have walk := nodeTold_true a x v1 l W he hm1 hok1 hl1
  clear hA0
  refine walk.mono fun e W' ⟨he, hg⟩ => ?_
  subst he
  exact ⟨_, rfl, law_post laidOut (by kernel_rfl) (by kernel_rfl) rfl Tryz.underlying4 rfl hW' hg⟩

theorem reads (os : Os) {H : Type} (enc : TypeId × Value → H) : ∃ places, DataW.whole enc Tryz.prog ((laidWorld os).forCall (fun _ _ => 0) ⟨#[], #[.int .i64 0, .slice none 0 0], []⟩).memory Tryz.f6.params.toList Rows.nodeToldSpec.vars false (#[.int .i64 0, .slice none 0 0] : Array Value).toList 8 = some ([.lit (.int .i64 0), .nil], [], places) :=
  ⟨[], by kernel_rfl⟩

set_option maxRecDepth 100000 in
theorem lifted (os : Os) (started : os.Started) (H : Type) (enc : TypeId × Value → H) (F : Stop.Interp) :
    ReturnsInHanded {} Tryz.checked os 6 .any ((OpenSpec.ofChange Rows.nodeToldSpec).preRow enc Tryz.prog Tryz.f6 Rows.nodeToldRow.domain false Rows.nodeToldRow.laid) (((OpenSpec.ofChange Rows.nodeToldSpec).at F).post enc Tryz.prog Tryz.f6 false true false false) := by
  obtain ⟨places, hx⟩ := reads os enc
  refine returnsInHanded_of_row (C := Tryz.checked) (s := OpenSpec.ofChange Rows.nodeToldSpec) own started (by kernel_rfl) Tryz.func6
    (witness_row_atRef (enc := enc) (C := Tryz.checked) false (laidWorld os) #[.int .i64 0, .slice none 0 0] rfl (by kernel_rfl) (by kernel_rfl) (by kernel_rfl)
      (OpenSpec.preRow_of_cond 8 hx (by kernel_rfl) (fun k hk => by cases hk) (by kernel_rfl) (laid_met os _))) ?_
  intro W base args ds gs before hval hW _ _ _ hL _ _
  exact contract H enc W base args ds gs before hval hW hL

theorem said : Rows.NodeToldSaid :=
  OpenClaim.holds_of_cond 6 Tryz.f6 rfl rfl rfl rfl rfl rfl rfl ⟨rfl, rfl, rfl, rfl, rfl⟩ rfl rfl rfl rfl rfl (by kernel_rfl) Tryz.func6 (by kernel_rfl)
    (of_decide_eq_true (by kernel_rfl)) (by unfold Func.isWrapper; first | (rw [if_pos (by decide +kernel)]; kernel_rfl) | (rw [if_neg (by decide +kernel)]; exact ⟨rfl, rfl⟩))
    (fun os started H enc _ F => by rw [OpenClaim.pre_eq_preRow]; exact lifted os started H enc F)

theorem plain (f : FuncId) (fn : Func) (hf : Tryz.pinned.checked.prog.funcNamed "rostrum/rostrumlaw17.NodeTold" = some f) (hfn : Tryz.pinned.checked.prog.funcs[f]? = some fn) :
    true = Tryz.pinned.checked.prog.looks [] ∧ ∀ (j : Nat) t, fn.params[j]? = some t → Tryz.pinned.checked.prog.wantsStandIn t = false := by
  obtain rfl : f = 6 := Option.some.inj ((show Tryz.prog.funcNamed "rostrum/rostrumlaw17.NodeTold" = some 6 by kernel_rfl).symm.trans hf) |>.symm
  obtain rfl : fn = Tryz.f6 := (Option.some.inj (Tryz.func6.symm.trans hfn)).symm
  refine ⟨by kernel_rfl, fun j t ht => ?_⟩
  rw [Tryz.params6] at ht
  have : t = 3 ∨ t = 52 := by
    match j, ht with
    | 0, h => exact .inl (by simpa using h.symm)
    | 1, h => exact .inr (by simpa using h.symm)
    | n + 2, h => simp at h
  rcases this with rfl | rfl
  · exact (show Tryz.prog.wantsStandIn 3 = false by kernel_rfl)
  · exact (show Tryz.prog.wantsStandIn 52 = false by kernel_rfl)

theorem card : Rows.NodeToldCardSaid :=
  Claim7.holds_tied_plain_at .later [] _ _ _ _ said (fun _ h => by cases h) (by kernel_rfl) (fun _ h => by cases h) nodeTold_row_tie rfl ⟨rfl, rfl⟩ (by kernel_rfl) rfl plain (by kernel_rfl)
end Go.Proofs.YtaopeioebpfdeaaGreatDoor.nodeTold
