/- PROVED HERE: rostrumlaw17.NodeVotes returns true for every input, and its arguments read afterwards as they did; the listed variable holds what the program's text lays (the card ties it). No further condition. -/
import Derived.Test.YtaopeioebpfdeaaGreatDoorK03
import Derived.Test.YtaopeioebpfdeaaGreatDoorK08
import Derived.Test.YtaopeioebpfdeaaGreatDoorK43
namespace Go.Proofs.YtaopeioebpfdeaaGreatDoor
open Go Go.RowKit Go.Shelf Go.Extern.Stop Go.Stop Go.Extern
attribute [local go_sem] Oper.semAt_some wide_fn wide_depth

set_option maxRecDepth 8000 in
set_option maxHeartbeats 4000000 in
theorem nodeVotes_true (a : Addr) (lv : Value) (es : List ActD) (b less : Nat) (hb64 : b < 18446744073709551616) (hl64 : less < 18446744073709551616) (w : World) (he : ErrAt w a) (hes : ElemsIn w lv 4 actCells es) (hall : ∀ x ∈ es, x.b < 18446744073709551616) (_hel : es.length ≤ 9223372036854775807) :
    Calls Tryz.prog 4 #[lv, .int .u64 (b : Nat), .int .u64 (less : Nat)] w fun r w' => r = .returned (.bool true) ∧ Below w.heap.size w w' := by
  obtain ⟨ea, ec, rfl, hcs⟩ := hes.shape (by omega) (fun y => ⟨_, rfl⟩)
  have heW := fun W (hW : Below w.heap.size w W) => he.below hW he.lt
  have hnew := fun W (hW : Below w.heap.size w W) => nNew_any a 1 1 1048576 (by omega) (by omega) (by decide) (by omega) (by omega) [1] (fun _ => []) W (he.below hW he.lt)
  obtain ⟨n0, hn0⟩ : ∃ n0, n0 = newN 1 1 1048576 [] (stBegin 1) := ⟨_, rfl⟩
  have g0 : NodeG 1 n0 := by rw [hn0]; exact NodeG.new (by omega) (by omega)
  have g1 := g0.promise 3 b hb64
  have hvl := fun (hp : (promiseN n0 3 b).2.2 = 0) (hl : less < b) xs hx => votes_law (s := stBegin 1) (by rw [hn0]; exact newN_inv _ _ _ _ _ : NInv (stBegin 1) n0 []) (i := 3) hb64 hp hl (Nat.zero_le _) xs hx [118]
  obtain ⟨⟨n1, ⟨vp, vb, vx⟩, e1⟩, hq1⟩ : ∃ q, promiseN n0 3 b = q := ⟨_, rfl⟩
  rw [hq1] at g1 hvl
  simp only at g1 hvl
  replace heW : Hid (∀ _, _) := heW
  replace hnew : Hid (∀ _ _, _) := hnew
  replace hcs : Hid (∀ _, _) := hcs
  replace hall : Hid (∀ _, _) := hall
  replace he : Hid (ErrAt _ _) := he
  replace g0 : Hid (NodeG _ _) := g0
  replace g1 : Hid (NodeG _ _) := g1
  replace hn0 : Hid (_ = _) := hn0
  replace hq1 : Hid (_ = _) := hq1
  replace hvl : Hid (_ → _) := hvl
  clear hes
  go_enter Tryz.func4, Tryz.ntmps4
  go_wp2_with fail
  refine (shown17_any a _ (heW.out _ (by (repeat (first | exact Below.refl _ _ | with_reducible assumption | refine pb_alloc ?_ _ | refine pb_drew ?_ | refine pb_drewN ?_ _ | refine pb_set ?_ (by simp; try omega) _ | refine pb_trans ?_ (by with_reducible assumption)))))).mono ?_
  rintro r w1 ⟨rfl, hb1⟩
  go_wp2_with fail
  refine (hnew.out _ hb1).mono ?_
  rintro r w2 ⟨B, ow2, rfl, hs2, hb2, hF2, -⟩
  rw [← hn0.out] at hF2
  have h2 : OneN w (fun _ => False) B n0 w2 := (OneN.new hb1 hs2 hF2).mono (fun k h => h.elim)
  clear hs2 hF2
  have q2 := h2.promise he.out g0.out 3 b hb64 (Below.refl _ _)
  rw [hq1.out] at q2
  replace h2 : Hid (OneN _ _ _ _ _) := h2
  replace q2 : Hid (Calls _ _ _ _ _) := q2
  unfold voteE voteV at q2
  simp only at q2
  go_wp2_with fail
  refine q2.out.mono ?_
  rintro r w3 ⟨rfl, h3, -⟩
  replace h3 : OneN w (fun _ => False) B n1 w3 := h3.mono (fun k h => h.elim)
  have hb3 := h3.bel
  have h4 := h3.below (pb_alloc (Below.refl _ _) (.cells #[.int .u64 (vp : Nat), .int .u64 (vb : Nat), .string (bs vx)] 39))
  replace h3 : Hid (OneN _ _ _ _ _) := h3
  replace h4 : Hid (OneN _ _ _ _ _) := h4
  clear q2 h2
  by_cases he1 : e1 = 0
  · subst he1
    by_cases hlt : b ≤ less
    · have t1 : decide ((b : Int) ≤ (less : Int)) = true := by simp; omega
      go_wp2
      go_ret
      exact ⟨rfl, by (repeat (first | exact Below.refl _ _ | with_reducible assumption | refine pb_alloc ?_ _ | refine pb_drew ?_ | refine pb_drewN ?_ _ | refine pb_set ?_ (by simp; try omega) _ | refine pb_trans ?_ (by with_reducible assumption)))⟩
    · have t1 : decide ((b : Int) ≤ (less : Int)) = false := by simp; omega
      go_wp2
      go_loopw [12] (fun p12 wr => ∃ k : Nat, p12 = .int .i64 (k : Nat) ∧ k ≤ es.length ∧ k ≤ 60 ∧ OneN w (fun _ => False) B (runN (stBegin 1) n1 (es.take k)) wr) (fun p12 _ => 60 - (intOf p12).toNat)
      case atStart => exact ⟨0, rfl, Nat.zero_le _, Nat.zero_le _, h4.out⟩
      case round =>
        obtain ⟨k, rfl, hk1, hk2, hnk⟩ := hrel
        have hbw : Below w.heap.size w wr := hnk.bel
        replace hnk : Hid (OneN _ _ _ _ _) := hnk
        clear h4
        by_cases hlt : k < es.length ∧ k < 60
        · obtain ⟨hlt, hlt2⟩ := hlt
          have hv1 : known 1 = true := by decide
          obtain ⟨x, hx⟩ : ∃ x, es[k]? = some x := ⟨_, List.getElem?_eq_getElem hlt⟩
          obtain ⟨lb, off, rfl, hcx⟩ := hcs.out k x hx
          obtain ⟨c0, c1, c2, c3⟩ := act_cells hbw hcx
          have hxb := hall.out x (List.mem_of_getElem? hx)
          have hrt := runN_take (s := stBegin 1) (n := n1) hx
          have gk := g1.out.run (es.take k) (fun y hy => hall.out y (List.mem_of_mem_take hy))
          have hdo := does17_any he.out hv1 hnk.out gk (Below.refl _ _) x hxb
          rw [← hrt] at hdo
          unfold actV at hdo
          have t1 : decide ((k : Int) < (es.length : Int)) = true := by simpa using hlt
          have t2 : decide ((k : Int) < 60) = true := by simp; omega
          have y0 : (k : Int) < (es.length : Int) := by omega
          have y1 : (0 : Int) ≤ (k : Int) := by omega
          have hwk : IntKind.i64.wrap ((k : Int) + 1) = (k : Int) + 1 := by rw [IntKind.wrap_i64]; omega
          replace hdo : Hid (Calls _ _ _ _ _) := hdo
          replace hrt : Hid (_ = _) := hrt
          replace hx : Hid (_ = _) := hx
          replace hcx : Hid (∀ _ _, _) := hcx
          replace gk : Hid (NodeG _ _) := gk
          go_wp2_with fail
          refine hdo.out.mono ?_
          rintro r w5 ⟨rfl, h5, -⟩
          go_wp2
          go_roundw
          case rel => exact ⟨k + 1, by simp, by omega, by omega, h5.mono (fun k h => h.elim)⟩
          case measure => simp [intOf]; omega
        · have hend : (k < es.length ∧ ¬ k < 60) ∨ ¬ k < es.length := by omega
          have hxs := fun y (hy : y ∈ es.take k) => hall.out y (List.mem_of_mem_take hy)
          have gk := g1.out.run (es.take k) hxs
          have gr := gk.recover
          obtain ⟨p1, p2, p3⟩ := hvl.out (by trivial) (by omega) (es.take k) hxs
          have qr := hnk.out.recover he.out gk (by decide) (Below.refl _ _)
          obtain ⟨N, hN⟩ : ∃ N, N = recoverN (runN (stBegin 1) n1 (es.take k)) (stBegin 1) := ⟨_, rfl⟩
          rw [← hN] at p1 p2 p3 gr qr
          have qp := fun W (h : OneN w (fun _ => False) B N W) => h.promise he.out gr 3 less hl64 (Below.refl _ _)
          have qc := fun W (h : OneN w (fun _ => False) B N W) => h.cast he.out gr 3 less hl64 [118] (by simp) (Below.refl _ _)
          obtain ⟨⟨M, ⟨vp2, vb2, vx2⟩, e2⟩, hM⟩ : ∃ q, promiseN N 3 less = q := ⟨_, rfl⟩
          rw [hM] at p1 p2 qp
          obtain ⟨⟨M3, e3⟩, hM3⟩ : ∃ q, castN N 3 less [118] = q := ⟨_, rfl⟩
          rw [hM3] at p3 qc
          unfold voteE voteV at qp
          simp only at p1 p2 p3 qp qc
          subst p2
          have z1 : (e2 != 0) = true := by simpa using p1
          have z2 : (e3 != 0) = true := by simpa using p3
          replace p1 : Hid (_ → _) := p1
          replace p3 : Hid (_ → _) := p3
          replace qr : Hid (Calls _ _ _ _ _) := qr
          replace qp : Hid (∀ _ _, _) := qp
          replace qc : Hid (∀ _ _, _) := qc
          replace hM : Hid (_ = _) := hM
          replace hM3 : Hid (_ = _) := hM3
          replace hN : Hid (_ = _) := hN
          replace gr : Hid (NodeG _ _) := gr
          replace gk : Hid (NodeG _ _) := gk
          replace hxs : Hid (∀ _ _, _) := hxs
          rcases hend with ⟨q1, q2⟩ | q1
          · have t1 : decide ((k : Int) < (es.length : Int)) = true := by simpa using q1
            have t2 : decide ((k : Int) < 60) = false := by simp; omega
            go_wp2_with fail
            refine qr.out.mono ?_
            rintro r w5 ⟨rfl, h5, -⟩
            replace h5 : OneN w (fun _ => False) B M w5 := h5.mono (fun k h => h.elim)
            go_wp2_with fail
            refine (qp.out _ h5).mono ?_
            rintro r w6 ⟨rfl, h6, -⟩
            have h7 : OneN w (fun _ => False) B M (w6.alloc (.cells #[.int .u64 (vp2 : Nat), .int .u64 (vb2 : Nat), .string (bs vx2)] 39)) := (h6.mono (fun k h => h.elim)).below (pb_alloc (Below.refl _ _) _)
            go_wp2_with fail
            refine (qc.out _ h7).mono ?_
            rintro r w8 ⟨rfl, h8, -⟩
            have hb8 := h8.bel
            go_wp2
            go_ret
            exact ⟨rfl, hb8⟩
          · have t1 : decide ((k : Int) < (es.length : Int)) = false := by simpa using q1
            go_wp2_with fail
            refine qr.out.mono ?_
            rintro r w5 ⟨rfl, h5, -⟩
            replace h5 : OneN w (fun _ => False) B M w5 := h5.mono (fun k h => h.elim)
            go_wp2_with fail
            refine (qp.out _ h5).mono ?_
            rintro r w6 ⟨rfl, h6, -⟩
            have h7 : OneN w (fun _ => False) B M (w6.alloc (.cells #[.int .u64 (vp2 : Nat), .int .u64 (vb2 : Nat), .string (bs vx2)] 39)) := (h6.mono (fun k h => h.elim)).below (pb_alloc (Below.refl _ _) _)
            go_wp2_with fail
            refine (qc.out _ h7).mono ?_
            rintro r w8 ⟨rfl, h8, -⟩
            have hb8 := h8.bel
            go_wp2
            go_ret
            exact ⟨rfl, hb8⟩
  · have t1 : (e1 != 0) = true := by simpa using he1
    go_wp2
    go_ret
    exact ⟨rfl, by (repeat (first | exact Below.refl _ _ | with_reducible assumption | refine pb_alloc ?_ _ | refine pb_drew ?_ | refine pb_drewN ?_ _ | refine pb_set ?_ (by simp; try omega) _ | refine pb_trans ?_ (by with_reducible assumption)))⟩
end Go.Proofs.YtaopeioebpfdeaaGreatDoor
namespace Go.Proofs.YtaopeioebpfdeaaGreatDoor.nodeVotes
open Go Go.RowKit Go.ChangeShapes Go.WideShapes Go.ChangeAt

set_option maxRecDepth 100000 in
theorem contract (H : Type) (enc : TypeId × Value → H) (W : World) (base : Nat) (args : Array Value) (ds gs : List (DataW H)) (before : List MemPlace)
    (hval : ∀ (j : Nat) t v, Tryz.f4.params[j]? = some t → args[j]? = some v → Value.okWide Tryz.prog W .any base t v)
    (hW : DataW.Whole enc Tryz.prog Tryz.f4.params.toList Rows.nodeVotesSpec.vars false W args.toList ds gs before) (hL : laidMetH Tryz.prog Rows.nodeVotesRow.laid W) :
    Calls Tryz.prog 4 args W fun e W' => ∃ v, e = .returned v ∧ Rows.nodeVotesSpec.post enc Tryz.prog Tryz.f4 false true false false W args v W' := by
  obtain ⟨a, he⟩ := err_of_laid hL
  have hW' := hW
  obtain ⟨p, q, hA0, hV, rfl, _, _⟩ := hW
  have hA : DataW.TrodAll enc Tryz.prog W 0 (fun _ => true) true Tryz.f4.params.toList args.toList ds p := hA0
  rw [Tryz.params4] at hA hval
  obtain ⟨v0, vs0, d0, ds0, p0, q0, hargs, rfl, rfl, h0, r0⟩ := trodAll_cons hA
  obtain ⟨v1, vs1, d1, ds1, p1, q1, rfl, rfl, rfl, h1, r1⟩ := trodAll_cons r0
  obtain ⟨v2, vs2, d2, ds2, p2, q2, rfl, rfl, rfl, h2, r2⟩ := trodAll_cons r1
  obtain ⟨rfl, rfl, rfl⟩ := trodAll_nil r2
  obtain rfl : args = #[v0, v1, v2] := by cases args; simp_all
  obtain ⟨rfl, rfl⟩ := trodVars_none hV
  obtain ⟨l, hm0, hok0, hl0⟩ := open_acts17V (hval 0 52 v0 rfl rfl) h0
  obtain ⟨b, rfl, hx1⟩ := open_ballotV (hval 1 22 v1 rfl rfl) h1
  obtain ⟨c, rfl, hx2⟩ := open_ballotV (hval 2 22 v2 rfl rfl) h2
  have walk := nodeVotes_true a v0 l b c hx1 hx2 W he hm0 hok0 hl0
  clear hA0
  refine walk.mono fun e W' ⟨he, hg⟩ => ?_
  subst he
  exact ⟨_, rfl, law_post laidOut (by kernel_rfl) (by kernel_rfl) rfl Tryz.underlying4 rfl hW' hg⟩

theorem reads (os : Os) {H : Type} (enc : TypeId × Value → H) : ∃ places, DataW.whole enc Tryz.prog ((laidWorld os).forCall (fun _ _ => 0) ⟨#[], #[.slice none 0 0, .int .u64 0, .int .u64 0], []⟩).memory Tryz.f4.params.toList Rows.nodeVotesSpec.vars false (#[.slice none 0 0, .int .u64 0, .int .u64 0] : Array Value).toList 8 = some ([.nil, .lit (.int .u64 0), .lit (.int .u64 0)], [], places) :=
  ⟨[], by kernel_rfl⟩

set_option maxRecDepth 100000 in
theorem lifted (os : Os) (started : os.Started) (H : Type) (enc : TypeId × Value → H) (F : Stop.Interp) :
    ReturnsInHanded {} Tryz.checked os 4 .any ((OpenSpec.ofChange Rows.nodeVotesSpec).preRow enc Tryz.prog Tryz.f4 Rows.nodeVotesRow.domain false Rows.nodeVotesRow.laid) (((OpenSpec.ofChange Rows.nodeVotesSpec).at F).post enc Tryz.prog Tryz.f4 false true false false) := by
  obtain ⟨places, hx⟩ := reads os enc
  refine returnsInHanded_of_row (C := Tryz.checked) (s := OpenSpec.ofChange Rows.nodeVotesSpec) own started (by kernel_rfl) Tryz.func4
    (witness_row_atRef (enc := enc) (C := Tryz.checked) false (laidWorld os) #[.slice none 0 0, .int .u64 0, .int .u64 0] rfl (by kernel_rfl) (by kernel_rfl) (by kernel_rfl)
      (OpenSpec.preRow_of_cond 8 hx (by kernel_rfl) (fun k hk => by cases hk) (by kernel_rfl) (laid_met os _))) ?_
  intro W base args ds gs before hval hW _ _ _ hL _ _
  exact contract H enc W base args ds gs before hval hW hL

theorem said : Rows.NodeVotesSaid :=
  OpenClaim.holds_of_cond 4 Tryz.f4 rfl rfl rfl rfl rfl rfl rfl ⟨rfl, rfl, rfl, rfl, rfl⟩ rfl rfl rfl rfl rfl (by kernel_rfl) Tryz.func4 (by kernel_rfl)
    (of_decide_eq_true (by kernel_rfl)) (by unfold Func.isWrapper; first | (rw [if_pos (by decide +kernel)]; kernel_rfl) | (rw [if_neg (by decide +kernel)]; exact ⟨rfl, rfl⟩))
    (fun os started H enc _ F => by rw [OpenClaim.pre_eq_preRow]; exact lifted os started H enc F)

theorem plain (f : FuncId) (fn : Func) (hf : Tryz.pinned.checked.prog.funcNamed "rostrum/rostrumlaw17.NodeVotes" = some f) (hfn : Tryz.pinned.checked.prog.funcs[f]? = some fn) :
    true = Tryz.pinned.checked.prog.looks [] ∧ ∀ (j : Nat) t, fn.params[j]? = some t → Tryz.pinned.checked.prog.wantsStandIn t = false := by
  obtain rfl : f = 4 := Option.some.inj ((show Tryz.prog.funcNamed "rostrum/rostrumlaw17.NodeVotes" = some 4 by kernel_rfl).symm.trans hf) |>.symm
  obtain rfl : fn = Tryz.f4 := (Option.some.inj (Tryz.func4.symm.trans hfn)).symm
  refine ⟨by kernel_rfl, fun j t ht => ?_⟩
  rw [Tryz.params4] at ht
  have : t = 52 ∨ t = 22 := by
    match j, ht with
    | 0, h => exact .inl (by simpa using h.symm)
    | 1, h => exact .inr (by simpa using h.symm)
    | 2, h => exact .inr (by simpa using h.symm)
    | n + 3, h => simp at h
  rcases this with rfl | rfl
  · exact (show Tryz.prog.wantsStandIn 52 = false by kernel_rfl)
  · exact (show Tryz.prog.wantsStandIn 22 = false by kernel_rfl)

theorem card : Rows.NodeVotesCardSaid :=
  Claim7.holds_tied_plain_at .later [] _ _ _ _ said (fun _ h => by cases h) (by kernel_rfl) (fun _ h => by cases h) nodeVotes_row_tie rfl ⟨rfl, rfl⟩ (by kernel_rfl) rfl plain (by kernel_rfl)
end Go.Proofs.YtaopeioebpfdeaaGreatDoor.nodeVotes
