/- WALK: the statement EpochStale answers true. Condition: the entries came in as arguments do. -/
import Derived.Test.YtlfledeldhhllaaFold1
namespace Go.Proofs.Ytlfledeldhhllaa
open Go Go.RowKit Go.Shelf Go.Extern.Stop Go.Stop Go.Extern
attribute [local go_sem] Oper.semAt_some wide_fn wide_depth

set_option maxRecDepth 8000 in
set_option maxHeartbeats 2000000 in
theorem epochStale_true (v : Int) (lv : Value) (es : List (EntryD × Value)) (e : EntryD) (mv : Value) (w : World) (hes : EntsIn w lv es) (hlen : es.length ≤ 9223372036854775807) (hm : MsgsIn w mv e.msgs) (hok : MsgsOk e.msgs) : Calls Try.prog 7 #[.int .i64 v, lv, entV e mv] w fun r w' => r = .returned (.bool true) ∧ Below w.heap.size w w' := by
  obtain ⟨a, cap, rfl, hcs⟩ := hes.shape
  have hall := hes.2
  clear hes
  have hcutE := fun W (hW : Below w.heap.size w W) => cut_any e mv W (hm.below hW) hok
  clear hm hok
  unfold entV at hcutE ⊢
  replace hcutE : Hid (∀ _, _) := hcutE
  replace hcs : Hid (∀ _, _) := hcs
  replace hall : Hid (∀ _, _) := hall
  cases hk : known v
  · have hnew := fun W => fnew_no v hk W
    replace hnew : Hid (∀ _, _) := hnew
    go_enter Try.func7, Try.ntmps7
    go_wp2_with (first
      | (go_at_call 8; refine (shown_any _).mono ?_; rintro r w1 ⟨rfl, hb1⟩))
    refine (hnew.out _).mono ?_
    rintro r w2 ⟨rfl, hb2⟩
    go_wp2
    go_ret
    exact ⟨rfl, pb_trans (pb_trans (pb_alloc (Below.refl _ _) _) hb1) hb2⟩
  · go_enter Try.func7, Try.ntmps7
    go_wp2_with (first
      | (go_at_call 8; refine (shown_any _).mono ?_; rintro r w1 ⟨rfl, hb1⟩))
    have kb : Blk w1 w.heap.size #[.int .i64 e.kind, .int .u32 e.epoch, .int .i64 e.ver, mv] 33 := Blk.call (Blk.new rfl) hb1
    have hbox : Below w.heap.size w w1 := pb_trans (pb_alloc (Below.refl _ _) _) hb1
    have hz1 : w.heap.size < w1.heap.size := kb.lt
    refine (fnew_any v hk [1] (fun _ => []) _).mono ?_
    rintro r w2 ⟨Bf, ow2, rfl, hs2, -, hF2⟩
    have hone : OneAt w1 Bf (newFold v) w2 := OneAt.new (Below.refl _ _) hs2 hF2
    clear hs2 hF2 hb1
    replace kb : Hid (Blk _ _ _ _) := kb
    replace hone : Hid (OneAt _ _ _ _) := hone
    go_wp2
    go_loopw [10] (fun p12 wr => ∃ k : Nat, p12 = .int .i64 k ∧ k ≤ es.length ∧ k ≤ 60 ∧ OneAt w1 Bf (runP (newFold v) (ens1 es k)) wr) (fun p12 _ => 60 - (intOf p12).toNat)
    case atStart => exact ⟨0, rfl, Nat.zero_le _, Nat.zero_le _, hone.out⟩
    case round =>
      obtain ⟨k, rfl, hk1, hk2, htw⟩ := hrel
      clear hone
      have hbw1 : Below w1.heap.size w1 wr := htw.choose_spec.1
      have hbw : Below w.heap.size w wr := pb_trans hbox hbw1
      replace htw : Hid (OneAt _ _ _ _) := htw
      have hB := run_b (newFold_b v) (ens1 es k)
      have hl1 := ens1_len es k
      by_cases hlt : k < es.length ∧ k < 60
      · obtain ⟨hlt, hlt2⟩ := hlt
        obtain ⟨p, hp⟩ : ∃ p, es[k]? = some p := ⟨_, List.getElem?_eq_getElem hlt⟩
        obtain ⟨b, off, rfl, hc⟩ := hcs.out k p hp
        have hmem := hall.out p (List.mem_of_getElem? hp)
        obtain ⟨c0, c1, c2, c3⟩ := EntsIn.cells4 (es := es) hc hbw
        have hcut := cut_any p.1 p.2 wr (hmem.1.below hbw) hmem.2
        have hsucc := ens1_succ hp
        clear hc hp hmem
        unfold entV at hcut
        replace hcut : Hid (Calls _ _ _ _ _) := hcut
        replace hsucc : Hid (_ = _) := hsucc
        replace hB : Hid (FoldB _ _) := hB
        go_wp2_with fail
        refine hcut.out.mono ?_
        rintro r w4 ⟨mv4, rfl, hR4, hb4, hf4⟩
        replace hf4 : Hid (∀ _, _) := hf4
        go_wp2_with fail
        refine (htw.out.apply hb4 hR4 hf4.out hB.out (by omega)).mono ?_
        rintro r w5 ⟨vr, rfl, htw5, -⟩
        replace htw5 : Hid (OneAt _ _ _ _) := htw5
        clear c0 c1 c2 c3
        go_wp2
        go_roundw
        case rel => exact ⟨k + 1, by go_num, by omega, by omega, by rw [hsucc.out, runP_snoc]; exact htw5.out⟩
        case measure => simp [intOf]; omega
      · have hend : (k < es.length ∧ ¬ k < 60) ∨ ¬ k < es.length := by omega
        generalize runP (newFold v) (ens1 es k) = ff at *
        have hla : ff.book.log.length ≤ 10000 := by have := hB.few; unfold bookN at this; omega
        have hlc : ff.eras.length ≤ 10000 := by have := hB.eras; omega
        have hne : 0 < ff.eras.length := List.length_pos_iff.2 htw.out.choose_spec.2.2.1
        obtain ⟨m, hm⟩ : ∃ m, ff.eras.length = m + 1 := ⟨ff.eras.length - 1, by omega⟩
        obtain ⟨c, hcc⟩ : ∃ c : Nat, ff.count = c := ⟨ff.count.toNat, by have := hB.low; omega⟩
        have hc60 : c ≤ 60 := by have := hB.high; omega
        replace hB : Hid (FoldB _ _) := hB
        replace hcc : Hid (_ = _) := hcc
        rcases hend with ⟨q1, q2⟩ | q1
        · go_wp2_with fail
          refine (htw.out.eras (by omega)).mono ?_
          rintro r w4 ⟨vc, rfl, hRc, hb4, hfc⟩
          go_wp2_with fail
          refine ((htw.out.below hb4).log (by omega)).mono ?_
          rintro r w5 ⟨va, rfl, hRa, hb5, hfa⟩
          have ho5 := (htw.out.below hb4).below hb5
          replace ho5 : Hid (OneAt _ _ _ _) := ho5
          replace hfa : Hid (∀ _, _) := hfa
          replace hfc : Hid (∀ _, _) := hfc
          go_wp2_with fail
          refine (ho5.out.countV hcc.out).mono ?_
          rintro r w6 ⟨rfl, rfl⟩
          have kb5 := ((kb.out.below hbw1 kb.out.lt).call hb4).call hb5
          have hbw5 : Below w.heap.size w w6 := pb_trans (pb_trans hbw hb4) hb5
          have eb5 := kb5.cell
          have fb5 := kb5.frozen
          have lb5 := kb5.lt
          replace kb5 : Hid (Blk _ _ _ _) := kb5
          go_wp2_with fail
          refine (hcutE.out _ hbw5).mono ?_
          rintro r w7 ⟨mv7, rfl, hR7, hb7, hf7⟩
          have kb7 := kb5.out.call hb7
          have eb7 := kb7.cell
          have fb7 := kb7.frozen
          have lb7 := kb7.lt
          replace kb7 : Hid (Blk _ _ _ _) := kb7
          replace hf7 : Hid (∀ _, _) := hf7
          clear eb5 fb5 lb5
          unfold entV
          obtain ⟨sa, sc, rfl⟩ := hR7.src.shape
          go_wp2_with fail
          have hmc := hR7.src
          have kb8 := (((kb7.out.set (o := 0) (.int .i64 (cutE e).kind)).set (o := 1) (.int .u32 (cutE e).epoch)).set (o := 2) (.int .i64 (cutE e).ver)).set (o := 3) (.slice sa (cutE e).msgs.length sc)
          obtain ⟨W8, hW8⟩ : ∃ W8, W8 = (((w7.setCell ⟨w.heap.size, 0, none⟩ (.int .i64 (cutE e).kind)).setCell ⟨w.heap.size, 1, none⟩ (.int .u32 (cutE e).epoch)).setCell ⟨w.heap.size, 2, none⟩ (.int .i64 (cutE e).ver)).setCell ⟨w.heap.size, 3, none⟩ (.slice sa (cutE e).msgs.length sc) := ⟨_, rfl⟩
          rw [← hW8] at kb8 ⊢
          have hot : ∀ j, j ≠ w.heap.size → W8.heap[j]? = w7.heap[j]? := fun j hj => by
            rw [hW8, Below.heap_setCell _ _ _ _ hj, Below.heap_setCell _ _ _ _ hj, Below.heap_setCell _ _ _ _ hj, Below.heap_setCell _ _ _ _ hj]
          have hb8 : Below w.heap.size w W8 := by rw [hW8]; exact pb_set (pb_set (pb_set (pb_set (pb_trans hbw5 hb7) (Nat.le_refl _) _) (Nat.le_refl _) _) (Nat.le_refl _) _) (Nat.le_refl _) _
          have hz8 : W8.heap.size = w7.heap.size := by rw [hW8]; simp
          clear hW8
          have kb8' : Blk W8 w.heap.size #[.int .i64 (cutE e).kind, .int .u32 (cutE e).epoch, .int .i64 (cutE e).ver, .slice sa (cutE e).msgs.length sc] 33 := kb8
          have z1 := hbw1.size
          have z4 := hb4.size
          have z5 := hb5.size
          have z7 := hb7.size
          have rA := (hRa.below hb7).kept (w' := W8) (fun g hg => hot g (by have := hfa.out g hg; omega))
          have rC := ((hRc.below hb5).below hb7).kept (w' := W8) (fun g hg => hot g (by have := hfc.out g hg; omega))
          have rE := hR7.kept (w' := W8) (fun g hg => hot g (by have := hf7.out g hg; omega))
          have hkk : ∀ j, j < wr.heap.size → j ≠ w.heap.size → W8.heap[j]? = wr.heap[j]? := fun j hj hj2 => by
            rw [hot j hj2, hb7.block j (by omega), hb5.block j (by omega), hb4.block j hj]
          have hra := hfa.out
          have hrc := hfc.out
          have hrf : ∀ g, (Value.slice sa (cutE e).msgs.length sc).ownBlock = some g → wr.heap.size ≤ g := fun g hg => by have := hf7.out g hg; omega
          clear kb7 eb7 fb7 lb7 hR7 hRa hRc hf7 hfa hfc kb5 kb8 hcutE hcs hall kb ho5 hmc
          rcases rC.form with ⟨-, h, -⟩ | ⟨gc, cc, rfl, hcc2, -⟩
          · omega
          have hx := nowP_at hm
          obtain ⟨⟨ep, ve, st⟩, hn⟩ : ∃ n, nowP ff.eras = n := ⟨_, rfl⟩
          rw [hn] at hx
          have c0 : W8.cell? ⟨gc, m * 3, none⟩ = some (.int .u32 ep) := by
            have h1 := flatEra_at ff.eras m _ hx 0 (by omega)
            rw [show m * 3 = m * 3 + 0 from rfl, rC.cellAt _ (by omega), h1]; rfl
          have hmi : (m : Int) + 1 ≤ 1073741824 := by omega
          have hwr : IntKind.i64.wrap (m : Int) = m := IntWalk.i64_in _ (by omega)
          have hmi0 : (0 : Int) ≤ m := by omega
          have hmi1 : (m : Int) < (m : Int) + 1 := by omega
          have t0 : ((m : Int) + 1 == 0) = false := by first | (simp; done) | (simp; omega)
          have t01 : decide ((0 : Int) < (m : Int) + 1) = true := by first | (simp; done) | (simp; omega)
          have kb9 := kb8'
          have c9 := c0
          replace c9 : Hid (_ = _) := c9
          replace kb9 : Hid (Blk _ _ _ _) := kb9
          replace hra : Hid (∀ _, _) := hra
          replace hrc : Hid (∀ _, _) := hrc
          replace hrf : Hid (∀ _, _) := hrf
          replace hot : Hid (∀ _, _) := hot
          replace hkk : Hid (∀ _, _) := hkk
          replace hx : Hid (_ = _) := hx
          rw [hm]
          by_cases heq : (cutE e).epoch = ep
          · have t1 : (((cutE e).epoch : Int) == (ep : Int)) = true := by simp [heq]
            refine wp_region_sched [(0, true), (1, true), (2, true), (3, true), (4, true), (5, true), (6, true), (7, true), (8, true), (9, true), (10, true), (11, true), (12, true), (13, true), (14, true), (15, true), (16, true), (17, false), (18, true), (19, true)] none (fun w' => Blk w' w.heap.size #[.int .i64 (cutE e).kind, .int .u32 (cutE e).epoch, .int .i64 (cutE e).ver, .slice sa (cutE e).msgs.length sc] 33 ∧ w'.cell? ⟨gc, m * 3, none⟩ = some (.int .u32 ep) ∧ True) (by kernel_rfl) (by kernel_rfl)
              ⟨kb8', c0, trivial⟩ ?_
            clear kb8' c0
            (repeat (refine wpSched_quiet (v := ?_) rfl rfl (fun w' hS => ?_) (fun K hK => ?_); rotate_left; (focus ((try have e1 := hS.1.cell); (try have e2 := hS.2.1.cell); (try have e3 := hS.2.2.1.cell); (try have e4 := hS.2.2.2.1.cell); (try have f1 := hS.1); (try have f2 := hS.2.1); (try have f3 := hS.2.2.1); (try have f4 := hS.2.2.2.1); (try have f5 := hS.2.2.2.2.1); clear hS; go_simp; (try with_reducible rfl))); (go_simp; refine hK _ ?_; clear hK K)))
            refine wpSched_unwanted (by exact rfl) (by exact rfl) (fun K hK => ?_); go_simp; refine hK _ ?_; clear hK K
            refine wpSched_loud rfl (fun K hK => ?_)
            go_wp2
            refine hK.out _ _ (fun _ => ⟨kb9.out.drew, c9.out, trivial⟩) ?_
            clear hK K
            refine wpSched_unwanted (by exact rfl) (by exact rfl) (fun K hK => ?_); go_simp; refine hK _ ?_; clear hK K
            (repeat (refine wpSched_quiet (v := ?_) rfl rfl (fun w' hS => ?_) (fun K hK => ?_); rotate_left; (focus ((try have e1 := hS.1.cell); (try have e2 := hS.2.1.cell); (try have e3 := hS.2.2.1.cell); (try have e4 := hS.2.2.2.1.cell); (try have f1 := hS.1); (try have f2 := hS.2.1); (try have f3 := hS.2.2.1); (try have f4 := hS.2.2.2.1); (try have f5 := hS.2.2.2.2.1); clear hS; go_simp; (try with_reducible rfl))); (go_simp; refine hK _ ?_; clear hK K)))
            refine wpSched_nil ?_
            go_wp2
            go_ret
            exact ⟨rfl, pb_drew hb8⟩
          · have t1 : (((cutE e).epoch : Int) == (ep : Int)) = false := by simp; omega
            refine wp_region_sched [(0, true), (1, true), (2, true), (3, true), (4, true), (5, true), (6, true), (7, true), (8, true), (9, true), (10, true), (11, true), (12, true), (13, true), (14, true), (15, true), (16, true), (17, false), (18, true), (19, true)] none (fun w' => Blk w' w.heap.size #[.int .i64 (cutE e).kind, .int .u32 (cutE e).epoch, .int .i64 (cutE e).ver, .slice sa (cutE e).msgs.length sc] 33 ∧ w'.cell? ⟨gc, m * 3, none⟩ = some (.int .u32 ep) ∧ True) (by kernel_rfl) (by kernel_rfl)
              ⟨kb8', c0, trivial⟩ ?_
            clear kb8' c0
            (repeat (refine wpSched_quiet (v := ?_) rfl rfl (fun w' hS => ?_) (fun K hK => ?_); rotate_left; (focus ((try have e1 := hS.1.cell); (try have e2 := hS.2.1.cell); (try have e3 := hS.2.2.1.cell); (try have e4 := hS.2.2.2.1.cell); (try have f1 := hS.1); (try have f2 := hS.2.1); (try have f3 := hS.2.2.1); (try have f4 := hS.2.2.2.1); (try have f5 := hS.2.2.2.2.1); clear hS; go_simp; (try with_reducible rfl))); (go_simp; refine hK _ ?_; clear hK K)))
            have hrt := rightE_any (cutE e) (.slice sa (cutE e).msgs.length sc) W8.drew rE.src (by unfold cutE cutL; simp; omega)
            unfold entV at hrt
            replace hrt : Hid (Calls _ _ _ _ _) := hrt
            refine wpSched_loud rfl (fun K hK => ?_)
            go_wp2_with fail
            refine hrt.out.mono ?_
            rintro r w9 ⟨rfl, hb9⟩
            go_wp2
            refine hK.out _ _ (fun _ => ⟨kb9.out.drew.call hb9, (hb9.cell (cell_lt (w := W8) c9.out)).trans c9.out, trivial⟩) ?_
            clear hK K
            cases hre : rightE (cutE e)
            · (repeat (refine wpSched_quiet (v := ?_) rfl rfl (fun w' hS => ?_) (fun K hK => ?_); rotate_left; (focus ((try have e1 := hS.1.cell); (try have e2 := hS.2.1.cell); (try have e3 := hS.2.2.1.cell); (try have e4 := hS.2.2.2.1.cell); (try have f1 := hS.1); (try have f2 := hS.2.1); (try have f3 := hS.2.2.1); (try have f4 := hS.2.2.2.1); (try have f5 := hS.2.2.2.2.1); clear hS; go_simp; (try with_reducible rfl))); (go_simp; refine hK _ ?_; clear hK K)))
              refine wpSched_nil ?_
              go_wp2
              go_ret
              exact ⟨rfl, pb_trans (pb_drew hb8) hb9⟩
            · (repeat (refine wpSched_quiet (v := ?_) rfl rfl (fun w' hS => ?_) (fun K hK => ?_); rotate_left; (focus ((try have e1 := hS.1.cell); (try have e2 := hS.2.1.cell); (try have e3 := hS.2.2.1.cell); (try have e4 := hS.2.2.2.1.cell); (try have f1 := hS.1); (try have f2 := hS.2.1); (try have f3 := hS.2.2.1); (try have f4 := hS.2.2.2.1); (try have f5 := hS.2.2.2.2.1); clear hS; go_simp; (try with_reducible rfl))); (go_simp; refine hK _ ?_; clear hK K)))
              refine wpSched_nil ?_
              have eb9 := (kb9.out.drew.call hb9).cell
              have fb9 := (kb9.out.drew.call hb9).frozen
              have lb9 := (kb9.out.drew.call hb9).lt
              have hap : applyP ff (cutE e) = ({ ff with count := ff.count + 1 }, [], false, 0) := by
                unfold applyP; rw [if_neg (by rw [hre]; simp), if_pos (by rw [hn]; exact heq)]
              have hb9' : Below W8.heap.size W8 w9 := pb_trans (pb_drew (Below.refl _ _)) hb9
              have hcall := htw.out.applyB (w := w) (D := w.heap.size) (W' := w9) (by omega) hz1 (pb_trans hb8 hb9') (by have := hb9'.size; omega) (fun j hj hj2 => (hb9'.block j (by omega)).trans (hkk.out j hj hj2)) (e := e) (mv := .slice sa (cutE e).msgs.length sc) (rE.below hb9') hrf.out hB.out (by omega) hap
              unfold entV at hcall
              simp only at hcall
              replace hcall : Hid (Calls _ _ _ _ _) := hcall
              go_wp2_with fail
              refine hcall.out.mono ?_
              rintro r w10 ⟨v10, rfl, ho10, hR10, hk10⟩
              obtain ⟨sv, sc10, rfl⟩ := hR10.src.shape
              have rA10 := (rA.below hb9').kept (w' := w10) (fun g hg => hk10 g (by have := hra.out g hg; omega) ((rA.below hb9').lt hg))
              have rC10 := (rC.below hb9').kept (w' := w10) (fun g hg => hk10 g (by have := hrc.out g hg; omega) ((rC.below hb9').lt hg))
              have hb10 : Below w.heap.size w w10 := ho10.choose_spec.1
              have hwc : IntKind.i64.wrap ((c : Int) + 1) = (c : Int) + 1 := IntWalk.i64_in _ (by omega)
              have hz0 : ([] : List MsgD).length = 0 := rfl
              rw [hz0]
              clear eb9 fb9 lb9 hR10 hk10 rA rC rE hz0
              replace ho10 : Hid (OneAt _ _ _ _) := ho10
              go_wp2_with fail
              refine (ho10.out.countV (n := (c : Int) + 1) (by show ff.count + 1 = _; rw [hcc.out])).mono ?_
              rintro r w11 ⟨rfl, rfl⟩
              go_wp2_with fail
              refine (ho10.out.eras (by show ff.eras.length ≤ _; omega)).mono ?_
              rintro r w12 ⟨vc2, rfl, hRc2, hb12, -⟩
              have hsame := sameEra_any vc2 (.slice (some ⟨gc, 0, none⟩) (m + 1) cc) ff.eras ff.eras w12 hRc2.src (by rw [← hm]; exact (rC10.below hb12).src) (by omega) (by omega)
              rw [show decide (ff.eras = ff.eras) = true from by simp] at hsame
              replace hsame : Hid (Calls _ _ _ _ _) := hsame
              clear rC10
              go_wp2_with fail
              refine hsame.out.mono ?_
              rintro r w13 ⟨rfl, hb13⟩
              have hb123 := pb_trans hb12 hb13
              go_wp2_with fail
              refine ((ho10.out.below hb123).log (by show ff.book.log.length ≤ _; omega)).mono ?_
              rintro r w14 ⟨va2, rfl, hRa2, hb14, -⟩
              have hsame2 := sameMsg_any va2 va ff.book.log ff.book.log w14 hRa2.src ((rA10.below hb123).below hb14).src (by omega) (by omega)
              rw [show decide (ff.book.log = ff.book.log) = true from by simp] at hsame2
              replace hsame2 : Hid (Calls _ _ _ _ _) := hsame2
              clear rA10 hRa2
              go_wp2_with fail
              refine hsame2.out.mono ?_
              rintro r w15 ⟨rfl, hb15⟩
              go_wp2
              go_ret
              exact ⟨rfl, pb_trans (pb_trans (pb_trans hb10 hb123) hb14) hb15⟩
        · go_wp2_with fail
          refine (htw.out.eras (by omega)).mono ?_
          rintro r w4 ⟨vc, rfl, hRc, hb4, hfc⟩
          go_wp2_with fail
          refine ((htw.out.below hb4).log (by omega)).mono ?_
          rintro r w5 ⟨va, rfl, hRa, hb5, hfa⟩
          have ho5 := (htw.out.below hb4).below hb5
          replace ho5 : Hid (OneAt _ _ _ _) := ho5
          replace hfa : Hid (∀ _, _) := hfa
          replace hfc : Hid (∀ _, _) := hfc
          go_wp2_with fail
          refine (ho5.out.countV hcc.out).mono ?_
          rintro r w6 ⟨rfl, rfl⟩
          have kb5 := ((kb.out.below hbw1 kb.out.lt).call hb4).call hb5
          have hbw5 : Below w.heap.size w w6 := pb_trans (pb_trans hbw hb4) hb5
          have eb5 := kb5.cell
          have fb5 := kb5.frozen
          have lb5 := kb5.lt
          replace kb5 : Hid (Blk _ _ _ _) := kb5
          go_wp2_with fail
          refine (hcutE.out _ hbw5).mono ?_
          rintro r w7 ⟨mv7, rfl, hR7, hb7, hf7⟩
          have kb7 := kb5.out.call hb7
          have eb7 := kb7.cell
          have fb7 := kb7.frozen
          have lb7 := kb7.lt
          replace kb7 : Hid (Blk _ _ _ _) := kb7
          replace hf7 : Hid (∀ _, _) := hf7
          clear eb5 fb5 lb5
          unfold entV
          obtain ⟨sa, sc, rfl⟩ := hR7.src.shape
          go_wp2_with fail
          have hmc := hR7.src
          have kb8 := (((kb7.out.set (o := 0) (.int .i64 (cutE e).kind)).set (o := 1) (.int .u32 (cutE e).epoch)).set (o := 2) (.int .i64 (cutE e).ver)).set (o := 3) (.slice sa (cutE e).msgs.length sc)
          obtain ⟨W8, hW8⟩ : ∃ W8, W8 = (((w7.setCell ⟨w.heap.size, 0, none⟩ (.int .i64 (cutE e).kind)).setCell ⟨w.heap.size, 1, none⟩ (.int .u32 (cutE e).epoch)).setCell ⟨w.heap.size, 2, none⟩ (.int .i64 (cutE e).ver)).setCell ⟨w.heap.size, 3, none⟩ (.slice sa (cutE e).msgs.length sc) := ⟨_, rfl⟩
          rw [← hW8] at kb8 ⊢
          have hot : ∀ j, j ≠ w.heap.size → W8.heap[j]? = w7.heap[j]? := fun j hj => by
            rw [hW8, Below.heap_setCell _ _ _ _ hj, Below.heap_setCell _ _ _ _ hj, Below.heap_setCell _ _ _ _ hj, Below.heap_setCell _ _ _ _ hj]
          have hb8 : Below w.heap.size w W8 := by rw [hW8]; exact pb_set (pb_set (pb_set (pb_set (pb_trans hbw5 hb7) (Nat.le_refl _) _) (Nat.le_refl _) _) (Nat.le_refl _) _) (Nat.le_refl _) _
          have hz8 : W8.heap.size = w7.heap.size := by rw [hW8]; simp
          clear hW8
          have kb8' : Blk W8 w.heap.size #[.int .i64 (cutE e).kind, .int .u32 (cutE e).epoch, .int .i64 (cutE e).ver, .slice sa (cutE e).msgs.length sc] 33 := kb8
          have z1 := hbw1.size
          have z4 := hb4.size
          have z5 := hb5.size
          have z7 := hb7.size
          have rA := (hRa.below hb7).kept (w' := W8) (fun g hg => hot g (by have := hfa.out g hg; omega))
          have rC := ((hRc.below hb5).below hb7).kept (w' := W8) (fun g hg => hot g (by have := hfc.out g hg; omega))
          have rE := hR7.kept (w' := W8) (fun g hg => hot g (by have := hf7.out g hg; omega))
          have hkk : ∀ j, j < wr.heap.size → j ≠ w.heap.size → W8.heap[j]? = wr.heap[j]? := fun j hj hj2 => by
            rw [hot j hj2, hb7.block j (by omega), hb5.block j (by omega), hb4.block j hj]
          have hra := hfa.out
          have hrc := hfc.out
          have hrf : ∀ g, (Value.slice sa (cutE e).msgs.length sc).ownBlock = some g → wr.heap.size ≤ g := fun g hg => by have := hf7.out g hg; omega
          clear kb7 eb7 fb7 lb7 hR7 hRa hRc hf7 hfa hfc kb5 kb8 hcutE hcs hall kb ho5 hmc
          rcases rC.form with ⟨-, h, -⟩ | ⟨gc, cc, rfl, hcc2, -⟩
          · omega
          have hx := nowP_at hm
          obtain ⟨⟨ep, ve, st⟩, hn⟩ : ∃ n, nowP ff.eras = n := ⟨_, rfl⟩
          rw [hn] at hx
          have c0 : W8.cell? ⟨gc, m * 3, none⟩ = some (.int .u32 ep) := by
            have h1 := flatEra_at ff.eras m _ hx 0 (by omega)
            rw [show m * 3 = m * 3 + 0 from rfl, rC.cellAt _ (by omega), h1]; rfl
          have hmi : (m : Int) + 1 ≤ 1073741824 := by omega
          have hwr : IntKind.i64.wrap (m : Int) = m := IntWalk.i64_in _ (by omega)
          have hmi0 : (0 : Int) ≤ m := by omega
          have hmi1 : (m : Int) < (m : Int) + 1 := by omega
          have t0 : ((m : Int) + 1 == 0) = false := by first | (simp; done) | (simp; omega)
          have t01 : decide ((0 : Int) < (m : Int) + 1) = true := by first | (simp; done) | (simp; omega)
          have kb9 := kb8'
          have c9 := c0
          replace c9 : Hid (_ = _) := c9
          replace kb9 : Hid (Blk _ _ _ _) := kb9
          replace hra : Hid (∀ _, _) := hra
          replace hrc : Hid (∀ _, _) := hrc
          replace hrf : Hid (∀ _, _) := hrf
          replace hot : Hid (∀ _, _) := hot
          replace hkk : Hid (∀ _, _) := hkk
          replace hx : Hid (_ = _) := hx
          rw [hm]
          by_cases heq : (cutE e).epoch = ep
          · have t1 : (((cutE e).epoch : Int) == (ep : Int)) = true := by simp [heq]
            refine wp_region_sched [(0, true), (1, true), (2, true), (3, true), (4, true), (5, true), (6, true), (7, true), (8, true), (9, true), (10, true), (11, true), (12, true), (13, true), (14, true), (15, true), (16, true), (17, false), (18, true), (19, true)] none (fun w' => Blk w' w.heap.size #[.int .i64 (cutE e).kind, .int .u32 (cutE e).epoch, .int .i64 (cutE e).ver, .slice sa (cutE e).msgs.length sc] 33 ∧ w'.cell? ⟨gc, m * 3, none⟩ = some (.int .u32 ep) ∧ True) (by kernel_rfl) (by kernel_rfl)
              ⟨kb8', c0, trivial⟩ ?_
            clear kb8' c0
            (repeat (refine wpSched_quiet (v := ?_) rfl rfl (fun w' hS => ?_) (fun K hK => ?_); rotate_left; (focus ((try have e1 := hS.1.cell); (try have e2 := hS.2.1.cell); (try have e3 := hS.2.2.1.cell); (try have e4 := hS.2.2.2.1.cell); (try have f1 := hS.1); (try have f2 := hS.2.1); (try have f3 := hS.2.2.1); (try have f4 := hS.2.2.2.1); (try have f5 := hS.2.2.2.2.1); clear hS; go_simp; (try with_reducible rfl))); (go_simp; refine hK _ ?_; clear hK K)))
            refine wpSched_unwanted (by exact rfl) (by exact rfl) (fun K hK => ?_); go_simp; refine hK _ ?_; clear hK K
            refine wpSched_loud rfl (fun K hK => ?_)
            go_wp2
            refine hK.out _ _ (fun _ => ⟨kb9.out.drew, c9.out, trivial⟩) ?_
            clear hK K
            refine wpSched_unwanted (by exact rfl) (by exact rfl) (fun K hK => ?_); go_simp; refine hK _ ?_; clear hK K
            (repeat (refine wpSched_quiet (v := ?_) rfl rfl (fun w' hS => ?_) (fun K hK => ?_); rotate_left; (focus ((try have e1 := hS.1.cell); (try have e2 := hS.2.1.cell); (try have e3 := hS.2.2.1.cell); (try have e4 := hS.2.2.2.1.cell); (try have f1 := hS.1); (try have f2 := hS.2.1); (try have f3 := hS.2.2.1); (try have f4 := hS.2.2.2.1); (try have f5 := hS.2.2.2.2.1); clear hS; go_simp; (try with_reducible rfl))); (go_simp; refine hK _ ?_; clear hK K)))
            refine wpSched_nil ?_
            go_wp2
            go_ret
            exact ⟨rfl, pb_drew hb8⟩
          · have t1 : (((cutE e).epoch : Int) == (ep : Int)) = false := by simp; omega
            refine wp_region_sched [(0, true), (1, true), (2, true), (3, true), (4, true), (5, true), (6, true), (7, true), (8, true), (9, true), (10, true), (11, true), (12, true), (13, true), (14, true), (15, true), (16, true), (17, false), (18, true), (19, true)] none (fun w' => Blk w' w.heap.size #[.int .i64 (cutE e).kind, .int .u32 (cutE e).epoch, .int .i64 (cutE e).ver, .slice sa (cutE e).msgs.length sc] 33 ∧ w'.cell? ⟨gc, m * 3, none⟩ = some (.int .u32 ep) ∧ True) (by kernel_rfl) (by kernel_rfl)
              ⟨kb8', c0, trivial⟩ ?_
            clear kb8' c0
            (repeat (refine wpSched_quiet (v := ?_) rfl rfl (fun w' hS => ?_) (fun K hK => ?_); rotate_left; (focus ((try have e1 := hS.1.cell); (try have e2 := hS.2.1.cell); (try have e3 := hS.2.2.1.cell); (try have e4 := hS.2.2.2.1.cell); (try have f1 := hS.1); (try have f2 := hS.2.1); (try have f3 := hS.2.2.1); (try have f4 := hS.2.2.2.1); (try have f5 := hS.2.2.2.2.1); clear hS; go_simp; (try with_reducible rfl))); (go_simp; refine hK _ ?_; clear hK K)))
            have hrt := rightE_any (cutE e) (.slice sa (cutE e).msgs.length sc) W8.drew rE.src (by unfold cutE cutL; simp; omega)
            unfold entV at hrt
            replace hrt : Hid (Calls _ _ _ _ _) := hrt
            refine wpSched_loud rfl (fun K hK => ?_)
            go_wp2_with fail
            refine hrt.out.mono ?_
            rintro r w9 ⟨rfl, hb9⟩
            go_wp2
            refine hK.out _ _ (fun _ => ⟨kb9.out.drew.call hb9, (hb9.cell (cell_lt (w := W8) c9.out)).trans c9.out, trivial⟩) ?_
            clear hK K
            cases hre : rightE (cutE e)
            · (repeat (refine wpSched_quiet (v := ?_) rfl rfl (fun w' hS => ?_) (fun K hK => ?_); rotate_left; (focus ((try have e1 := hS.1.cell); (try have e2 := hS.2.1.cell); (try have e3 := hS.2.2.1.cell); (try have e4 := hS.2.2.2.1.cell); (try have f1 := hS.1); (try have f2 := hS.2.1); (try have f3 := hS.2.2.1); (try have f4 := hS.2.2.2.1); (try have f5 := hS.2.2.2.2.1); clear hS; go_simp; (try with_reducible rfl))); (go_simp; refine hK _ ?_; clear hK K)))
              refine wpSched_nil ?_
              go_wp2
              go_ret
              exact ⟨rfl, pb_trans (pb_drew hb8) hb9⟩
            · (repeat (refine wpSched_quiet (v := ?_) rfl rfl (fun w' hS => ?_) (fun K hK => ?_); rotate_left; (focus ((try have e1 := hS.1.cell); (try have e2 := hS.2.1.cell); (try have e3 := hS.2.2.1.cell); (try have e4 := hS.2.2.2.1.cell); (try have f1 := hS.1); (try have f2 := hS.2.1); (try have f3 := hS.2.2.1); (try have f4 := hS.2.2.2.1); (try have f5 := hS.2.2.2.2.1); clear hS; go_simp; (try with_reducible rfl))); (go_simp; refine hK _ ?_; clear hK K)))
              refine wpSched_nil ?_
              have eb9 := (kb9.out.drew.call hb9).cell
              have fb9 := (kb9.out.drew.call hb9).frozen
              have lb9 := (kb9.out.drew.call hb9).lt
              have hap : applyP ff (cutE e) = ({ ff with count := ff.count + 1 }, [], false, 0) := by
                unfold applyP; rw [if_neg (by rw [hre]; simp), if_pos (by rw [hn]; exact heq)]
              have hb9' : Below W8.heap.size W8 w9 := pb_trans (pb_drew (Below.refl _ _)) hb9
              have hcall := htw.out.applyB (w := w) (D := w.heap.size) (W' := w9) (by omega) hz1 (pb_trans hb8 hb9') (by have := hb9'.size; omega) (fun j hj hj2 => (hb9'.block j (by omega)).trans (hkk.out j hj hj2)) (e := e) (mv := .slice sa (cutE e).msgs.length sc) (rE.below hb9') hrf.out hB.out (by omega) hap
              unfold entV at hcall
              simp only at hcall
              replace hcall : Hid (Calls _ _ _ _ _) := hcall
              go_wp2_with fail
              refine hcall.out.mono ?_
              rintro r w10 ⟨v10, rfl, ho10, hR10, hk10⟩
              obtain ⟨sv, sc10, rfl⟩ := hR10.src.shape
              have rA10 := (rA.below hb9').kept (w' := w10) (fun g hg => hk10 g (by have := hra.out g hg; omega) ((rA.below hb9').lt hg))
              have rC10 := (rC.below hb9').kept (w' := w10) (fun g hg => hk10 g (by have := hrc.out g hg; omega) ((rC.below hb9').lt hg))
              have hb10 : Below w.heap.size w w10 := ho10.choose_spec.1
              have hwc : IntKind.i64.wrap ((c : Int) + 1) = (c : Int) + 1 := IntWalk.i64_in _ (by omega)
              have hz0 : ([] : List MsgD).length = 0 := rfl
              rw [hz0]
              clear eb9 fb9 lb9 hR10 hk10 rA rC rE hz0
              replace ho10 : Hid (OneAt _ _ _ _) := ho10
              go_wp2_with fail
              refine (ho10.out.countV (n := (c : Int) + 1) (by show ff.count + 1 = _; rw [hcc.out])).mono ?_
              rintro r w11 ⟨rfl, rfl⟩
              go_wp2_with fail
              refine (ho10.out.eras (by show ff.eras.length ≤ _; omega)).mono ?_
              rintro r w12 ⟨vc2, rfl, hRc2, hb12, -⟩
              have hsame := sameEra_any vc2 (.slice (some ⟨gc, 0, none⟩) (m + 1) cc) ff.eras ff.eras w12 hRc2.src (by rw [← hm]; exact (rC10.below hb12).src) (by omega) (by omega)
              rw [show decide (ff.eras = ff.eras) = true from by simp] at hsame
              replace hsame : Hid (Calls _ _ _ _ _) := hsame
              clear rC10
              go_wp2_with fail
              refine hsame.out.mono ?_
              rintro r w13 ⟨rfl, hb13⟩
              have hb123 := pb_trans hb12 hb13
              go_wp2_with fail
              refine ((ho10.out.below hb123).log (by show ff.book.log.length ≤ _; omega)).mono ?_
              rintro r w14 ⟨va2, rfl, hRa2, hb14, -⟩
              have hsame2 := sameMsg_any va2 va ff.book.log ff.book.log w14 hRa2.src ((rA10.below hb123).below hb14).src (by omega) (by omega)
              rw [show decide (ff.book.log = ff.book.log) = true from by simp] at hsame2
              replace hsame2 : Hid (Calls _ _ _ _ _) := hsame2
              clear rA10 hRa2
              go_wp2_with fail
              refine hsame2.out.mono ?_
              rintro r w15 ⟨rfl, hb15⟩
              go_wp2
              go_ret
              exact ⟨rfl, pb_trans (pb_trans (pb_trans hb10 hb123) hb14) hb15⟩
end Go.Proofs.Ytlfledeldhhllaa
