/- WALK: the statement EpochEras answers true. Condition: the entries came in as arguments do. -/
import Derived.Test.YtlfledeldhhllaaFold1
import Derived.Test.YtlfledeldhhllaaEraP
namespace Go.Proofs.Ytlfledeldhhllaa
open Go Go.RowKit Go.Shelf Go.Extern.Stop Go.Stop Go.Extern
attribute [local go_sem] Oper.semAt_some wide_fn wide_depth

set_option maxRecDepth 8000 in
set_option maxHeartbeats 2000000 in
theorem epochEras_true (v : Int) (lv : Value) (es : List (EntryD × Value)) (w : World) (hes : EntsIn w lv es) (hlen : es.length ≤ 9223372036854775807) : Calls Try.prog 3 #[.int .i64 v, lv] w fun r w' => r = .returned (.bool true) ∧ Below w.heap.size w w' := by
  obtain ⟨a, cap, rfl, hcs⟩ := hes.shape
  have hall := hes.2
  clear hes
  replace hcs : Hid (∀ _, _) := hcs
  replace hall : Hid (∀ _, _) := hall
  cases hk : known v
  · have hnew := fun W => fnew_no v hk W
    replace hnew : Hid (∀ _, _) := hnew
    go_enter Try.func3, Try.ntmps3
    go_wp2_with (first
      | (go_at_call 8; refine (shown_any _).mono ?_; rintro r w1 ⟨rfl, hb1⟩))
    refine (hnew.out _).mono ?_
    rintro r w2 ⟨rfl, hb2⟩
    go_wp2
    go_ret
    exact ⟨rfl, pb_trans hb1 hb2⟩
  · have hnewE := newFold_eras hk
    replace hnewE : Hid (ErasOk _ _) := hnewE
    go_enter Try.func3, Try.ntmps3
    go_wp2_with (first
      | (go_at_call 8; refine (shown_any _).mono ?_; rintro r w1 ⟨rfl, hb1⟩))
    refine (fnew_any v hk [1] (fun _ => []) _).mono ?_
    rintro r w2 ⟨Bf, ow2, rfl, hs2, -, hF2⟩
    have hone : OneAt w Bf (newFold v) w2 := OneAt.new hb1 hs2 hF2
    clear hs2 hF2 hb1
    replace hone : Hid (OneAt _ _ _ _) := hone
    go_wp2
    go_loopw [8] (fun p12 wr => ∃ k : Nat, p12 = .int .i64 k ∧ k ≤ es.length ∧ k ≤ 60 ∧ OneAt w Bf (runP (newFold v) (ens1 es k)) wr) (fun p12 _ => 60 - (intOf p12).toNat)
    case atStart => exact ⟨0, rfl, Nat.zero_le _, Nat.zero_le _, hone.out⟩
    case round =>
      obtain ⟨k, rfl, hk1, hk2, htw⟩ := hrel
      clear hone
      have hbw : Below w.heap.size w wr := htw.choose_spec.1
      replace htw : Hid (OneAt _ _ _ _) := htw
      have hB := run_b (newFold_b v) (ens1 es k)
      have hl1 := ens1_len es k
      have hE := run_eras hnewE.out (newFold_b v) (ens1 es k) (by omega)
      replace hE : Hid (ErasOk _ _) := hE
      by_cases hlt : k < es.length ∧ k < 60
      · obtain ⟨hlt, hlt2⟩ := hlt
        obtain ⟨p, hp⟩ : ∃ p, es[k]? = some p := ⟨_, List.getElem?_eq_getElem hlt⟩
        obtain ⟨b, off, rfl, hc⟩ := hcs.out k p hp
        have hmem := hall.out p (List.mem_of_getElem? hp)
        obtain ⟨c0, c1, c2, c3⟩ := EntsIn.cells4 (es := es) hc hbw
        have hcut := cut_any p.1 p.2 wr (hmem.1.below hbw) hmem.2
        have hsucc := ens1_succ hp
        clear hc hp hmem
        unfold entV at hcut
        replace hcut : Hid (Calls _ _ _ _ _) := hcut
        replace hsucc : Hid (_ = _) := hsucc
        replace hB : Hid (FoldB _ _) := hB
        go_wp2_with fail
        refine hcut.out.mono ?_
        rintro r w4 ⟨mv4, rfl, hR4, hb4, hf4⟩
        replace hf4 : Hid (∀ _, _) := hf4
        go_wp2_with fail
        refine (htw.out.apply hb4 hR4 hf4.out hB.out (by omega)).mono ?_
        rintro r w5 ⟨vr, rfl, htw5, -⟩
        replace htw5 : Hid (OneAt _ _ _ _) := htw5
        clear c0 c1 c2 c3
        go_wp2
        go_roundw
        case rel => exact ⟨k + 1, by go_num, by omega, by omega, by rw [hsucc.out, runP_snoc]; exact htw5.out⟩
        case measure => simp [intOf]; omega
      · have hend : (k < es.length ∧ ¬ k < 60) ∨ ¬ k < es.length := by omega
        generalize runP (newFold v) (ens1 es k) = ff at *
        have hlc : ff.eras.length ≤ 61 := by have := hB.eras; omega
        have hne : 0 < ff.eras.length := List.length_pos_iff.2 htw.out.choose_spec.2.2.1
        replace hB : Hid (FoldB _ _) := hB
        rcases hend with ⟨q1, q2⟩ | q1
        ·
          go_wp2_with fail
          refine (htw.out.eras (by omega)).mono ?_
          rintro r w4 ⟨vc, rfl, hRc, hb4, hfc⟩
          have ho4 := htw.out.below hb4
          replace ho4 : Hid (OneAt _ _ _ _) := ho4
          rcases hRc.form with ⟨-, h, -⟩ | ⟨gc, cc, rfl, hcc, -⟩
          · omega
          have hcell : ∀ (i : Nat) (x : EraD), ff.eras[i]? = some x → ∀ j, j < 3 → w4.cell? ⟨gc, i * 3 + j, none⟩ = (eraCells x)[j]? := fun i x hx j hj => by
            have h1 := flatEra_at ff.eras i _ hx j hj
            have h2 := (List.getElem?_eq_some_iff.1 hx).1
            rw [← h1, hRc.cellAt _ (by omega)]
          have hf3 : ∀ j, j < 3 → w4.cell? ⟨gc, j, none⟩ = (eraCells (1, v, 0))[j]? := fun j hj => by
            have h1 := hcell 0 _ hE.out.first j hj
            rwa [Nat.zero_mul, Nat.zero_add] at h1
          have c0 : w4.cell? ⟨gc, 0, none⟩ = some (.int .u32 1) := hf3 0 (by omega)
          have c1 : w4.cell? ⟨gc, 1, none⟩ = some (.int .i64 v) := hf3 1 (by omega)
          have c2 : w4.cell? ⟨gc, 2, none⟩ = some (.int .i64 0) := hf3 2 (by omega)
          replace hf3 : Hid (_ ∧ _ ∧ _) := ⟨c0, c1, c2⟩
          clear c0 c1 c2
          replace hRc : Hid (Row _ _ _ _ _ _) := hRc
          replace hcell : Hid (∀ _, _) := hcell
          go_wp2
          go_loopw [10] (fun p10 W => ∃ i : Nat, p10 = .int .i64 i ∧ i ≤ ff.eras.length ∧ Below w4.heap.size w4 W) (fun p10 _ => ff.eras.length - (intOf p10).toNat)
          case atStart => exact ⟨0, rfl, Nat.zero_le _, Below.refl _ _⟩
          case round =>
            obtain ⟨i, rfl, hi, hbi⟩ := hrel
            by_cases hil : i < ff.eras.length
            · obtain ⟨⟨ep, ve, st⟩, hx⟩ : ∃ x, ff.eras[i]? = some x := ⟨_, List.getElem?_eq_getElem hil⟩
              have hx0 := hE.out.each i _ hx
              obtain ⟨he0, hv1, hv3, hst⟩ := hx0
              simp only at he0 hv1 hv3 hst
              subst he0
              have c0 : wr.cell? ⟨gc, i * 3, none⟩ = some (.int .u32 ((i : Int) + 1)) := (hbi.cell (cell_lt (hcell.out i _ hx 0 (by omega)))).trans (hcell.out i _ hx 0 (by omega))
              have cE := c0
              replace cE : Hid (_ = _) := cE
              have c1 : wr.cell? ⟨gc, i * 3 + 1, none⟩ = some (.int .i64 ve) := (hbi.cell (cell_lt (hcell.out i _ hx 1 (by omega)))).trans (hcell.out i _ hx 1 (by omega))
              have c2 : wr.cell? ⟨gc, i * 3 + 2, none⟩ = some (.int .i64 st) := (hbi.cell (cell_lt (hcell.out i _ hx 2 (by omega)))).trans (hcell.out i _ hx 2 (by omega))
              have hi61 : (i : Int) ≤ 61 := by omega
              have hii : (i : Int) < (ff.eras.length : Int) := by omega
              have hi0 : (0 : Int) ≤ i := by omega
              have hwu : IntKind.u32.wrap (i : Int) = i := by rw [IntKind.wrap_u32]; omega
              have hwv : IntKind.u32.wrap ((i : Int) + 1) = (i : Int) + 1 := by rw [IntKind.wrap_u32]; omega
              have tv1 : decide (ve < 1) = false := by simp; omega
              have tv3 : decide (3 < ve) = false := by simp; omega
              have hcnt := ho4.out.below hbi
              obtain ⟨c, hc⟩ : ∃ c, ff.count = c := ⟨_, rfl⟩
              have tst : decide (c < st) = false := by simp; omega
              replace hc : Hid (_ = _) := hc
              replace hcnt : Hid (OneAt _ _ _ _) := hcnt
              go_wp2_with fail
              refine wp_region_sched [(0, true), (1, true), (2, true), (3, true), (4, true), (5, true), (6, true), (7, true), (8, true), (9, true), (10, true), (11, true), (12, true), (13, true), (14, true), (15, true), (16, true), (17, true), (18, true), (19, true), (20, true), (21, true), (22, true), (23, true), (24, true), (25, true), (26, true), (27, true), (28, true), (29, true), (30, true), (31, true), (32, false), (33, true), (34, true)] none (fun w' => w'.cell? ⟨gc, i * 3, none⟩ = some (.int .u32 ((i : Int) + 1)) ∧ w'.cell? ⟨gc, i * 3 + 1, none⟩ = some (.int .i64 ve) ∧ w'.cell? ⟨gc, i * 3 + 2, none⟩ = some (.int .i64 st) ∧ True) (by kernel_rfl) (by kernel_rfl)
                ⟨c0, c1, c2, trivial⟩ ?_
              clear c0
              (repeat (refine wpSched_quiet (v := ?_) rfl rfl (fun w' hS => ?_) (fun K hK => ?_); rotate_left; (focus ((try have e1 := hS.1.cell); (try have e2 := hS.2.1.cell); (try have e3 := hS.2.2.1.cell); (try have e4 := hS.2.2.2.1.cell); (try have f1 := hS.1); (try have f2 := hS.2.1); (try have f3 := hS.2.2.1); (try have f4 := hS.2.2.2.1); (try have f5 := hS.2.2.2.2.1); clear hS; go_simp; (try with_reducible rfl))); (go_simp; refine hK _ ?_; clear hK K)))
              refine wpSched_loud rfl (fun K hK => ?_)
              go_wp2_with fail
              refine (hcnt.out.below (Below.drew (Below.refl _ _))).countV hc.out |>.mono ?_
              rintro r w5 ⟨rfl, rfl⟩
              go_wp2
              refine hK.out _ _ (fun _ => ⟨cE.out, c1, c2, trivial⟩) ?_
              clear hK K
              (repeat (refine wpSched_quiet (v := ?_) rfl rfl (fun w' hS => ?_) (fun K hK => ?_); rotate_left; (focus ((try have e1 := hS.1.cell); (try have e2 := hS.2.1.cell); (try have e3 := hS.2.2.1.cell); (try have e4 := hS.2.2.2.1.cell); (try have f1 := hS.1); (try have f2 := hS.2.1); (try have f3 := hS.2.2.1); (try have f4 := hS.2.2.2.1); (try have f5 := hS.2.2.2.2.1); clear hS; go_simp; (try with_reducible rfl))); (go_simp; refine hK _ ?_; clear hK K)))
              refine wpSched_nil ?_
              go_wp2_with fail
              by_cases h0 : i = 0
              · subst h0
                have t0 : decide ((0 : Int) < ((0 : Nat) : Int)) = false := by simp
                refine wp_region_sched [(0, true), (1, true), (2, true), (3, true), (4, true), (5, true), (6, true), (7, true), (8, true), (9, true), (10, true), (11, true), (12, true), (13, true), (14, true), (15, true), (16, true), (17, true), (18, true), (19, true), (20, true), (21, true), (22, true), (23, true), (24, true), (25, true), (26, true), (27, true), (28, true), (29, true)] none (fun w' => True) (by kernel_rfl) (by kernel_rfl) trivial ?_
                (repeat (refine wpSched_quiet (v := ?_) rfl rfl (fun w' hS => ?_) (fun K hK => ?_); rotate_left; (focus ((try have e1 := hS.1.cell); (try have e2 := hS.2.1.cell); (try have e3 := hS.2.2.1.cell); (try have e4 := hS.2.2.2.1.cell); (try have f1 := hS.1); (try have f2 := hS.2.1); (try have f3 := hS.2.2.1); (try have f4 := hS.2.2.2.1); (try have f5 := hS.2.2.2.2.1); clear hS; go_simp; (try with_reducible rfl))); (go_simp; refine hK _ ?_; clear hK K)))
                (repeat (refine wpSched_unwanted rfl rfl (fun K hK => ?_); go_simp; refine hK _ ?_; clear hK K))
                (repeat (refine wpSched_quiet (v := ?_) rfl rfl (fun w' hS => ?_) (fun K hK => ?_); rotate_left; (focus ((try have e1 := hS.1.cell); (try have e2 := hS.2.1.cell); (try have e3 := hS.2.2.1.cell); (try have e4 := hS.2.2.2.1.cell); (try have f1 := hS.1); (try have f2 := hS.2.1); (try have f3 := hS.2.2.1); (try have f4 := hS.2.2.2.1); (try have f5 := hS.2.2.2.2.1); clear hS; go_simp; (try with_reducible rfl))); (go_simp; refine hK _ ?_; clear hK K)))
                refine wpSched_nil ?_
                go_wp2
                go_roundw
                case rel => exact ⟨1, rfl, by omega, pb_drew (pb_drew hbi)⟩
                case measure => simp [intOf]; omega
              · obtain ⟨m, hm⟩ : ∃ m, i = m + 1 := ⟨i - 1, by omega⟩
                obtain ⟨⟨ep0, ve0, st0⟩, hx0⟩ : ∃ x, ff.eras[m]? = some x := ⟨_, List.getElem?_eq_getElem (by omega)⟩
                have hnx := hE.out.next m _ _ hx0 (by rw [← hm]; exact hx)
                simp only at hnx
                have p1 : wr.cell? ⟨gc, m * 3 + 1, none⟩ = some (.int .i64 ve0) := (hbi.cell (cell_lt (hcell.out m _ hx0 1 (by omega)))).trans (hcell.out m _ hx0 1 (by omega))
                have p2 : wr.cell? ⟨gc, m * 3 + 2, none⟩ = some (.int .i64 st0) := (hbi.cell (cell_lt (hcell.out m _ hx0 2 (by omega)))).trans (hcell.out m _ hx0 2 (by omega))
                have t0 : decide ((0 : Int) < (i : Int)) = true := by simp; omega
                have t0' : 0 < i := by omega
                have hwm : IntKind.i64.wrap ((i : Int) - 1) = (m : Int) := by rw [IntWalk.i64_in _ (by omega)]; omega
                have hm0 : (0 : Int) ≤ m := by omega
                have hmi : (m : Int) < (ff.eras.length : Int) := by omega
                have t1 : decide (st ≤ st0) = false := by simp; omega
                have t2 : (ve == ve0) = false := by simp; exact fun e => hnx.2 e.symm
                replace hx0 : Hid (_ = _) := hx0
                replace hx : Hid (_ = _) := hx
                replace hnx : Hid (_ ∧ _) := hnx
                replace hm : Hid (_ = _) := hm
                refine wp_region_sched [(0, true), (1, true), (2, true), (3, true), (4, true), (5, true), (6, true), (7, true), (8, true), (9, true), (10, true), (11, true), (12, true), (13, true), (14, true), (15, true), (16, true), (17, true), (18, true), (19, true), (20, true), (21, true), (22, true), (23, true), (24, true), (25, true), (26, true), (27, true), (28, true), (29, true)] none (fun w' => w'.cell? ⟨gc, i * 3 + 2, none⟩ = some (.int .i64 st) ∧ w'.cell? ⟨gc, m * 3 + 2, none⟩ = some (.int .i64 st0) ∧ w'.cell? ⟨gc, i * 3 + 1, none⟩ = some (.int .i64 ve) ∧ w'.cell? ⟨gc, m * 3 + 1, none⟩ = some (.int .i64 ve0) ∧ True) (by kernel_rfl) (by kernel_rfl) ⟨c2, p2, c1, p1, trivial⟩ ?_
                (repeat (refine wpSched_quiet (v := ?_) rfl rfl (fun w' hS => ?_) (fun K hK => ?_); rotate_left; (focus ((try have e1 := hS.1.cell); (try have e2 := hS.2.1.cell); (try have e3 := hS.2.2.1.cell); (try have e4 := hS.2.2.2.1.cell); (try have f1 := hS.1); (try have f2 := hS.2.1); (try have f3 := hS.2.2.1); (try have f4 := hS.2.2.2.1); (try have f5 := hS.2.2.2.2.1); clear hS; go_simp; (try with_reducible rfl))); (go_simp; refine hK _ ?_; clear hK K)))
                clear hwm
                refine wpSched_nil ?_
                go_wp2
                go_roundw
                case rel => exact ⟨i + 1, by go_num, by omega, pb_drew (pb_drew hbi)⟩
                case measure => simp [intOf]; omega
            · obtain ⟨c0, c1, c2⟩ := hf3.out
              have d0 := (hbi.cell (cell_lt c0)).trans c0
              have d1 := (hbi.cell (cell_lt c1)).trans c1
              have d2 := (hbi.cell (cell_lt c2)).trans c2
              clear c0 c1 c2
              go_wp2
              go_ret
              exact ⟨rfl, pb_trans (pb_trans hbw hb4) hbi⟩
        ·
          go_wp2_with fail
          refine (htw.out.eras (by omega)).mono ?_
          rintro r w4 ⟨vc, rfl, hRc, hb4, hfc⟩
          have ho4 := htw.out.below hb4
          replace ho4 : Hid (OneAt _ _ _ _) := ho4
          rcases hRc.form with ⟨-, h, -⟩ | ⟨gc, cc, rfl, hcc, -⟩
          · omega
          have hcell : ∀ (i : Nat) (x : EraD), ff.eras[i]? = some x → ∀ j, j < 3 → w4.cell? ⟨gc, i * 3 + j, none⟩ = (eraCells x)[j]? := fun i x hx j hj => by
            have h1 := flatEra_at ff.eras i _ hx j hj
            have h2 := (List.getElem?_eq_some_iff.1 hx).1
            rw [← h1, hRc.cellAt _ (by omega)]
          have hf3 : ∀ j, j < 3 → w4.cell? ⟨gc, j, none⟩ = (eraCells (1, v, 0))[j]? := fun j hj => by
            have h1 := hcell 0 _ hE.out.first j hj
            rwa [Nat.zero_mul, Nat.zero_add] at h1
          have c0 : w4.cell? ⟨gc, 0, none⟩ = some (.int .u32 1) := hf3 0 (by omega)
          have c1 : w4.cell? ⟨gc, 1, none⟩ = some (.int .i64 v) := hf3 1 (by omega)
          have c2 : w4.cell? ⟨gc, 2, none⟩ = some (.int .i64 0) := hf3 2 (by omega)
          replace hf3 : Hid (_ ∧ _ ∧ _) := ⟨c0, c1, c2⟩
          clear c0 c1 c2
          replace hRc : Hid (Row _ _ _ _ _ _) := hRc
          replace hcell : Hid (∀ _, _) := hcell
          go_wp2
          go_loopw [10] (fun p10 W => ∃ i : Nat, p10 = .int .i64 i ∧ i ≤ ff.eras.length ∧ Below w4.heap.size w4 W) (fun p10 _ => ff.eras.length - (intOf p10).toNat)
          case atStart => exact ⟨0, rfl, Nat.zero_le _, Below.refl _ _⟩
          case round =>
            obtain ⟨i, rfl, hi, hbi⟩ := hrel
            by_cases hil : i < ff.eras.length
            · obtain ⟨⟨ep, ve, st⟩, hx⟩ : ∃ x, ff.eras[i]? = some x := ⟨_, List.getElem?_eq_getElem hil⟩
              have hx0 := hE.out.each i _ hx
              obtain ⟨he0, hv1, hv3, hst⟩ := hx0
              simp only at he0 hv1 hv3 hst
              subst he0
              have c0 : wr.cell? ⟨gc, i * 3, none⟩ = some (.int .u32 ((i : Int) + 1)) := (hbi.cell (cell_lt (hcell.out i _ hx 0 (by omega)))).trans (hcell.out i _ hx 0 (by omega))
              have cE := c0
              replace cE : Hid (_ = _) := cE
              have c1 : wr.cell? ⟨gc, i * 3 + 1, none⟩ = some (.int .i64 ve) := (hbi.cell (cell_lt (hcell.out i _ hx 1 (by omega)))).trans (hcell.out i _ hx 1 (by omega))
              have c2 : wr.cell? ⟨gc, i * 3 + 2, none⟩ = some (.int .i64 st) := (hbi.cell (cell_lt (hcell.out i _ hx 2 (by omega)))).trans (hcell.out i _ hx 2 (by omega))
              have hi61 : (i : Int) ≤ 61 := by omega
              have hii : (i : Int) < (ff.eras.length : Int) := by omega
              have hi0 : (0 : Int) ≤ i := by omega
              have hwu : IntKind.u32.wrap (i : Int) = i := by rw [IntKind.wrap_u32]; omega
              have hwv : IntKind.u32.wrap ((i : Int) + 1) = (i : Int) + 1 := by rw [IntKind.wrap_u32]; omega
              have tv1 : decide (ve < 1) = false := by simp; omega
              have tv3 : decide (3 < ve) = false := by simp; omega
              have hcnt := ho4.out.below hbi
              obtain ⟨c, hc⟩ : ∃ c, ff.count = c := ⟨_, rfl⟩
              have tst : decide (c < st) = false := by simp; omega
              replace hc : Hid (_ = _) := hc
              replace hcnt : Hid (OneAt _ _ _ _) := hcnt
              go_wp2_with fail
              refine wp_region_sched [(0, true), (1, true), (2, true), (3, true), (4, true), (5, true), (6, true), (7, true), (8, true), (9, true), (10, true), (11, true), (12, true), (13, true), (14, true), (15, true), (16, true), (17, true), (18, true), (19, true), (20, true), (21, true), (22, true), (23, true), (24, true), (25, true), (26, true), (27, true), (28, true), (29, true), (30, true), (31, true), (32, false), (33, true), (34, true)] none (fun w' => w'.cell? ⟨gc, i * 3, none⟩ = some (.int .u32 ((i : Int) + 1)) ∧ w'.cell? ⟨gc, i * 3 + 1, none⟩ = some (.int .i64 ve) ∧ w'.cell? ⟨gc, i * 3 + 2, none⟩ = some (.int .i64 st) ∧ True) (by kernel_rfl) (by kernel_rfl)
                ⟨c0, c1, c2, trivial⟩ ?_
              clear c0
              (repeat (refine wpSched_quiet (v := ?_) rfl rfl (fun w' hS => ?_) (fun K hK => ?_); rotate_left; (focus ((try have e1 := hS.1.cell); (try have e2 := hS.2.1.cell); (try have e3 := hS.2.2.1.cell); (try have e4 := hS.2.2.2.1.cell); (try have f1 := hS.1); (try have f2 := hS.2.1); (try have f3 := hS.2.2.1); (try have f4 := hS.2.2.2.1); (try have f5 := hS.2.2.2.2.1); clear hS; go_simp; (try with_reducible rfl))); (go_simp; refine hK _ ?_; clear hK K)))
              refine wpSched_loud rfl (fun K hK => ?_)
              go_wp2_with fail
              refine (hcnt.out.below (Below.drew (Below.refl _ _))).countV hc.out |>.mono ?_
              rintro r w5 ⟨rfl, rfl⟩
              go_wp2
              refine hK.out _ _ (fun _ => ⟨cE.out, c1, c2, trivial⟩) ?_
              clear hK K
              (repeat (refine wpSched_quiet (v := ?_) rfl rfl (fun w' hS => ?_) (fun K hK => ?_); rotate_left; (focus ((try have e1 := hS.1.cell); (try have e2 := hS.2.1.cell); (try have e3 := hS.2.2.1.cell); (try have e4 := hS.2.2.2.1.cell); (try have f1 := hS.1); (try have f2 := hS.2.1); (try have f3 := hS.2.2.1); (try have f4 := hS.2.2.2.1); (try have f5 := hS.2.2.2.2.1); clear hS; go_simp; (try with_reducible rfl))); (go_simp; refine hK _ ?_; clear hK K)))
              refine wpSched_nil ?_
              go_wp2_with fail
              by_cases h0 : i = 0
              · subst h0
                have t0 : decide ((0 : Int) < ((0 : Nat) : Int)) = false := by simp
                refine wp_region_sched [(0, true), (1, true), (2, true), (3, true), (4, true), (5, true), (6, true), (7, true), (8, true), (9, true), (10, true), (11, true), (12, true), (13, true), (14, true), (15, true), (16, true), (17, true), (18, true), (19, true), (20, true), (21, true), (22, true), (23, true), (24, true), (25, true), (26, true), (27, true), (28, true), (29, true)] none (fun w' => True) (by kernel_rfl) (by kernel_rfl) trivial ?_
                (repeat (refine wpSched_quiet (v := ?_) rfl rfl (fun w' hS => ?_) (fun K hK => ?_); rotate_left; (focus ((try have e1 := hS.1.cell); (try have e2 := hS.2.1.cell); (try have e3 := hS.2.2.1.cell); (try have e4 := hS.2.2.2.1.cell); (try have f1 := hS.1); (try have f2 := hS.2.1); (try have f3 := hS.2.2.1); (try have f4 := hS.2.2.2.1); (try have f5 := hS.2.2.2.2.1); clear hS; go_simp; (try with_reducible rfl))); (go_simp; refine hK _ ?_; clear hK K)))
                (repeat (refine wpSched_unwanted rfl rfl (fun K hK => ?_); go_simp; refine hK _ ?_; clear hK K))
                (repeat (refine wpSched_quiet (v := ?_) rfl rfl (fun w' hS => ?_) (fun K hK => ?_); rotate_left; (focus ((try have e1 := hS.1.cell); (try have e2 := hS.2.1.cell); (try have e3 := hS.2.2.1.cell); (try have e4 := hS.2.2.2.1.cell); (try have f1 := hS.1); (try have f2 := hS.2.1); (try have f3 := hS.2.2.1); (try have f4 := hS.2.2.2.1); (try have f5 := hS.2.2.2.2.1); clear hS; go_simp; (try with_reducible rfl))); (go_simp; refine hK _ ?_; clear hK K)))
                refine wpSched_nil ?_
                go_wp2
                go_roundw
                case rel => exact ⟨1, rfl, by omega, pb_drew (pb_drew hbi)⟩
                case measure => simp [intOf]; omega
              · obtain ⟨m, hm⟩ : ∃ m, i = m + 1 := ⟨i - 1, by omega⟩
                obtain ⟨⟨ep0, ve0, st0⟩, hx0⟩ : ∃ x, ff.eras[m]? = some x := ⟨_, List.getElem?_eq_getElem (by omega)⟩
                have hnx := hE.out.next m _ _ hx0 (by rw [← hm]; exact hx)
                simp only at hnx
                have p1 : wr.cell? ⟨gc, m * 3 + 1, none⟩ = some (.int .i64 ve0) := (hbi.cell (cell_lt (hcell.out m _ hx0 1 (by omega)))).trans (hcell.out m _ hx0 1 (by omega))
                have p2 : wr.cell? ⟨gc, m * 3 + 2, none⟩ = some (.int .i64 st0) := (hbi.cell (cell_lt (hcell.out m _ hx0 2 (by omega)))).trans (hcell.out m _ hx0 2 (by omega))
                have t0 : decide ((0 : Int) < (i : Int)) = true := by simp; omega
                have t0' : 0 < i := by omega
                have hwm : IntKind.i64.wrap ((i : Int) - 1) = (m : Int) := by rw [IntWalk.i64_in _ (by omega)]; omega
                have hm0 : (0 : Int) ≤ m := by omega
                have hmi : (m : Int) < (ff.eras.length : Int) := by omega
                have t1 : decide (st ≤ st0) = false := by simp; omega
                have t2 : (ve == ve0) = false := by simp; exact fun e => hnx.2 e.symm
                replace hx0 : Hid (_ = _) := hx0
                replace hx : Hid (_ = _) := hx
                replace hnx : Hid (_ ∧ _) := hnx
                replace hm : Hid (_ = _) := hm
                refine wp_region_sched [(0, true), (1, true), (2, true), (3, true), (4, true), (5, true), (6, true), (7, true), (8, true), (9, true), (10, true), (11, true), (12, true), (13, true), (14, true), (15, true), (16, true), (17, true), (18, true), (19, true), (20, true), (21, true), (22, true), (23, true), (24, true), (25, true), (26, true), (27, true), (28, true), (29, true)] none (fun w' => w'.cell? ⟨gc, i * 3 + 2, none⟩ = some (.int .i64 st) ∧ w'.cell? ⟨gc, m * 3 + 2, none⟩ = some (.int .i64 st0) ∧ w'.cell? ⟨gc, i * 3 + 1, none⟩ = some (.int .i64 ve) ∧ w'.cell? ⟨gc, m * 3 + 1, none⟩ = some (.int .i64 ve0) ∧ True) (by kernel_rfl) (by kernel_rfl) ⟨c2, p2, c1, p1, trivial⟩ ?_
                (repeat (refine wpSched_quiet (v := ?_) rfl rfl (fun w' hS => ?_) (fun K hK => ?_); rotate_left; (focus ((try have e1 := hS.1.cell); (try have e2 := hS.2.1.cell); (try have e3 := hS.2.2.1.cell); (try have e4 := hS.2.2.2.1.cell); (try have f1 := hS.1); (try have f2 := hS.2.1); (try have f3 := hS.2.2.1); (try have f4 := hS.2.2.2.1); (try have f5 := hS.2.2.2.2.1); clear hS; go_simp; (try with_reducible rfl))); (go_simp; refine hK _ ?_; clear hK K)))
                clear hwm
                refine wpSched_nil ?_
                go_wp2
                go_roundw
                case rel => exact ⟨i + 1, by go_num, by omega, pb_drew (pb_drew hbi)⟩
                case measure => simp [intOf]; omega
            · obtain ⟨c0, c1, c2⟩ := hf3.out
              have d0 := (hbi.cell (cell_lt c0)).trans c0
              have d1 := (hbi.cell (cell_lt c1)).trans c1
              have d2 := (hbi.cell (cell_lt c2)).trans c2
              clear c0 c1 c2
              go_wp2
              go_ret
              exact ⟨rfl, pb_trans (pb_trans hbw hb4) hbi⟩
end Go.Proofs.Ytlfledeldhhllaa
