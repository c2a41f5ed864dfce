/- WALK: the statement EpochPrefix answers true. Condition: the entries came in as arguments do. -/
import Derived.Test.YtlfledeldhhllaaRunP
namespace Go.Proofs.Ytlfledeldhhllaa
open Go Go.RowKit Go.Shelf Go.Extern.Stop Go.Stop Go.Extern
attribute [local go_sem] Oper.semAt_some wide_fn wide_depth

theorem eraCells_len (l : List EraD) : (l.flatMap eraCells).length = l.length * 3 := by
  induction l with
  | nil => rfl
  | cons m l ih => simp [List.flatMap_cons, eraCells, ih]; omega
theorem src_takeE {w : World} {mb off cap : Nat} {l : List EraD} {n : Nat} (h : Src w (.slice (some ⟨mb, off, none⟩) l.length cap) 3 l.length (l.flatMap eraCells)) (hn : n ≤ l.length) : Src w (.slice (some ⟨mb, off, none⟩) n cap) 3 (l.take n).length ((l.take n).flatMap eraCells) := by
  have hlen : (l.take n).length = n := by rw [List.length_take]; omega
  refine ⟨by rw [eraCells_len], .inr ⟨mb, off, cap, by rw [hlen], ?_, fun j u hu => ?_⟩⟩
  · rcases h.2 with ⟨h, -⟩ | ⟨_, _, _, h, hc, _⟩
    · cases h
    · cases h; rw [hlen]; omega
  · rcases h.2 with ⟨h, -⟩ | ⟨_, _, _, h, _, hr⟩
    · cases h
    · cases h
      refine hr j u ?_
      have hs : l.flatMap eraCells = (l.take n).flatMap eraCells ++ (l.drop n).flatMap eraCells := by rw [← List.flatMap_append, List.take_append_drop]
      rw [hs, List.getElem?_append_left (List.getElem?_eq_some_iff.1 hu).1]
      exact hu
/-- What holds of both folds. -/
def TwoAt (w : World) (Bf Bg : Nat) (ff gg : FoldS) (W : World) : Prop :=
  ∃ ow, Below w.heap.size w W ∧ (∀ k, k < w.heap.size → ow k = []) ∧ FoldAt Bf ff [1] ow W ∧ FoldAt Bg gg [2] ow W
/-- Entries by their number. -/
def ens (es : List (EntryD × Value)) (k : Nat) : List EntryD := (es.take k).map (·.1)
theorem ens_succ {es : List (EntryD × Value)} {k : Nat} {p : EntryD × Value} (h : es[k]? = some p) : ens es (k + 1) = ens es k ++ [p.1] := by
  unfold ens; rw [List.take_add_one, h]; simp
theorem ens_min (es : List (EntryD × Value)) (k m : Nat) : ens es (min k m) = (ens es k).take m := by
  unfold ens; rw [← List.map_take, List.take_take, Nat.min_comm]
theorem ens_len (es : List (EntryD × Value)) (k : Nat) : (ens es k).length ≤ k := by unfold ens; simp; omega
theorem TwoAt.below {w W W' : World} {Bf Bg : Nat} {ff gg : FoldS} (h : TwoAt w Bf Bg ff gg W) (hb : Below W.heap.size W W') : TwoAt w Bf Bg ff gg W' := by
  obtain ⟨ow, h1, h2, h3, h4⟩ := h
  exact ⟨ow, h1.trans (hb.mono h1.size), h2, (FoldAt.loc _ _ _).below h3 hb, (FoldAt.loc _ _ _).below h4 hb⟩
theorem apart12 : Apart [1] [2] := by constructor <;> (intro h; have := List.prefix_iff_eq_take.1 h; simp at this)
/-- An Apply of the first one; of the second one. -/
theorem TwoAt.first {w W W' : World} {Bf Bg : Nat} {ff gg : FoldS} {k : Nat} (h : TwoAt w Bf Bg ff gg W) {e : EntryD} {mv : Value} (hb : Below W.heap.size W W') (hR : Row W' 50 3 mv (cutE e).msgs.length ((cutE e).msgs.flatMap msgCells)) (hfr : ∀ g, mv.ownBlock = some g → W.heap.size ≤ g) (hB : FoldB ff k) (hk : k ≤ 100) :
    Calls Try.prog 10 #[.pointer (some ⟨Bf, 0, none⟩), entV (cutE e) mv] W' fun r w' => (∃ v, r = .returned v) ∧ TwoAt w Bf Bg (applyP ff (cutE e)).1 gg w' := by
  obtain ⟨ow, h1, h2, h3, h4⟩ := h
  refine (apply_cut (by simp) h3 hb hR hfr hB hk).mono ?_
  rintro r w2 ⟨v, ow2, rfl, hs, hF, -, -⟩
  have h5 := hs.belowW (by simp) h1 h2
  exact ⟨⟨_, rfl⟩, ow2, h5.1, h5.2, hF, (FoldAt.loc _ _ _).step h4 hs apart12⟩
theorem TwoAt.second {w W W' : World} {Bf Bg : Nat} {ff gg : FoldS} {k : Nat} (h : TwoAt w Bf Bg ff gg W) {e : EntryD} {mv : Value} (hb : Below W.heap.size W W') (hR : Row W' 50 3 mv (cutE e).msgs.length ((cutE e).msgs.flatMap msgCells)) (hfr : ∀ g, mv.ownBlock = some g → W.heap.size ≤ g) (hB : FoldB gg k) (hk : k ≤ 100) :
    Calls Try.prog 10 #[.pointer (some ⟨Bg, 0, none⟩), entV (cutE e) mv] W' fun r w' => (∃ v, r = .returned v) ∧ TwoAt w Bf Bg ff (applyP gg (cutE e)).1 w' := by
  obtain ⟨ow, h1, h2, h3, h4⟩ := h
  refine (apply_cut (by simp) h4 hb hR hfr hB hk).mono ?_
  rintro r w2 ⟨v, ow2, rfl, hs, hF, -, -⟩
  have h5 := hs.belowW (by simp) h1 h2
  exact ⟨⟨_, rfl⟩, ow2, h5.1, h5.2, (FoldAt.loc _ _ _).step h3 hs apart12.symm, hF⟩

set_option maxRecDepth 8000 in
set_option maxHeartbeats 2000000 in
theorem epochPrefix_true (v : Int) (lv : Value) (es : List (EntryD × Value)) (n : Int) (w : World) (hes : EntsIn w lv es) (hlen : es.length ≤ 9223372036854775807) : Calls Try.prog 5 #[.int .i64 v, lv, .int .i64 n] w fun r w' => r = .returned (.bool true) ∧ Below w.heap.size w w' := by
  obtain ⟨a, cap, rfl, hcs⟩ := hes.shape
  have hall := hes.2
  clear hes
  cases hk : known v
  · have hnew := fun W => fnew_no v hk W
    replace hcs : Hid (∀ _, _) := hcs
    replace hall : Hid (∀ _, _) := hall
    replace hnew : Hid (∀ _, _) := hnew
    go_enter Try.func5, Try.ntmps5
    go_wp2_with (first
      | (go_at_call 8; refine (shown_any _).mono ?_; rintro r w1 ⟨rfl, hb1⟩))
    refine (hnew.out _).mono ?_
    rintro r w2 ⟨rfl, hb2⟩
    go_wp2_with fail
    refine (hnew.out _).mono ?_
    rintro r w3 ⟨rfl, hb3⟩
    go_wp2
    go_ret
    exact ⟨rfl, pb_trans (pb_trans hb1 hb2) hb3⟩
  · replace hcs : Hid (∀ _, _) := hcs
    replace hall : Hid (∀ _, _) := hall
    go_enter Try.func5, Try.ntmps5
    go_wp2_with (first
      | (go_at_call 8; refine (shown_any _).mono ?_; rintro r w1 ⟨rfl, hb1⟩))
    refine (fnew_any v hk [1] (fun _ => []) _).mono ?_
    rintro r w2 ⟨Bf, ow2, rfl, hs2, -, hF2⟩
    replace hF2 : Hid (FoldAt _ _ _ _ _) := hF2
    go_wp2_with fail
    refine (fnew_any v hk [2] ow2 _).mono ?_
    rintro r w3 ⟨Bg, ow3, rfl, hs3, -, hF3⟩
    have htwo : TwoAt w Bf Bg (newFold v) (newFold v) w3 := by
      have h5 := hs2.belowW (by simp) hb1 (fun _ _ => rfl)
      have h6 := hs3.belowW (by simp) h5.1 h5.2
      exact ⟨ow3, h6.1, h6.2, (FoldAt.loc _ _ _).step hF2.out hs3 apart12.symm, hF3⟩
    clear hF2 hs2 hs3 hF3 hb1
    replace htwo : Hid (TwoAt _ _ _ _ _ _) := htwo
    go_wp2
    go_loopw [12] (fun p12 wr => ∃ k : Nat, p12 = .int .i64 k ∧ k ≤ es.length ∧ k ≤ 60 ∧ TwoAt w Bf Bg (runP (newFold v) (ens es k)) (runP (newFold v) (ens es (min k n.toNat))) wr) (fun p12 _ => 60 - (intOf p12).toNat)
    case atStart => exact ⟨0, rfl, Nat.zero_le _, Nat.zero_le _, by rw [Nat.zero_min]; exact htwo.out⟩
    case round =>
      obtain ⟨k, rfl, hk1, hk2, htw⟩ := hrel
      clear htwo
      have hbw : Below w.heap.size w wr := htw.choose_spec.1
      replace htw : Hid (TwoAt _ _ _ _ _ _) := htw
      by_cases hlt : k < es.length
      · by_cases hlt2 : k < 60
        · obtain ⟨p, hp⟩ : ∃ p, es[k]? = some p := ⟨_, List.getElem?_eq_getElem hlt⟩
          obtain ⟨b, off, rfl, hc⟩ := hcs.out k p hp
          have hmem := hall.out p (List.mem_of_getElem? hp)
          have hcw : ∀ W, Below w.heap.size w W → W.cell? ⟨b, off + k * 4, none⟩ = some (.int .i64 p.1.kind) ∧ W.cell? ⟨b, off + k * 4 + 1, none⟩ = some (.int .u32 p.1.epoch) ∧ W.cell? ⟨b, off + k * 4 + 2, none⟩ = some (.int .i64 p.1.ver) ∧ W.cell? ⟨b, off + k * 4 + 3, none⟩ = some p.2 := fun W hW => by
            have h : ∀ j u, j < 4 → (entCells p)[j]? = some u → W.cell? ⟨b, off + (k * 4 + j), none⟩ = some u := fun j u hj hu => by
              have h1 := hc j hj
              rw [hu] at h1; exact (hW.cell (cell_lt h1)).trans h1
            exact ⟨h 0 _ (by omega) rfl, h 1 _ (by omega) rfl, h 2 _ (by omega) rfl, h 3 _ (by omega) rfl⟩
          obtain ⟨c0, c1, c2, c3⟩ := hcw wr hbw
          have hcut := fun W (hW : Below w.heap.size w W) => cut_any p.1 p.2 W (hmem.1.below hW) hmem.2
          have hsucc := ens_succ hp
          have hBf := run_b (newFold_b v) (ens es k)
          have hBg := run_b (newFold_b v) (ens es (min k n.toNat))
          have hl1 := ens_len es k
          have hl2 := ens_len es (min k n.toNat)
          clear hc
          replace hcw : Hid (∀ _, _) := hcw
          unfold entV at hcut
          replace hcut : Hid (∀ _, _) := hcut
          replace hmem : Hid (_ ∧ _) := hmem
          replace hp : Hid (_ = _) := hp
          replace hsucc : Hid (_ = _) := hsucc
          replace hBf : Hid (FoldB _ _) := hBf
          replace hBg : Hid (FoldB _ _) := hBg
          go_wp2_with fail
          refine (hcut.out _ hbw).mono ?_
          rintro r w4 ⟨mv4, rfl, hR4, hb4, hf4⟩
          replace hf4 : Hid (∀ _, _) := hf4
          go_wp2_with fail
          refine (htw.out.first hb4 hR4 hf4.out hBf.out (by omega)).mono ?_
          rintro r w5 ⟨⟨vr, rfl⟩, htw5⟩
          have hbw5 : Below w.heap.size w w5 := htw5.choose_spec.1
          replace htw5 : Hid (TwoAt _ _ _ _ _ _) := htw5
          obtain ⟨d0, d1, d2, d3⟩ := hcw.out w5 hbw5
          clear c0 c1 c2 c3
          by_cases hkn : (k : Int) < n
          · go_wp2_with fail
            refine (hcut.out _ hbw5).mono ?_
            rintro r w6 ⟨mv6, rfl, hR6, hb6, hf6⟩
            replace hf6 : Hid (∀ _, _) := hf6
            go_wp2_with fail
            refine (htw5.out.second hb6 hR6 hf6.out hBg.out (by omega)).mono ?_
            rintro r w7 ⟨⟨vr7, rfl⟩, htw7⟩
            replace htw7 : Hid (TwoAt _ _ _ _ _ _) := htw7
            have hmin : Hid (min (k + 1) n.toNat = min k n.toNat + 1 ∧ min k n.toNat = k) := by constructor <;> omega
            clear d0 d1 d2 d3
            go_wp2
            go_roundw
            case rel =>
              refine ⟨k + 1, by go_num, by omega, by omega, ?_⟩
              have h := htw7.out
              rw [hmin.out.1, hmin.out.2, hsucc.out, runP_snoc]
              rw [hmin.out.2] at h
              exact h
            case measure => simp [intOf]; omega
          · have hmin : Hid (min (k + 1) n.toNat = min k n.toNat) := by show min (k + 1) n.toNat = min k n.toNat; omega
            clear d0 d1 d2 d3
            go_wp2
            go_roundw
            case rel =>
              refine ⟨k + 1, by go_num, by omega, by omega, ?_⟩
              rw [hmin.out, hsucc.out, runP_snoc]
              exact htw5.out
            case measure => simp [intOf]; omega
        · obtain rfl : k = 60 := by omega
          have hpre := run_take (newFold_b v) (ens es 60) n.toNat
          rw [← ens_min] at hpre
          have hB1 := run_b (newFold_b v) (ens es 60)
          have hB2 := run_b (newFold_b v) (ens es (min 60 n.toNat))
          have hl1 := ens_len es 60
          have hl2 := ens_len es (min 60 n.toNat)
          obtain ⟨ow, hbw', ho, hF, hG⟩ := htw.out
          clear htw hbw'
          generalize runP (newFold v) (ens es 60) = ff at *
          generalize runP (newFold v) (ens es (min 60 n.toNat)) = gg at *
          have hla : ff.book.log.length ≤ 10000 := by have := hB1.few; unfold bookN at this; omega
          have hlb : gg.book.log.length ≤ 10000 := by have := hB2.few; unfold bookN at this; omega
          have hlc : ff.eras.length ≤ 10000 := by have := hB1.eras; omega
          have hld : gg.eras.length ≤ 10000 := by have := hB2.eras; omega
          have hne : 0 < ff.eras.length := List.length_pos_iff.2 hF.1
          have hneg : 0 < gg.eras.length := List.length_pos_iff.2 hG.1
          have hp1 := hpre.1.length_le
          have hp2 := hpre.2.length_le
          have hq1 := List.prefix_iff_eq_take.1 hpre.1
          have hq2 := List.prefix_iff_eq_take.1 hpre.2
          clear hpre hB1 hB2
          replace hF : Hid (FoldAt _ _ _ _ _) := hF
          replace hG : Hid (FoldAt _ _ _ _ _) := hG
          replace hq1 : Hid (_ = _) := hq1
          replace hq2 : Hid (_ = _) := hq2
          replace ho : Hid (∀ _, _) := ho
          go_wp2_with fail
          refine (foldLog_any Bf ff [1] ow _ hF.out (by omega)).mono ?_
          rintro r w4 ⟨va, rfl, hRa, hb4, -⟩
          go_wp2_with fail
          refine (foldLog_any Bg gg [2] ow _ ((FoldAt.loc _ _ _).below hG.out hb4) (by omega)).mono ?_
          rintro r w5 ⟨vb, rfl, hRb, hb5, -⟩
          go_wp2_with fail
          refine (eras_any Bf ff [1] ow _ ((FoldAt.loc _ _ _).below ((FoldAt.loc _ _ _).below hF.out hb4) hb5) (by omega)).mono ?_
          rintro r w6 ⟨vc, rfl, hRc, hb6, -⟩
          go_wp2_with fail
          refine (eras_any Bg gg [2] ow _ ((FoldAt.loc _ _ _).below ((FoldAt.loc _ _ _).below ((FoldAt.loc _ _ _).below hG.out hb4) hb5) hb6) (by omega)).mono ?_
          rintro r w7 ⟨vd, rfl, hRd, hb7, -⟩
          have hbw7 : Below w.heap.size w w7 := pb_trans (pb_trans (pb_trans (pb_trans hbw hb4) hb5) hb6) hb7
          have sA := ((hRa.below hb5).below hb6).below hb7
          have sB := (hRb.below hb6).below hb7
          have sC := hRc.below hb7
          have sD := hRd
          clear hRa hRb hRc hRd hb4 hb5 hb6 hb7 hbw hF hG
          have sB' := sB.src
          have sD' := sD.src
          have hdm : decide (gg.book.log = ff.book.log.take gg.book.log.length) = true := by rw [← hq1.out]; simp
          have hde : decide (gg.eras = ff.eras.take gg.eras.length) = true := by rw [← hq2.out]; simp
          obtain ⟨ab, cb, rfl⟩ := sB'.shape
          obtain ⟨ad, cd, rfl⟩ := sD'.shape
          have t1 : decide ((gg.book.log.length : Int) ≤ (ff.book.log.length : Int)) = true := by simp; omega
          have t2 : decide ((gg.eras.length : Int) ≤ (ff.eras.length : Int)) = true := by simp; omega
          rcases sC.form with ⟨-, h, -⟩ | ⟨gc, cc, rfl, hcc, -⟩
          · omega
          rcases sA.form with ⟨rfl, hn0, -⟩ | ⟨ga, ca, rfl, hca, -⟩
          · have hla0 : ff.book.log = [] := List.eq_nil_of_length_eq_zero hn0
            have hlb0 : gg.book.log = [] := List.eq_nil_of_length_eq_zero (by omega)
            clear sA hq1 hdm hla hlb hp1
            generalize ff.book.log = lal at *
            generalize gg.book.log = lbl at *
            subst hla0
            subst hlb0
            clear hn0
            have hsame1 := sameMsg_any _ (.slice none 0 0) [] [] w7 sB' (msgs_nil w7) (by simp) (by simp)
            have hsame2 := fun W (hW : Below w7.heap.size w7 W) => sameEra_any _ _ gg.eras (ff.eras.take gg.eras.length) W (sD'.below hW) (src_takeE (sC.src.below hW) (by omega)) (by omega) (by rw [List.length_take]; omega)
            rw [hde] at hsame2
            rw [show decide (([] : List MsgD) = []) = true from rfl] at hsame1
            replace hsame1 : Hid (Calls _ _ _ _ _) := hsame1
            replace hsame2 : Hid (∀ _, _) := hsame2
            clear sC sD sD' hde hq2 sB sB'
            go_wp2_with fail
            refine hsame1.out.mono ?_
            rintro r w8 ⟨rfl, hb8⟩
            go_wp2_with fail
            refine (hsame2.out _ hb8).mono ?_
            rintro r w9 ⟨rfl, hb9⟩
            go_wp2
            go_ret
            exact ⟨rfl, pb_trans (pb_trans hbw7 hb8) hb9⟩
          · have hsame1 := sameMsg_any _ _ gg.book.log (ff.book.log.take gg.book.log.length) w7 sB' (src_take sA.src (by omega)) (by omega) (by rw [List.length_take]; omega)
            rw [hdm] at hsame1
            clear sA sB sB' hdm hq1
            replace hsame1 : Hid (Calls _ _ _ _ _) := hsame1
            have hsame2 := fun W (hW : Below w7.heap.size w7 W) => sameEra_any _ _ gg.eras (ff.eras.take gg.eras.length) W (sD'.below hW) (src_takeE (sC.src.below hW) (by omega)) (by omega) (by rw [List.length_take]; omega)
            rw [hde] at hsame2
            replace hsame2 : Hid (∀ _, _) := hsame2
            clear sC sD sD' hde hq2
            go_wp2_with fail
            refine hsame1.out.mono ?_
            rintro r w8 ⟨rfl, hb8⟩
            go_wp2_with fail
            refine (hsame2.out _ hb8).mono ?_
            rintro r w9 ⟨rfl, hb9⟩
            go_wp2
            go_ret
            exact ⟨rfl, pb_trans (pb_trans hbw7 hb8) hb9⟩
      · obtain rfl : k = es.length := by omega
        have hpre := run_take (newFold_b v) (ens es es.length) n.toNat
        rw [← ens_min] at hpre
        have hB1 := run_b (newFold_b v) (ens es es.length)
        have hB2 := run_b (newFold_b v) (ens es (min es.length n.toNat))
        have hl1 := ens_len es es.length
        have hl2 := ens_len es (min es.length n.toNat)
        obtain ⟨ow, hbw', ho, hF, hG⟩ := htw.out
        clear htw hbw'
        generalize runP (newFold v) (ens es es.length) = ff at *
        generalize runP (newFold v) (ens es (min es.length n.toNat)) = gg at *
        have hla : ff.book.log.length ≤ 10000 := by have := hB1.few; unfold bookN at this; omega
        have hlb : gg.book.log.length ≤ 10000 := by have := hB2.few; unfold bookN at this; omega
        have hlc : ff.eras.length ≤ 10000 := by have := hB1.eras; omega
        have hld : gg.eras.length ≤ 10000 := by have := hB2.eras; omega
        have hne : 0 < ff.eras.length := List.length_pos_iff.2 hF.1
        have hneg : 0 < gg.eras.length := List.length_pos_iff.2 hG.1
        have hp1 := hpre.1.length_le
        have hp2 := hpre.2.length_le
        have hq1 := List.prefix_iff_eq_take.1 hpre.1
        have hq2 := List.prefix_iff_eq_take.1 hpre.2
        clear hpre hB1 hB2
        replace hF : Hid (FoldAt _ _ _ _ _) := hF
        replace hG : Hid (FoldAt _ _ _ _ _) := hG
        replace hq1 : Hid (_ = _) := hq1
        replace hq2 : Hid (_ = _) := hq2
        replace ho : Hid (∀ _, _) := ho
        go_wp2_with fail
        refine (foldLog_any Bf ff [1] ow _ hF.out (by omega)).mono ?_
        rintro r w4 ⟨va, rfl, hRa, hb4, -⟩
        go_wp2_with fail
        refine (foldLog_any Bg gg [2] ow _ ((FoldAt.loc _ _ _).below hG.out hb4) (by omega)).mono ?_
        rintro r w5 ⟨vb, rfl, hRb, hb5, -⟩
        go_wp2_with fail
        refine (eras_any Bf ff [1] ow _ ((FoldAt.loc _ _ _).below ((FoldAt.loc _ _ _).below hF.out hb4) hb5) (by omega)).mono ?_
        rintro r w6 ⟨vc, rfl, hRc, hb6, -⟩
        go_wp2_with fail
        refine (eras_any Bg gg [2] ow _ ((FoldAt.loc _ _ _).below ((FoldAt.loc _ _ _).below ((FoldAt.loc _ _ _).below hG.out hb4) hb5) hb6) (by omega)).mono ?_
        rintro r w7 ⟨vd, rfl, hRd, hb7, -⟩
        have hbw7 : Below w.heap.size w w7 := pb_trans (pb_trans (pb_trans (pb_trans hbw hb4) hb5) hb6) hb7
        have sA := ((hRa.below hb5).below hb6).below hb7
        have sB := (hRb.below hb6).below hb7
        have sC := hRc.below hb7
        have sD := hRd
        clear hRa hRb hRc hRd hb4 hb5 hb6 hb7 hbw hF hG
        have sB' := sB.src
        have sD' := sD.src
        have hdm : decide (gg.book.log = ff.book.log.take gg.book.log.length) = true := by rw [← hq1.out]; simp
        have hde : decide (gg.eras = ff.eras.take gg.eras.length) = true := by rw [← hq2.out]; simp
        obtain ⟨ab, cb, rfl⟩ := sB'.shape
        obtain ⟨ad, cd, rfl⟩ := sD'.shape
        have t1 : decide ((gg.book.log.length : Int) ≤ (ff.book.log.length : Int)) = true := by simp; omega
        have t2 : decide ((gg.eras.length : Int) ≤ (ff.eras.length : Int)) = true := by simp; omega
        rcases sC.form with ⟨-, h, -⟩ | ⟨gc, cc, rfl, hcc, -⟩
        · omega
        rcases sA.form with ⟨rfl, hn0, -⟩ | ⟨ga, ca, rfl, hca, -⟩
        · have hla0 : ff.book.log = [] := List.eq_nil_of_length_eq_zero hn0
          have hlb0 : gg.book.log = [] := List.eq_nil_of_length_eq_zero (by omega)
          clear sA hq1 hdm hla hlb hp1
          generalize ff.book.log = lal at *
          generalize gg.book.log = lbl at *
          subst hla0
          subst hlb0
          clear hn0
          have hsame1 := sameMsg_any _ (.slice none 0 0) [] [] w7 sB' (msgs_nil w7) (by simp) (by simp)
          have hsame2 := fun W (hW : Below w7.heap.size w7 W) => sameEra_any _ _ gg.eras (ff.eras.take gg.eras.length) W (sD'.below hW) (src_takeE (sC.src.below hW) (by omega)) (by omega) (by rw [List.length_take]; omega)
          rw [hde] at hsame2
          rw [show decide (([] : List MsgD) = []) = true from rfl] at hsame1
          replace hsame1 : Hid (Calls _ _ _ _ _) := hsame1
          replace hsame2 : Hid (∀ _, _) := hsame2
          clear sC sD sD' hde hq2 sB sB'
          go_wp2_with fail
          refine hsame1.out.mono ?_
          rintro r w8 ⟨rfl, hb8⟩
          go_wp2_with fail
          refine (hsame2.out _ hb8).mono ?_
          rintro r w9 ⟨rfl, hb9⟩
          go_wp2
          go_ret
          exact ⟨rfl, pb_trans (pb_trans hbw7 hb8) hb9⟩
        · have hsame1 := sameMsg_any _ _ gg.book.log (ff.book.log.take gg.book.log.length) w7 sB' (src_take sA.src (by omega)) (by omega) (by rw [List.length_take]; omega)
          rw [hdm] at hsame1
          clear sA sB sB' hdm hq1
          replace hsame1 : Hid (Calls _ _ _ _ _) := hsame1
          have hsame2 := fun W (hW : Below w7.heap.size w7 W) => sameEra_any _ _ gg.eras (ff.eras.take gg.eras.length) W (sD'.below hW) (src_takeE (sC.src.below hW) (by omega)) (by omega) (by rw [List.length_take]; omega)
          rw [hde] at hsame2
          replace hsame2 : Hid (∀ _, _) := hsame2
          clear sC sD sD' hde hq2
          go_wp2_with fail
          refine hsame1.out.mono ?_
          rintro r w8 ⟨rfl, hb8⟩
          go_wp2_with fail
          refine (hsame2.out _ hb8).mono ?_
          rintro r w9 ⟨rfl, hb9⟩
          go_wp2
          go_ret
          exact ⟨rfl, pb_trans (pb_trans hbw7 hb8) hb9⟩
end Go.Proofs.Ytlfledeldhhllaa
