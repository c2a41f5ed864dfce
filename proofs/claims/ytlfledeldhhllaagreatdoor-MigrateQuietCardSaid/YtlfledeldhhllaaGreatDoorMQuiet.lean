/- WALK: the statement MigrateQuiet answers true. Condition: the registry's error variable holds its error; the messages came in as arguments do. -/
import Derived.Test.YtlfledeldhhllaaGreatDoorMOne
namespace Go.Proofs.YtlfledeldhhllaaGreatDoor
open Go Go.RowKit Go.Shelf Go.Extern.Stop Go.Stop Go.Extern
attribute [local go_sem] Oper.semAt_some wide_fn wide_depth

theorem first_apply (v w : Int) : (∃ f er, applyP (newFold v) ⟨2, 1, w, []⟩ = (f, [], false, er) ∧ f.eras = [(1, v, 0)]) ∨ (∃ f, applyP (newFold v) ⟨2, 1, w, []⟩ = (f, [], true, 0) ∧ nowP f.eras = (2, w, 1) ∧ v ≠ w) := by
  unfold applyP
  split
  · exact .inl ⟨_, _, rfl, rfl⟩
  · rw [if_neg (by simp [newFold, nowP]), if_neg (by simp), if_pos rfl]
    split
    · exact .inl ⟨_, _, rfl, rfl⟩
    · rename_i hc
      have := checkE_zero (Decidable.not_not.1 hc)
      exact .inr ⟨_, rfl, rfl, this.2.2.2.2⟩
theorem release_blk (L : LocalS) (h : L.blk = true) : releaseL L = (L, []) := by unfold releaseL; rw [h]; rfl
theorem release_nil (L : LocalS) (h : L.held = []) : (releaseL L).2 = [] ∧ (releaseL L).1.blk = L.blk ∧ (releaseL L).1.held = [] ∧ (releaseL L).1.log = L.log ∧ (releaseL L).1.fold = L.fold := by
  unfold releaseL
  split
  · exact ⟨rfl, rfl, h, rfl, rfl⟩
  · simp [h]
/-- Behind a switch that fails. -/
theorem quiet_first (v w : Int) (hv : known v = true) : ∃ L, (applyL (newL v (stBegin v)) ⟨2, 1, w, []⟩ true).1 = L ∧ L.held = [] ∧ L.log = [] ∧ (L.blk = false ∧ (nowP L.fold.eras).1 = 1 ∨ L.blk = true) := by
  refine ⟨_, rfl, ?_⟩
  obtain ⟨d, hd⟩ := begin_one hv
  have hst : (stBegin v).1 = v := by unfold stBegin; rw [hd]
  have hf : (newL v (stBegin v)).fold = newFold v := rfl
  unfold applyL
  rw [hf]
  rcases first_apply v w with ⟨f, er, h1, h2⟩ | ⟨f, h1, h2, h3⟩
  · rw [h1]
    split
    · exact ⟨rfl, rfl, .inl ⟨rfl, by show (nowP f.eras).1 = 1; rw [h2]; rfl⟩⟩
    · have hr := release_nil (holdL (midL (newL v (stBegin v)) (f, [], false, er) true) []) rfl
      exact ⟨hr.2.2.1, hr.2.2.2.1.trans rfl, .inl ⟨hr.2.1.trans rfl, by rw [hr.2.2.2.2]; show (nowP f.eras).1 = 1; rw [h2]; rfl⟩⟩
  · rw [h1, if_neg (by simp)]
    have hm : ∀ x, migSt (stBegin v) x true = stBegin v := fun x => by unfold migSt; rw [if_neg (by simp)]
    have hb : (holdL (midL (newL v (stBegin v)) (f, [], true, 0) true) []).blk = true := by
      show decide ((migSt (stBegin v) (nowP f.eras).2.1 true).1 ≠ (nowP f.eras).2.1) = true
      rw [hm, hst, h2]
      simpa using h3
    have hr := release_nil (holdL (midL (newL v (stBegin v)) (f, [], true, 0) true) []) rfl
    exact ⟨hr.2.2.1, hr.2.2.2.1.trans rfl, .inr (hr.2.1.trans hb)⟩
theorem batch_begun (f : FoldS) (l : List MsgD) : (applyP f ⟨1, 2, 0, l⟩).2.2.1 = false := by
  unfold applyP
  split
  · rfl
  · split
    · rfl
    · rw [if_pos rfl]
/-- A batch of the second epoch then. -/
theorem quiet_second (L : LocalS) (l : List MsgD) (h1 : L.held = []) (h2 : L.log = []) (h : L.blk = false ∧ (nowP L.fold.eras).1 = 1 ∨ L.blk = true) : (applyL L ⟨1, 2, 0, l⟩ false).2.1 = [] ∧ (applyL L ⟨1, 2, 0, l⟩ false).1.blk = L.blk ∧ (L.blk = true → (applyL L ⟨1, 2, 0, l⟩ false).1.log = []) := by
  unfold applyL
  split
  · exact ⟨rfl, rfl, fun _ => h2⟩
  · rename_i her
    have hbeg := batch_begun L.fold l
    have hmid : midL L (applyP L.fold ⟨1, 2, 0, l⟩) false = { L with fold := (applyP L.fold ⟨1, 2, 0, l⟩).1 } := by unfold midL; rw [hbeg]; rfl
    rw [hmid]
    rcases h with ⟨hb, hn⟩ | hb
    · have hd : (applyP L.fold ⟨1, 2, 0, l⟩).2.1 = [] := by
        unfold applyP
        split
        · rfl
        · rw [if_pos (by rw [hn]; simp)]
      rw [hd]
      have hr := release_nil (holdL { L with fold := (applyP L.fold ⟨1, 2, 0, l⟩).1 } []) (by show L.held ++ [] = []; rw [h1]; rfl)
      exact ⟨hr.1, hr.2.1, fun h => by rw [hb] at h; cases h⟩
    · rw [release_blk (holdL { L with fold := (applyP L.fold ⟨1, 2, 0, l⟩).1 } _) hb]
      exact ⟨rfl, rfl, fun _ => h2⟩

set_option maxRecDepth 8000 in
set_option maxHeartbeats 1000000 in
theorem migrateQuiet_true (a : Addr) (v : Int) (w : Int) (mv : Value) (l : List MsgD) (W : World) (he : ErrAt W a) (hm : MsgsIn W mv l) (hok : MsgsOk l) : Calls Tryz.prog 3 #[.int .i64 v, .int .i64 w, mv] W fun r w' => r = .returned (.bool true) ∧ Below W.heap.size W w' := by
  obtain ⟨l', hl'⟩ : ∃ l', cutL (l.take 70) = l' := ⟨_, rfl⟩
  have hcut : ∀ W', Below W.heap.size W W' → Calls Tryz.prog 9 #[.agg #[.int .i64 1, .int .u32 2, .int .i64 0, mv]] W' fun r w' => ∃ mv', r = .returned (.agg #[.int .i64 1, .int .u32 2, .int .i64 0, mv']) ∧ Row w' 54 3 mv' l'.length (l'.flatMap msgCells) ∧ Below W'.heap.size W' w' ∧ (∀ g, mv'.ownBlock = some g → W'.heap.size ≤ g) := fun W' hW => by
    rw [← hl']; exact cut15_any ⟨1, 2, 0, l⟩ mv W' (hm.below hW) hok
  have hll : l'.length ≤ 70 := by rw [← hl']; unfold cutL; simp; omega
  replace hl' : Hid (_ = _) := hl'
  obtain ⟨ma, mn, mc, rfl⟩ : ∃ ma mn mc, mv = .slice ma mn mc := by
    rcases hm with h | ⟨a, h, -⟩
    · obtain ⟨x, y, h⟩ := h.shape; exact ⟨_, _, _, h⟩
    · exact ⟨_, _, _, h⟩
  replace hcut : Hid (∀ _, _) := hcut
  have hsh := shown15_any a W he
  replace hsh : Hid (Calls _ _ _ _ _) := hsh
  have heW := fun W' (hW : Below W.heap.size W W') => he.below hW he.lt
  replace heW : Hid (∀ _, _) := heW
  clear hm hok
  cases hk : known v
  · have hnew := lNew_no v hk
    replace hnew : Hid (∀ _, _) := hnew
    go_enter Tryz.func3, Tryz.ntmps3
    go_wp2_with fail
    refine hsh.out.mono ?_
    rintro r w1 ⟨rfl, hb1⟩
    go_wp2_with fail
    refine (hnew.out _).mono ?_
    rintro r w2 ⟨rfl, hb2⟩
    go_wp2
    go_ret
    exact ⟨rfl, pb_trans hb1 hb2⟩
  · have hnew := fun W' (hW : Below W.heap.size W W') => lNew_any a v hk [1] (fun _ => []) W' (heW.out W' hW)
    replace hnew : Hid (∀ _, _) := hnew
    have hq := fun x => quiet_first v x hk
    replace hq : Hid (∀ _, _) := hq
    replace hk : Hid (_ = _) := hk
    go_enter Tryz.func3, Tryz.ntmps3
    go_wp2_with fail
    refine hsh.out.mono ?_
    rintro r w1 ⟨rfl, hb1⟩
    go_wp2_with fail
    refine (hnew.out _ hb1).mono ?_
    rintro r w2 ⟨B, ow2, rfl, hs2, -, hF2⟩
    have h2 : OneL W B (newL v (stBegin v)) w2 := OneL.new hb1 hs2 hF2
    replace h2 : Hid (OneL _ _ _ _) := h2
    clear hs2 hF2
    go_wp2_with fail
    generalize bits BinOp.and IntKind.i64 w 255 = x
    have q3 := h2.out.applyNil he (e := ⟨2, 1, x, []⟩) (fails := true) rfl (newL_b _ _) (by omega)
    obtain ⟨L1, hL1, hh, hg, hbb⟩ := hq.out x
    have hB1 : LocalB L1 1 := by rw [← hL1]; exact applyL_b (newL_b _ _) _ _
    replace q3 : Hid (Calls _ _ _ _ _) := q3
    refine q3.out.mono ?_
    rintro r w3 ⟨v3, rfl, h3, -⟩
    rw [hL1] at h3
    obtain ⟨p1, p2, p3⟩ := quiet_second L1 l' hh hg hbb
    have hap := fun (mv4 : Value) (w5 : World) (hb : Below w3.heap.size w3 w5) (hm : MsgsAt w5 mv4 l') (hfr : ∀ b l c, mv4 = .slice (some b) l c → w3.heap.size ≤ b.block) => h3.apply (e := ⟨1, 2, 0, l'⟩) (mv := mv4) (fails := false) he hb hm (by show l'.length ≤ _; omega) hfr hB1 (by omega) rfl
    unfold entV at hap
    generalize applyL L1 ⟨1, 2, 0, l'⟩ false = R at *
    obtain ⟨L2, ms, er⟩ := R
    simp only at p1 p2 p3
    subst p1
    obtain ⟨b, hb⟩ : ∃ b, L1.blk = b := ⟨_, rfl⟩
    rw [hb] at p2 p3
    replace hb : Hid (_ = _) := hb
    replace hap : Hid (∀ _, _) := hap
    replace p2 : Hid (_ = _) := p2
    replace p3 : Hid (_ → _) := p3
    replace hL1 : Hid (_ = _) := hL1
    replace hbb : Hid (_ ∨ _) := hbb
    replace hh : Hid (_ = _) := hh
    replace hg : Hid (_ = _) := hg
    have hb3 := h3.bel
    replace h3 : Hid (OneL _ _ _ _) := h3
    go_wp2_with fail
    refine (hcut.out _ hb3).mono ?_
    rintro r w4 ⟨mv4, rfl, hR4, hb4, hf4⟩
    have hap5 := hap.out mv4 (w4.alloc (.cells #[.int .i64 1, .int .u32 2, .int .i64 0, mv4] 32)) (pb_alloc hb4 _) (hR4.src.below (pb_alloc (Below.refl _ _) _)) (fun b l c h => hf4 b.block (by rw [h]; rfl))
    obtain ⟨sa, sc, rfl⟩ := hR4.src.shape
    replace hap5 : Hid (Calls _ _ _ _ _) := hap5
    clear hR4 hf4 hap
    go_wp2_with fail
    refine hap5.out.mono ?_
    intro r w6 hq6
    obtain ⟨v6, c6, rfl, h6, -, -, -⟩ := hq6.of (ms := []) (er := er) rfl (n := 0) rfl
    replace h6 : Hid (OneL _ _ _ _) := h6
    go_wp2_with fail
    refine (h6.out.blocked p2.out).mono ?_
    rintro r w7 ⟨rfl, -, rfl⟩
    cases b
    · by_cases h0 : er = 0
      · subst h0
        go_wp2
        go_ret
        exact ⟨rfl, h6.out.bel⟩
      · have t0 : (er != 0) = true := by simpa using h0
        go_wp2
        go_ret
        exact ⟨rfl, h6.out.bel⟩
    · have hg2 := p3.out rfl
      have hlg := h6.out.log (by show L2.log.length ≤ _; rw [hg2]; simp)
      simp only [hg2, List.length_nil] at hlg
      replace hlg : Hid (Calls _ _ _ _ _) := hlg
      replace hg2 : Hid (_ = _) := hg2
      go_wp2_with fail
      refine hlg.out.mono ?_
      rintro r w8 ⟨v8, rfl, hR8, hb8, -⟩
      obtain ⟨sa8, sc8, rfl⟩ := hR8.src.shape
      go_wp2
      go_ret
      exact ⟨rfl, pb_trans h6.out.bel hb8⟩
end Go.Proofs.YtlfledeldhhllaaGreatDoor
