/- WALK: the statement EpochOnce answers true. Condition: the entries came in as arguments do. -/
import Derived.Test.YtlfledeldhhllaaFold1
import Derived.Test.YtlfledeldhhllaaOnceP
namespace Go.Proofs.Ytlfledeldhhllaa
open Go Go.RowKit Go.Shelf Go.Extern.Stop Go.Stop Go.Extern
attribute [local go_sem] Oper.semAt_some wide_fn wide_depth

/-- The cells of an array of counts. -/
def tkC (tk : List Nat) : Array Value := (tk.map fun n => Value.int .u32 (n : Nat)).toArray
theorem tkC_set (tk : List Nat) (i c : Nat) : (tkC tk).setIfInBounds i (.int .u32 (c : Nat)) = tkC (tk.set i c) := by
  unfold tkC; simp
theorem tkC_at {tk : List Nat} {i : Nat} (h : i < tk.length) : (tkC tk)[i]? = some (.int .u32 ((tk[i]?.getD 0 : Nat) : Int)) := by
  unfold tkC; simp [h]
/-- The fold, and a block beside it. -/
def OnceAt (w : World) (Bf Bn : Nat) (ff : FoldS) (tk : List Nat) (W : World) : Prop :=
  ∃ ow, Below w.heap.size w W ∧ (∀ k, k < w.heap.size → ow k = []) ∧ FoldAt Bf ff [1] ow W ∧ ow Bn = [] ∧ w.heap.size ≤ Bn ∧ Blk W Bn (tkC tk) 46
theorem OnceAt.below {w W W' : World} {Bf Bn : Nat} {ff : FoldS} {tk : List Nat} (h : OnceAt w Bf Bn ff tk W) (hb : Below W.heap.size W W') : OnceAt w Bf Bn ff tk W' := by
  obtain ⟨ow, h1, h2, h3, h4, h5, h6⟩ := h
  exact ⟨ow, h1.trans (hb.mono h1.size), h2, (FoldAt.loc _ _ _).below h3 hb, h4, h5, h6.call hb⟩
theorem OnceAt.one {w W : World} {Bf Bn : Nat} {ff : FoldS} {tk : List Nat} (h : OnceAt w Bf Bn ff tk W) : OneAt w Bf ff W := by
  obtain ⟨ow, h1, h2, h3, -⟩ := h
  exact ⟨ow, h1, h2, h3⟩
theorem OnceAt.set {w W : World} {Bf Bn : Nat} {ff : FoldS} {tk : List Nat} (h : OnceAt w Bf Bn ff tk W) (i c : Nat) : OnceAt w Bf Bn ff (tk.set i c) (W.setCell ⟨Bn, i, none⟩ (.int .u32 (c : Nat))) := by
  obtain ⟨ow, h1, h2, h3, h4, h5, h6⟩ := h
  refine ⟨ow, h1.setCell h5 _, h2, ?_, h4, h5, by rw [← tkC_set]; exact h6.set _⟩
  exact (FoldAt.loc Bf ff [1]) ow ow W _ h3 (by simp) (fun k hk hs => ⟨rfl, Below.heap_setCell _ _ _ _ (show k ≠ Bn from fun e => by subst e; rw [h4] at hs; exact not_sub_nil (by simp) hs)⟩)
/-- An Apply of an entry that was cut. -/
theorem OnceAt.apply {w W W' : World} {Bf Bn : Nat} {ff : FoldS} {tk : List Nat} {k : Nat} (h : OnceAt w Bf Bn ff tk W) {e : EntryD} {mv : Value} (hb : Below W.heap.size W W') (hR : Row W' 50 3 mv (cutE e).msgs.length ((cutE e).msgs.flatMap msgCells)) (hfr : ∀ g, mv.ownBlock = some g → W.heap.size ≤ g) (hB : FoldB ff k) (hk : k ≤ 100) :
    Calls Try.prog 10 #[.pointer (some ⟨Bf, 0, none⟩), entV (cutE e) mv] W' fun r w' => ∃ v, r = .returned (.tuple #[v, .bool (applyP ff (cutE e)).2.2.1, .int .i64 (applyP ff (cutE e)).2.2.2]) ∧ OnceAt w Bf Bn (applyP ff (cutE e)).1 tk w' ∧ Row w' 50 3 v (applyP ff (cutE e)).2.1.length ((applyP ff (cutE e)).2.1.flatMap msgCells) ∧ (∀ j, W.heap.size ≤ j → j < W'.heap.size → w'.heap[j]? = W'.heap[j]?) := by
  obtain ⟨ow, h1, h2, h3, h4, h5, h6⟩ := h
  have hl : (cutE e).msgs.length ≤ 1073741824 := by
    unfold cutE cutL; simp; omega
  refine (apply_any Bf ff [1] (by simp) (ow.cut W) (cutE e) mv W' ((FoldAt.loc Bf ff [1]).cut h3 hb) hR.src (fun a l c h hs => ?_) (by have := hB.few; omega) (by have := hB.eras; omega) hl ⟨hB.low, by have := hB.high; omega⟩).mono ?_
  · rcases hR.form with ⟨h1, -⟩ | ⟨g, cap, h1, -⟩
    · rw [h1] at h; cases h
    · rw [h1] at h; cases h
      rw [Own.cut_new (hfr g (by rw [h1]; rfl))] at hs
      exact not_sub_nil (by simp) hs
  · rintro r w2 ⟨v, ow2, rfl, hs0, hF, hR2, -⟩
    have hs := Step.wrap hb hs0
    have hq := hs.belowW (by simp) h1 h2
    have hn : ¬ Sub [1] (ow Bn) := by rw [h4]; exact not_sub_nil (by simp)
    refine ⟨v, rfl, ⟨ow2, hq.1, hq.2, hF, (hs.agree Bn h6.lt).trans h4, h5, h6.kept (hs.block h6.lt hn)⟩, hR2, fun j hj hj2 => ?_⟩
    exact hs0.block hj2 (by rw [Own.cut_new hj]; exact not_sub_nil (by simp))

set_option maxRecDepth 8000 in
set_option maxHeartbeats 2000000 in
theorem epochOnce_true (v : Int) (lv : Value) (es : List (EntryD × Value)) (w : World) (hes : EntsIn w lv es) (hlen : es.length ≤ 9223372036854775807) : Calls Try.prog 6 #[.int .i64 v, lv] w fun r w' => r = .returned (.bool true) ∧ Below w.heap.size w w' := by
  obtain ⟨a, cap, rfl, hcs⟩ := hes.shape
  have hall := hes.2
  clear hes
  replace hcs : Hid (∀ _, _) := hcs
  replace hall : Hid (∀ _, _) := hall
  cases hk : known v
  · have hnew := fun W => fnew_no v hk W
    replace hnew : Hid (∀ _, _) := hnew
    go_enter Try.func6, Try.ntmps6
    go_wp2_with (first
      | (go_at_call 8; refine (shown_any _).mono ?_; rintro r w1 ⟨rfl, hb1⟩))
    refine (hnew.out _).mono ?_
    rintro r w2 ⟨rfl, hb2⟩
    go_wp2
    go_ret
    exact ⟨rfl, pb_trans hb1 hb2⟩
  · go_enter Try.func6, Try.ntmps6
    go_wp2_with (first
      | (go_at_call 8; refine (shown_any _).mono ?_; rintro r w1 ⟨rfl, hb1⟩))
    refine (fnew_any v hk [1] (fun _ => []) _).mono ?_
    rintro r w2 ⟨Bf, ow2, rfl, hs2, -, hF2⟩
    have hone : OneAt w Bf (newFold v) w2 := OneAt.new hb1 hs2 hF2
    clear hs2 hF2 hb1
    replace hone : Hid (OneAt _ _ _ _) := hone
    go_wp2
    have hz2 : w.heap.size ≤ w2.heap.size := hone.out.choose_spec.1.size
    obtain ⟨W3, hW3⟩ : ∃ W3, W3 = w2.alloc (Obj.cells #[.int .u32 0, .int .u32 0, .int .u32 0, .int .u32 0, .int .u32 0, .int .u32 0, .int .u32 0, .int .u32 0, .int .u32 0, .int .u32 0, .int .u32 0, .int .u32 0, .int .u32 0, .int .u32 0, .int .u32 0, .int .u32 0] 46) := ⟨_, rfl⟩
    have honce : OnceAt w Bf w2.heap.size (newFold v) (newFold v).book.tk W3 := by
      rw [hW3]
      obtain ⟨ow, h1, h2, h3⟩ := hone.out
      exact ⟨ow.cut w2, h1.alloc h1.size _, fun k hk => (Own.cut_old (by omega)).trans (h2 k hk), (FoldAt.loc Bf _ [1]).cut h3 ((Below.refl _ _).alloc (Nat.le_refl _) _), Own.cut_new (Nat.le_refl _), hz2, Blk.new rfl⟩
    rw [← hW3]
    generalize w2.heap.size = Bn at *
    clear hW3 hone
    replace honce : Hid (OnceAt _ _ _ _ _ _) := honce
    go_loopw [9, 10] (fun p9 p10 wr => ∃ k : Nat, p10 = .int .i64 k ∧ p9 = .int .i64 ((runP (newFold v) (ens1 es k)).book.log.length : Nat) ∧ k ≤ es.length ∧ k ≤ 60 ∧ OnceAt w Bf Bn (runP (newFold v) (ens1 es k)) (runP (newFold v) (ens1 es k)).book.tk wr) (fun _ p10 _ => 60 - (intOf p10).toNat)
    case atStart => exact ⟨0, rfl, rfl, Nat.zero_le _, Nat.zero_le _, honce.out⟩
    case round =>
      obtain ⟨k, rfl, rfl, hk1, hk2, htw⟩ := hrel
      clear honce
      have hbw : Below w.heap.size w wr := htw.choose_spec.1
      replace htw : Hid (OnceAt _ _ _ _ _ _) := htw
      have hB := run_b (newFold_b v) (ens1 es k)
      have hl1 := ens1_len es k
      by_cases hlt : k < es.length ∧ k < 60
      · obtain ⟨hlt, hlt2⟩ := hlt
        obtain ⟨p, hp⟩ : ∃ p, es[k]? = some p := ⟨_, List.getElem?_eq_getElem hlt⟩
        obtain ⟨b, off, rfl, hc⟩ := hcs.out k p hp
        have hmem := hall.out p (List.mem_of_getElem? hp)
        obtain ⟨c0, c1, c2, c3⟩ := EntsIn.cells4 (es := es) hc hbw
        have hcut := cut_any p.1 p.2 wr (hmem.1.below hbw) hmem.2
        have hsucc := ens1_succ hp
        clear hc hp hmem
        have hsz := (run_b (newFold_b v) (ens1 es (k + 1))).few
        have hl2 := ens1_len es (k + 1)
        have hnext : runP (newFold v) (ens1 es (k + 1)) = (applyP (runP (newFold v) (ens1 es k)) (cutE p.1)).1 := by rw [hsucc, runP_snoc]
        generalize runP (newFold v) (ens1 es k) = ff at *
        have hfo := apply_follows hB.ok (cutE p.1)
        obtain ⟨R, hRR⟩ : ∃ R, applyP ff (cutE p.1) = R := ⟨_, rfl⟩
        have hap := fun (mv : Value) (W' : World) (hb : Below wr.heap.size wr W') (hR : Row W' 50 3 mv (cutE p.1).msgs.length ((cutE p.1).msgs.flatMap msgCells)) (hfr : ∀ g, mv.ownBlock = some g → wr.heap.size ≤ g) => htw.out.apply hb hR hfr hB (by omega)
        have h16 := hB.ok.sixteen
        rw [hRR] at hnext hfo
        simp only [hRR] at hap
        obtain ⟨hf1, hf2, hf3, hf4⟩ := hfo
        have hlog : R.1.book.log.length = ff.book.log.length + R.2.1.length := by rw [hf3]; simp
        have hlt3 : R.1.book.log.length ≤ 10000 := by rw [hnext] at hsz; unfold bookN at hsz; omega
        unfold entV at hcut hap
        obtain ⟨fs, d, bg, er⟩ := R
        simp only at *
        replace hap : Hid (∀ _, _) := hap
        replace hcut : Hid (Calls _ _ _ _ _) := hcut
        replace hsucc : Hid (_ = _) := hsucc
        replace hnext : Hid (_ = _) := hnext
        replace hB : Hid (FoldB _ _) := hB
        replace hf1 : Hid (Follows _ _) := hf1
        replace hf2 : Hid (_ = _) := hf2
        replace hf3 : Hid (_ = _) := hf3
        replace hf4 : Hid (_ → _) := hf4
        replace hRR : Hid (_ = _) := hRR
        replace h16 : Hid (_ = _) := h16
        go_wp2_with fail
        refine hcut.out.mono ?_
        rintro r w4 ⟨mv4, rfl, hR4, hb4, hf4'⟩
        replace hf4' : Hid (∀ _, _) := hf4'
        obtain ⟨sa, sc, rfl⟩ := hR4.src.shape
        clear c0 c1 c2 c3
        unfold entV
        go_wp2_with fail
        have hbx : Below wr.heap.size wr (w4.alloc (.cells #[.int .i64 (cutE p.1).kind, .int .u32 (cutE p.1).epoch, .int .i64 (cutE p.1).ver, .slice sa (cutE p.1).msgs.length sc] 33)) := pb_alloc hb4 _
        have kx : Blk (w4.alloc (.cells #[.int .i64 (cutE p.1).kind, .int .u32 (cutE p.1).epoch, .int .i64 (cutE p.1).ver, .slice sa (cutE p.1).msgs.length sc] 33)) w4.heap.size _ _ := Blk.new rfl
        refine (hap.out _ _ hbx (hR4.below (pb_alloc (Below.refl _ _) _)) hf4'.out).mono ?_
        rintro r w5 ⟨vr, rfl, htw5, hR5, hk5⟩
        have kx5 := kx.kept (hk5 _ hb4.size (by simp))
        obtain ⟨da, dc, rfl⟩ := hR5.src.shape
        obtain ⟨n, hn⟩ : ∃ n, d.length = n := ⟨_, rfl⟩
        rw [hn] at hR5 hlog ⊢
        have e5 := kx5.cell
        have hn10 : n ≤ 10000 := by omega
        have hl4 : (ff.book.log.length : Int) + (n : Int) ≤ 10000 := by omega
        have hl5 : (0 : Int) ≤ (ff.book.log.length : Int) + (n : Int) := by omega
        have hcase : (((cutE p.1).kind != 1) = false) ∨ (((cutE p.1).kind != 1) = true ∧ decide ((0 : Int) < (n : Int)) = false ∧ ¬ 0 < n) := by
          by_cases hkk : (cutE p.1).kind = 1
          · left; simp [hkk]
          · right
            have h0 := hf4.out hkk
            have h1 : n = 0 := by rw [← hn, h0]; rfl
            subst h1
            exact ⟨by simpa using hkk, by simp, by omega⟩
        clear kx hk5 hR4 hbx hap hcut hf4'
        replace htw5 : Hid (OnceAt _ _ _ _ _ _) := htw5
        replace hR5 : Hid (Row _ _ _ _ _ _) := hR5
        replace hn : Hid (_ = _) := hn
        replace hlog : Hid (_ = _) := hlog
        rcases hcase with q1 | ⟨q1, q2, q3⟩
        ·
          go_wp2_with fail
          go_loopw [15] (fun p15 W => ∃ j : Nat, p15 = .int .i64 j ∧ j ≤ n ∧ OnceAt w Bf Bn fs (setTk ff.book.tk (d.take j)) W ∧ Row W 50 3 (.slice da n dc) n (d.flatMap msgCells)) (fun p15 _ => n - (intOf p15).toNat)
          case atStart => exact ⟨0, rfl, Nat.zero_le _, htw5.out, hR5.out⟩
          case round =>
            obtain ⟨j, rfl, hj, htj, hRj⟩ := hrel
            by_cases hjn : j < n
            ·
              obtain ⟨⟨⟨fi, c⟩, dd⟩, hx⟩ : ∃ x, d[j]? = some x := ⟨_, List.getElem?_eq_getElem (by rw [hn.out]; exact hjn)⟩
              have hat := Follows.at h16.out hf1.out j _ hx
              simp only at hat
              obtain ⟨x1, x2, x3, x4, x5⟩ := hat
              obtain ⟨fr, rfl⟩ := Int.eq_ofNat_of_zero_le x1
              rw [Int.toNat_natCast] at x3 x5
              have hlen16 := Follows.len (d.take j) h16.out
              obtain ⟨tv, htv⟩ : ∃ tv, (setTk ff.book.tk (d.take j))[fr]?.getD 0 = tv := ⟨_, rfl⟩
              rw [htv] at x3
              have ha := tkC_at (tk := setTk ff.book.tk (d.take j)) (i := fr) (by omega)
              rw [htv] at ha
              rcases hRj.form with ⟨-, h, -⟩ | ⟨g, cap', h, hcc, -⟩
              · omega
              cases h
              have hcell : ∀ q, q < 3 → wr.cell? ⟨g, j * 3 + q, none⟩ = (msgCells (((fr : Int), c), dd))[q]? := fun q hq => by
                have h1 := flatMsg_at d j _ hx q hq
                rw [← h1, hRj.cellAt _ (by omega)]
              have c0 : wr.cell? ⟨g, j * 3, none⟩ = some (.int .i64 fr) := hcell 0 (by omega)
              have c1 : wr.cell? ⟨g, j * 3 + 1, none⟩ = some (.int .u32 c) := hcell 1 (by omega)
              obtain ⟨kB, hwB⟩ : Blk wr Bn (tkC (setTk ff.book.tk (d.take j))) 46 ∧ Below w.heap.size w wr := ⟨htj.choose_spec.2.2.2.2.2, htj.choose_spec.1⟩
              have b0 : wr.cell? ⟨Bn, fr, none⟩ = some (.int .u32 tv) := (kB.cell fr).trans ha
              have b1 := kB.frozen fr
              have b2 := kB.lt
              have hne : g ≠ Bn := hRj.ne_blk kB (by decide) rfl
              have hcw : IntKind.u32.wrap ((tv : Int) + 1) = (c : Int) := by rw [IntKind.wrap_u32]; omega
              have y0 : (0 : Int) ≤ fr := by omega
              have y1 : (fr : Int) ≤ 15 := by omega
              have y2 : (fr : Int) < 16 := by omega
              have y3 : fr < 16 := by omega
              have t0 : decide ((fr : Int) < 0) = false := by simp
              have t1 : decide ((15 : Int) < (fr : Int)) = false := by simp; omega
              have z0 : (0 : Int) ≤ j := by omega
              have z1 : (j : Int) < n := by omega
              have z2 : (n : Int) ≤ 10000 := by omega
              have hset := htj.set fr c
              rw [← x5] at hset
              have hRs := hRj.kept (w' := wr.setCell ⟨Bn, fr, none⟩ (.int .u32 c)) (fun g' hg => Below.heap_setCell _ _ _ _ (by cases hg; exact hne))
              have e0 := c0
              have e1 := c1
              have e2 := b0
              clear x1 x2 x3 x4 x5 hx hlen16 ha htv kB hcell htj hcc hne
              replace hset : Hid (OnceAt _ _ _ _ _ _) := hset
              replace hRs : Hid (Row _ _ _ _ _ _) := hRs
              replace hRj : Hid (Row _ _ _ _ _ _) := hRj
              replace e0 : Hid (_ = _) := e0
              replace e1 : Hid (_ = _) := e1
              replace e2 : Hid (_ = _) := e2
              go_wp2_with fail
              refine wp_region_sched [(0, true), (1, true), (2, true), (3, true), (4, true), (5, true), (6, true), (7, true), (8, true), (9, true), (10, true), (11, true), (12, true), (13, true), (14, true), (15, true), (16, true), (17, true), (18, true)] none (fun w' => w'.cell? ⟨g, j * 3 + 1, none⟩ = some (.int .u32 c) ∧ w'.cell? ⟨Bn, fr, none⟩ = some (.int .u32 tv) ∧ True) (by kernel_rfl) (by kernel_rfl) ⟨e1.out, e2.out, trivial⟩ ?_
              clear c0 c1 b0
              (repeat (refine wpSched_quiet (v := ?_) rfl rfl (fun w' hS => ?_) (fun K hK => ?_); rotate_left; (focus ((try have e1 := hS.1.cell); (try have e2 := hS.2.1.cell); (try have e3 := hS.2.2.1.cell); (try have e4 := hS.2.2.2.1.cell); (try have f1 := hS.1); (try have f2 := hS.2.1); (try have f3 := hS.2.2.1); (try have f4 := hS.2.2.2.1); (try have f5 := hS.2.2.2.2.1); clear hS; go_simp; (try with_reducible rfl))); (go_simp; refine hK _ ?_; clear hK K)))
              refine wpSched_nil ?_
              have e3 := (e2.out : wr.drew.cell? ⟨Bn, fr, none⟩ = _)
              have e4 : wr.drew.frozen? ⟨Bn, fr, none⟩ = false := b1
              have e5' : Bn < wr.drew.heap.size := b2
              go_wp2
              clear hcw
              go_roundw
              case rel => exact ⟨j + 1, by go_num, by omega, hset.out.below (Below.drew (Below.refl _ _)) , hRs.out⟩
              case measure => simp [intOf]; omega
            · go_wp2
              go_roundw
              case rel =>
                have htk : setTk ff.book.tk (d.take j) = fs.book.tk := by rw [hf2.out, List.take_of_length_le (by have := hn.out; omega)]
                exact ⟨k + 1, by go_num, by rw [hnext.out, hlog.out]; go_num, by omega, by omega, by rw [hnext.out, ← htk]; exact htj⟩
              case measure => simp [intOf]; omega
        ·
          go_wp2_with fail
          go_loopw [15] (fun p15 W => ∃ j : Nat, p15 = .int .i64 j ∧ j ≤ n ∧ OnceAt w Bf Bn fs (setTk ff.book.tk (d.take j)) W ∧ Row W 50 3 (.slice da n dc) n (d.flatMap msgCells)) (fun p15 _ => n - (intOf p15).toNat)
          case atStart => exact ⟨0, rfl, Nat.zero_le _, htw5.out, hR5.out⟩
          case round =>
            obtain ⟨j, rfl, hj, htj, hRj⟩ := hrel
            by_cases hjn : j < n
            ·
              exfalso
              omega
            · go_wp2
              go_roundw
              case rel =>
                have htk : setTk ff.book.tk (d.take j) = fs.book.tk := by rw [hf2.out, List.take_of_length_le (by have := hn.out; omega)]
                exact ⟨k + 1, by go_num, by rw [hnext.out, hlog.out]; go_num, by omega, by omega, by rw [hnext.out, ← htk]; exact htj⟩
              case measure => simp [intOf]; omega
      · have hend : (k < es.length ∧ ¬ k < 60) ∨ ¬ k < es.length := by omega
        generalize runP (newFold v) (ens1 es k) = ff at *
        have hla : ff.book.log.length ≤ 10000 := by have := hB.few; unfold bookN at this; omega
        replace hB : Hid (FoldB _ _) := hB
        rcases hend with ⟨q1, q2⟩ | q1
        ·
          go_wp2_with fail
          refine (htw.out.one.log (by omega)).mono ?_
          rintro r w4 ⟨va, rfl, hRa, hb4, -⟩
          obtain ⟨sa, sc, rfl⟩ := hRa.src.shape
          go_wp2
          go_ret
          exact ⟨rfl, pb_trans hbw hb4⟩
        ·
          go_wp2_with fail
          refine (htw.out.one.log (by omega)).mono ?_
          rintro r w4 ⟨va, rfl, hRa, hb4, -⟩
          obtain ⟨sa, sc, rfl⟩ := hRa.src.shape
          go_wp2
          go_ret
          exact ⟨rfl, pb_trans hbw hb4⟩
end Go.Proofs.Ytlfledeldhhllaa
