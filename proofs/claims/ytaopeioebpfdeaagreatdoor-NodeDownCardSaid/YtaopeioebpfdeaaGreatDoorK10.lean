/- PROVED HERE: WHAT A FOLD IS IN MEMORY; walks of isNil, now, Count, New, all. Condition: the fold is one that calls have made. WALKS: slices.Collect at eras, Eras. Condition: the fold is one that calls have made. WALKS: epoch.New, begin. Condition: the fold is one that calls have made. -/
import Derived.IntWalk
import Derived.Deep.RegionWith
import Derived.Test.YtaopeioebpfdeaaGreatDoorK07
import Derived.Test.YtaopeioebpfdeaaGreatDoorK09
namespace Go.Proofs.YtaopeioebpfdeaaGreatDoor
open Go Go.RowKit Go.Shelf Go.Extern.Stop Go.Stop Go.Extern Go.Lib
attribute [local go_sem] Oper.semAt_some wide_fn wide_depth

def foldCells (bb : Nat) (ev : Value) (f : FoldS) : Array Value := #[.pointer (some ⟨bb, 0, none⟩), ev, .int .i64 f.count, .bool f.sw]
def FoldAt (B : Nat) (f : FoldS) (t : List Nat) (ow : Own) (W : World) : Prop :=
  f.eras ≠ [] ∧ ∃ bb ev, Blk W B (foldCells bb ev f) 209 ∧ BookAt bb f.book (t ++ [0]) ow W ∧ Row W 92 3 ev f.eras.length (f.eras.flatMap eraCells) ∧ ow B = t ∧ ∀ g, ev.ownBlock = some g → ow g = t
theorem FoldAt.loc (B : Nat) (f : FoldS) (t : List Nat) : Local t (FoldAt B f t) := by
  rintro ow ow' W W' ⟨hne, bb, ev, hB, hbk, hR, o1, o2⟩ hs hk
  have kB := hk B hB.lt (by rw [o1]; exact Sub.rfl' t)
  refine ⟨hne, bb, ev, hB.kept kB.2, ?_, hR.kept (fun g hg => (hk g (hR.lt hg) (by rw [o2 g hg]; exact Sub.rfl' t)).2), kB.1.trans o1, fun g hg => ?_⟩
  · exact (BookAt.loc bb f.book (t ++ [0])) ow ow' W W' hbk hs (fun k hk1 hk2 => hk k hk1 ((Sub.child t 0).trans hk2))
  · exact ((hk g (hR.lt hg) (by rw [o2 g hg]; exact Sub.rfl' t)).1).trans (o2 g hg)
theorem eraT : ElemT Tryz.prog 187 92 3 24 (.agg #[.int .u32 0, .int .i64 0, .int .i64 0]) := ⟨Tryz.underlying187, by kernel_rfl, rfl, by decide, by decide⟩
theorem eraCells_one (l : List EraD) : ∀ u ∈ l.flatMap eraCells, u.oneCell' = true := by
  intro u hu
  obtain ⟨m, _, hm⟩ := List.mem_flatMap.1 hu
  simp [eraCells] at hm
  rcases hm with rfl | rfl | rfl <;> rfl
theorem foldPtr_nil_no (a : Addr) (w : World) : (binOp .eql 102 (.pointer (some a)) (.pointer none)).run Tryz.prog w = .ok (.bool false) w := by kernel_rfl
theorem era_f0 (a b c : Int) (w : World) : (Instr.field 92 (.agg #[.int .u32 a, .int .i64 b, .int .i64 c]) 0).run Tryz.prog w = .ok (.int .u32 a) w := by kernel_rfl
theorem era_f1 (a b c : Int) (w : World) : (Instr.field 92 (.agg #[.int .u32 a, .int .i64 b, .int .i64 c]) 1).run Tryz.prog w = .ok (.int .i64 b) w := by kernel_rfl
theorem isNil_no (B : Nat) (f : FoldS) (t : List Nat) (ow : Own) (w : World) (h : FoldAt B f t ow w) : Calls Tryz.prog 138 #[.pointer (some ⟨B, 0, none⟩)] w fun e w' => e = .returned (.bool false) ∧ w' = w := by
  obtain ⟨hne, bb, ev, hB, -, hR, -⟩ := h
  have h0 := foldPtr_nil_no ⟨B, 0, none⟩ w
  obtain ⟨a, c, rfl⟩ := hR.src.shape
  have e0 := hB.cell
  unfold foldCells at e0
  have t0 : ((f.eras.length : Int) == 0) = false := by simpa using hne
  clear hB hR hne
  go_enter Tryz.func138, Tryz.ntmps138
  go_wp2
  go_ret
  exact ⟨rfl, rfl⟩

theorem nowP_at {l : List EraD} {m : Nat} (h : l.length = m + 1) : l[m]? = some (nowP l) := by
  unfold nowP
  rw [List.getLast?_eq_getElem?, h, Nat.add_sub_cancel, List.getElem?_eq_getElem (by omega)]
  rfl
set_option maxRecDepth 8000 in
theorem now_any (B : Nat) (f : FoldS) (t : List Nat) (ow : Own) (w : World) (h : FoldAt B f t ow w) (hl : f.eras.length ≤ 1073741824) : Calls Tryz.prog 159 #[.pointer (some ⟨B, 0, none⟩)] w fun e w' => e = .returned (eraV (nowP f.eras)) ∧ Below w.heap.size w w' := by
  obtain ⟨hne, bb, ev, hB, -, hR, -⟩ := h
  obtain ⟨m, hm⟩ : ∃ m, f.eras.length = m + 1 := ⟨f.eras.length - 1, by have := List.length_pos_iff.2 hne; omega⟩
  rcases hR.form with ⟨-, h, -⟩ | ⟨g, cap, rfl, hc, hcm⟩
  · omega
  have hx := nowP_at hm
  have hcell : ∀ j, j < 3 → w.cell? ⟨g, m * 3 + j, none⟩ = (eraCells (nowP f.eras))[j]? := fun j hj => by
    have h1 := flatEra_at f.eras m _ hx j hj
    rw [← h1, hR.cellAt _ (by omega)]
  obtain ⟨⟨ep, ve, st⟩, hn⟩ : ∃ n, nowP f.eras = n := ⟨_, rfl⟩
  rw [hn] at hcell ⊢
  have c0 : w.cell? ⟨g, m * 3, none⟩ = some (.int .u32 ep) := hcell 0 (by omega)
  have c1 : w.cell? ⟨g, m * 3 + 1, none⟩ = some (.int .i64 ve) := hcell 1 (by omega)
  have c2 : w.cell? ⟨g, m * 3 + 2, none⟩ = some (.int .i64 st) := hcell 2 (by omega)
  have hg := hR.lt (g := g) rfl
  have hBl := hB.lt
  rw [hm] at hB hc
  clear hcell hx hn hR hne
  unfold eraV
  simp only
  have hmi : (m : Int) + 1 ≤ 1073741824 := by omega
  have hwr : IntKind.i64.wrap (m : Int) = m := IntWalk.i64_in _ (by omega)
  have hmi0 : (0 : Int) ≤ m := by omega
  have hmi1 : (m : Int) < (m : Int) + 1 := by omega
  clear hm hl
  go_enter Tryz.func159, Tryz.ntmps159
  go_wp2
  unfold foldCells at hB
  refine wp_region_sched [(0, true), (1, true), (2, true), (3, true), (4, true), (5, true), (6, true), (7, true), (8, true), (9, true), (10, true), (11, true), (12, false)] (some 12) (fun w' => Blk w' B #[.pointer (some ⟨bb, 0, none⟩), .slice (some ⟨g, 0, none⟩) (m + 1) cap, .int .i64 f.count, .bool f.sw] 209 ∧ w'.cell? ⟨g, m * 3, none⟩ = some (.int .u32 ep) ∧ w'.cell? ⟨g, m * 3 + 1, none⟩ = some (.int .i64 ve) ∧ w'.cell? ⟨g, m * 3 + 2, none⟩ = some (.int .i64 st) ∧ True) (by kernel_rfl) (by kernel_rfl)
    ⟨(hB.alloc _).drew, cell_alloc c0 _, cell_alloc c1 _, cell_alloc c2 _, trivial⟩ ?_
  (repeat (refine wpSched_quiet (v := ?_) rfl rfl (fun w' hS => ?_) (fun K hK => ?_); rotate_left; (focus ((try have e1 := hS.1.cell); (try have e2 := hS.2.1.cell); (try have e3 := hS.2.2.1.cell); (try have e4 := hS.2.2.2.1.cell); (try have f1 := hS.1); (try have f2 := hS.2.1); (try have f3 := hS.2.2.1); (try have f4 := hS.2.2.2.1); (try have f5 := hS.2.2.2.2.1); clear hS; go_simp; (try with_reducible rfl))); (go_simp; refine hK _ ?_; clear hK K)))
  refine wpSched_loud rfl (fun K hK => ?_)
  go_wp2
  refine hK.out _ _ (fun h => absurd rfl h) ?_
  clear hK K
  refine wpSched_nil ?_
  go_wp2
  exact bodyPost_ret (v := .agg #[.int .u32 ep, .int .i64 ve, .int .i64 st]) (by simp [results, Tryz.results159, go_sem]) rfl ⟨rfl, by (repeat (first | exact Below.refl _ _ | with_reducible assumption | refine pb_alloc ?_ _ | refine pb_drew ?_ | refine pb_drewN ?_ _ | refine pb_set ?_ (by simp; try omega) _ | refine pb_trans ?_ (by with_reducible assumption)))⟩

theorem all_any (B : Nat) (f : FoldS) (t : List Nat) (ow : Own) (w : World) (h : FoldAt B f t ow w) : Calls Tryz.prog 140 #[.pointer (some ⟨B, 0, none⟩)] w fun e w' =>
    ∃ ev, e = .returned (.func (.func 188) #[] #[.pointer (some ⟨w.heap.size, 0, none⟩)]) ∧ w' = w.alloc (.cells #[ev] 187) ∧ Row w 92 3 ev f.eras.length (f.eras.flatMap eraCells) ∧ ∀ g, ev.ownBlock = some g → ow g = t := by
  obtain ⟨hne, bb, ev, hB, -, hR, -, ho⟩ := h
  obtain ⟨a, n, c, rfl⟩ := hR.shape
  have e0 := hB.cell
  unfold foldCells at e0
  clear hB hne
  replace ho : Hid (∀ _, _) := ho
  go_enter Tryz.func140, Tryz.ntmps140
  go_wp2_with (go_at_call 166; refine (valEra_any _ ⟨_, _, _, rfl⟩ _).mono ?_; rintro e w1 ⟨rfl, rfl⟩)
  go_ret
  exact ⟨_, rfl, rfl, hR, ho.out⟩
end Go.Proofs.YtaopeioebpfdeaaGreatDoor
namespace Go.Proofs.YtaopeioebpfdeaaGreatDoor
open Go Go.RowKit Go.Shelf Go.Extern.Stop Go.Stop Go.Extern Go.Lib
attribute [local go_sem] Oper.semAt_some wide_fn wide_depth

/-- What holds ahead of each round of AppendSeq's loop. -/
def SeqAt (l : List EraD) (pb : Nat) (W0 : World) (k : Nat) (X : Nat → Prop) (W : World) : Prop :=
  Fr (fun k => k = pb) W0 X W ∧ k ≤ l.length ∧ ∃ pv, Blk W pb #[pv] 187 ∧ Row W 92 3 pv (l.take k).length ((l.take k).flatMap eraCells) ∧ (∀ g, pv.ownBlock = some g → W0.heap.size ≤ g ∧ ¬ X g)
theorem SeqAt.stab {l : List EraD} {pb : Nat} {W0 : World} {k : Nat} {X X' : Nat → Prop} {W W' : World} (h1 : pb < W0.heap.size)
    (h : SeqAt l pb W0 k X W) (hm : Mod X W W') (hx : ∀ k, X' k → X k ∨ (W.heap.size ≤ k ∧ k < W'.heap.size)) : SeqAt l pb W0 k X' W' := by
  obtain ⟨hfr, hk, pv, kp, kw, hn⟩ := h
  refine ⟨hfr.step hm hx, hk, pv, kp.kept (hfr.block hm h1), kw.mod hm (fun g hg => (hn g hg).2), fun g hg => ⟨(hn g hg).1, fun hX => ?_⟩⟩
  rcases hx g hX with h | h
  · exact (hn g hg).2 h
  · have := kw.lt hg; omega

set_option maxRecDepth 8000 in
set_option maxHeartbeats 1000000 in
theorem seqEra_any (gf : Nat) (lb : Array Value) (l : List EraD) (Rd : Nat → World → Prop)
    (hit : Iter Fence.wide 2 Tryz.prog gf lb (fun x : EraD => #[eraV x]) (fun (k : Nat) x => l[k]? = some x) (fun k _ => k + 1) (fun k => k = l.length) Rd 0)
    (eg : ∀ args w, (callFunc gf args).run Tryz.prog w = .ok (.enter gf args) w) (w : World) (hRd : ∀ W k, Below w.heap.size w W → Rd k W) (hl : l.length ≤ 536870912) :
    Calls Tryz.prog 165 #[.slice none 0 0, .func (.func gf) #[] lb] w fun e w' =>
      ∃ v', e = .returned v' ∧ Row w' 92 3 v' l.length (l.flatMap eraCells) ∧ Below w.heap.size w w' ∧ (∀ g, v'.ownBlock = some g → w.heap.size ≤ g) := by
  refine calls_of_wp_marks Tryz.func165 rfl ?_
  simp only [Tryz.ntmps165, List.size_toArray, List.length_cons, List.length_nil, Nat.reduceAdd, Nat.reduceSub, Array.replicate_succ, Array.replicate_zero, List.push_toArray, List.append_toArray, List.nil_append, List.cons_append]
  go_wp2
  obtain ⟨pb, hpb⟩ : ∃ pb, pb = w.heap.size := ⟨_, rfl⟩
  obtain ⟨W0, hW0⟩ : ∃ W0, W0 = w.alloc (.cells #[.slice none 0 0] 187) := ⟨_, rfl⟩
  have hsz : W0.heap.size = pb + 1 := by rw [hW0, hpb]; simp
  have hb0 : Below w.heap.size w W0 := by rw [hW0]; (repeat (first | exact Below.refl _ _ | with_reducible assumption | refine pb_alloc ?_ _ | refine pb_drew ?_ | refine pb_drewN ?_ _ | refine pb_set ?_ (by simp; try omega) _ | refine pb_trans ?_ (by with_reducible assumption)))
  have kp : Blk W0 pb #[.slice none 0 0] 187 := by rw [hW0]; exact Blk.new hpb
  rw [← hW0, ← hpb]
  replace hRd : Hid (∀ _, _) := hRd
  replace hpb : Hid (_ = _) := hpb
  clear hW0
  refine wp_rangeBox (gf := gf) (lb := lb) rfl eg hit (fun _ => rfl)
      (fun k X W => SeqAt l pb W0 k X W) (fun c X W => False)
      (fun k X X' W W' h hm hx => h.stab (by omega) hm hx)
      (fun c s X X' W W' h hm hx => h)
      (fun k X W h => hRd.out W k (hb0.trans (h.1.below (by have := hpb.out; omega) (fun k hk => by have := hpb.out; omega))))
      (fun k X W h => ⟨h.1.2.size, fun k hk => (h.1.1 k hk).2⟩)
      ⟨Fr.refl _ _, Nat.zero_le _, _, kp, row_nil _ _ _, by simp [Value.ownBlock]⟩
      5 92 (fun x => #[.int .u32 x.1, .int .i64 x.2.1, .int .i64 x.2.2]) ?assign ?body ?done ?stop
  case assign =>
    intro l' x W K hK
    rw [laidIn_one] at hK ⊢
    unfold eraV at hK ⊢
    gi_wp2
    exact hK
  case body =>
    rintro l' k x cb X X1 W1 W h1 ⟨hfr, hk, pv, kp', kw', hn⟩ hnx hcb hcw hXc kx hXl _
    obtain ⟨ep, ve, st⟩ := x
    have e0 := kx.cell
    simp only at e0
    rw [laidIn_one]
    unfold eraV
    have lc := kx.lt
    have lp := kp'.lt
    have ep0 := kp'.cell
    have hkl := (List.getElem?_eq_some_iff.1 hnx).1
    have hlen : (l.take k).length + 1 ≤ 1073741824 := by rw [List.length_take]; omega
    replace hlen : Hid (_ ≤ _) := hlen
    replace hn : Hid (∀ _, _) := hn
    gi_wp2_with (gi_at_builtin
                 obtain ⟨nv', W3, hrun, hrow, hgr, hown⟩ := row_append eraT (kw'.below ((Below.refl _ _).alloc (Nat.le_refl _) (.cells #[.int .u32 (ep : Int), .int .i64 ve, .int .i64 st] 92))) (src_blk (n := 1) (size := 3) (cap := 1) (Blk.new (w := W) (cs := #[.int .u32 (ep : Int), .int .i64 ve, .int .i64 st]) (t := 92) rfl) rfl (Nat.le_refl 1)) (eraCells_one [(ep, ve, st)]) hlen.out 187
                 refine wpListIn_append_by rfl _ _ _ rfl rfl rfl hrun ?_
                 have kp3 : Blk W3 pb #[pv] 187 := (kp'.alloc _).kept (hgr.block pb (by simp; omega) (fun e => by have := (hn.out pb e.symm).1; omega))
                 have en3 := kp3.cell
                 have fn3 := kp3.frozen
                 have lN3 := kp3.lt
                 obtain ⟨sa, sm, sc, rfl⟩ := hrow.shape
                 clear hrun)
    have hm : Mod (fun k => k = pb ∨ pv.ownBlock = some k) W (W3.setCell ⟨pb, 0, none⟩ (.slice sa sm sc)) :=
      (((Mod.refl (fun k => k = pb ∨ pv.ownBlock = some k) W).thenAlloc _).trans (Mod.grown hgr (fun k h => .inr h)) (fun _ _ e => e) (fun _ _ e => e)).thenSet (p := ⟨pb, 0, none⟩) (.inl rfl) _
    have htk : l.take (k + 1) = l.take k ++ [(ep, ve, st)] := by rw [List.take_add_one, hnx]; rfl
    refine ⟨⟨hfr.mod hm (fun k hk h => ?_), by omega, _, kp3.set _, ?_, ?_⟩, Saves.of_mod hm (fun k hk hX h => ?_)⟩
    · rcases h with h | h
      · exact h
      · have := (hn.out k h).1; omega
    · rw [htk]
      simp only [List.length_append, List.length_singleton, List.flatMap_append]
      refine Row.kept (w := W3) hrow (fun g hg => Below.heap_setCell _ _ _ _ (show g ≠ pb from fun e => ?_))
      rw [hg] at hown
      rcases hown with h | h
      · have := (hn.out _ h.symm).1; omega
      · simp at h; omega
    · intro g hg
      rw [hg] at hown
      rcases hown with h | h
      · exact hn.out g h.symm
      · simp at h
        have := hfr.2.size
        exact ⟨by omega, fun hX => by have := (hfr.1 g hX).2; omega⟩
    · have := hfr.1 k hX
      rcases h with h | h
      · omega
      · exact (hn.out k h).2 hX
  case done =>
    rintro D k X W hD hXD hfin ⟨hfr, hk, pv, kp', kw', hn⟩ hdef
    obtain rfl : k = l.length := hfin
    rw [List.take_length] at kw'
    have ep0 := kp'.cell
    have hDl := (Array.getElem?_eq_some_iff.1 hdef).1
    have hbW : Below w.heap.size w W := hb0.trans (hfr.below (by have := hpb.out; omega) (fun k h => by have := hpb.out; omega))
    replace hn : Hid (∀ _, _) := hn
    go_wp2
    refine end_mark1n (D := D) (v := pv) hdef (by simp [results, Tryz.results165, go_sem]) ?_
    refine ⟨pv, rfl, kw'.kept (fun g hg => World.putObj_heap_other (fun e => (hn.out g hg).2 (by rw [e]; exact hXD))), below_putObj hbW (by have := hpb.out; omega) _, fun g hg => by have := (hn.out g hg).1; have := hpb.out; omega⟩
  case stop => rintro D c X W hD hXD h; exact h.elim
set_option maxHeartbeats 400000 in
theorem collectEra_any (ev : Value) (l : List EraD) (cb : Nat) (w : World) (hc : Blk w cb #[ev] 187) (hv : Src w ev 3 l.length (l.flatMap eraCells)) (hl : l.length ≤ 536870912) :
    Calls Tryz.prog 139 #[.func (.func 188) #[] #[.pointer (some ⟨cb, 0, none⟩)]] w fun e w' =>
      ∃ v', e = .returned v' ∧ Row w' 92 3 v' l.length (l.flatMap eraCells) ∧ Below w.heap.size w w' ∧ (∀ g, v'.ownBlock = some g → w.heap.size ≤ g) := by
  have hs := seqEra_any 188 #[.pointer (some ⟨cb, 0, none⟩)] l (fun _ W => Blk W cb #[ev] 187 ∧ Src W ev 3 l.length (l.flatMap eraCells))
    (valEra_iter cb ev l (by omega)) (enters_of Tryz.func188 (by kernel_rfl) rfl) w (fun W k hb => ⟨hc.call hb, hv.below hb⟩) hl
  replace hs : Hid (Calls _ _ _ _ _) := hs
  clear hc hv hl
  go_enter Tryz.func139, Tryz.ntmps139
  go_wp2_with (go_at_call 165; refine hs.out.mono ?_; rintro e w1 ⟨v', rfl, h1, h2, h3⟩; replace h3 : Hid (∀ _, _) := h3)
  go_ret
  exact ⟨_, rfl, h1, h2, h3.out⟩
theorem eras_any (B : Nat) (f : FoldS) (t : List Nat) (ow : Own) (w : World) (h : FoldAt B f t ow w) (hl : f.eras.length ≤ 536870912) : Calls Tryz.prog 111 #[.pointer (some ⟨B, 0, none⟩)] w fun e w' =>
    ∃ v', e = .returned v' ∧ Row w' 92 3 v' f.eras.length (f.eras.flatMap eraCells) ∧ Below w.heap.size w w' ∧ (∀ g, v'.ownBlock = some g → w.heap.size ≤ g) := by
  have hn := isNil_no B f t ow w h
  have ha := all_any B f t ow w h
  replace hn : Hid (Calls _ _ _ _ _) := hn
  replace ha : Hid (Calls _ _ _ _ _) := ha
  clear h
  go_enter Tryz.func111, Tryz.ntmps111
  go_wp2_with (first
    | (go_at_call 138; refine hn.out.mono ?_; rintro e w1 ⟨rfl, rfl⟩)
    | (go_at_call 140; refine ha.out.mono ?_; rintro e w2 ⟨ev, rfl, rfl, h1, h2⟩; replace h2 : Hid (∀ _, _) := h2)
    | (go_at_call 139; refine (collectEra_any ev f.eras _ _ (Blk.new rfl) (h1.src.below ((Below.refl _ _).alloc (Nat.le_refl _) _)) hl).mono ?_; rintro e w3 ⟨v', rfl, h3, h4, h5⟩; replace h5 : Hid (∀ _, _) := h5))
  go_ret
  refine ⟨_, rfl, h3, by (repeat (first | exact Below.refl _ _ | with_reducible assumption | refine pb_alloc ?_ _ | refine pb_drew ?_ | refine pb_drewN ?_ _ | refine pb_set ?_ (by simp; try omega) _ | refine pb_trans ?_ (by with_reducible assumption))), fun g hg => by have := h5.out g hg; simp at this; omega⟩
end Go.Proofs.YtaopeioebpfdeaaGreatDoor
namespace Go.Proofs.YtaopeioebpfdeaaGreatDoor
open Go Go.RowKit Go.Shelf Go.Extern.Stop Go.Stop Go.Extern Go.Lib
attribute [local go_sem] Oper.semAt_some wide_fn wide_depth

/-- What New comes to. -/
def NewPost (v : Int) (t : List Nat) (ow : Own) (w : World) (e : Ending) (w' : World) : Prop :=
  ∃ B ow', e = .returned (.tuple #[.pointer (some ⟨B, 0, none⟩), .int .i64 0]) ∧ Step t ow w ow' w' ∧ Below w.heap.size w w' ∧ FoldAt B (newFold v) t ow' w'
theorem BookAt.own {B : Nat} {b : BookS} {t : List Nat} {ow ow' : Own} {W : World} (h : BookAt B b t ow W) (hk : ∀ k, ow' k = ow k ∨ ∃ cs T, Blk W k cs T ∧ T ≠ 241 ∧ T ≠ 34) : BookAt B b t ow' W := by
  obtain ⟨hok, lv, mb, hB, hR, hM, o1, o2, o3⟩ := h
  refine ⟨hok, lv, mb, hB, hR, hM, ?_, ?_, fun g hg => ?_⟩
  · rcases hk B with h | ⟨cs, T, h, h1, -⟩
    · rw [h, o1]
    · have := hB.symm.trans h; simp at this; exact absurd this.2.symm h1
  · rcases hk mb with h | ⟨cs, T, h, h1, -⟩
    · rw [h, o2]
    · exact absurd rfl (h.ne_map hM)
  · rcases hk g with h | ⟨cs, T, h, -, h1⟩
    · rw [h, o3 g hg]
    · exact absurd rfl (hR.ne_blk h (Ne.symm h1) hg)
theorem new_end {v : Int} {t : List Nat} {ow ow2 : Own} {w W : World} {B rb bb : Nat} (hb : Below w.heap.size w W) (kB : Blk W B #[.pointer (some ⟨bb, 0, none⟩), .slice (some ⟨rb, 0, none⟩) 1 1, .int .i64 0, .bool false] 209)
    (kr : Blk W rb #[.int .u32 1, .int .i64 v, .int .i64 0] 92) (hk : BookAt bb newBook (t ++ [0]) ow2 W) (h1 : w.heap.size ≤ B) (h2 : w.heap.size ≤ rb) (ho : ∀ k, k < w.heap.size → ow2 k = ow k) :
    NewPost v t ow w (.returned (.tuple #[.pointer (some ⟨B, 0, none⟩), .int .i64 0])) W := by
  have hne : B ≠ rb := fun e => by subst e; have := kB.symm.trans kr; simp at this
  refine ⟨B, fun k => if k = B ∨ k = rb then t else ow2 k, rfl, ⟨Mod.of_below _ hb, fun k hk => ?_⟩, hb, by simp [newFold], bb, .slice (some ⟨rb, 0, none⟩) 1 1, kB, ?_, ?_, by simp, fun g hg => ?_⟩
  · show (if k = B ∨ k = rb then t else ow2 k) = ow k
    rw [if_neg (by omega), ho k hk]
  · refine hk.own (fun k => ?_)
    by_cases h : k = B ∨ k = rb
    · right
      rcases h with rfl | rfl
      · exact ⟨_, _, kB, by decide, by decide⟩
      · exact ⟨_, _, kr, by decide, by decide⟩
    · left; simp [h]
  · exact ⟨rfl, .inr ⟨rb, 1, _, rfl, Nat.zero_le _, kr, Nat.le_refl _, by decide, rfl, rfl⟩⟩
  · simp [Value.ownBlock] at hg
    simp [hg]
theorem fnew_no (v : Int) (hv : known v = false) (w : World) : Calls Tryz.prog 91 #[.int .i64 v] w fun e w' => e = .returned (.tuple #[.pointer none, .int .i64 130]) ∧ Below w.heap.size w w' := by
  go_enter Tryz.func91, Tryz.ntmps91
  go_wp2_with (go_at_call 80; refine (known_any _ _).mono ?_; rintro e w1 ⟨rfl, hb1⟩; rw [hv])
  go_ret2
  exact ⟨rfl, hb1⟩

set_option maxHeartbeats 1000000 in
theorem fnew_any (v : Int) (hv : known v = true) (t : List Nat) (ow : Own) (w : World) : Calls Tryz.prog 91 #[.int .i64 v] w (NewPost v t ow w) := by
  go_enter Tryz.func91, Tryz.ntmps91
  go_wp2_with (go_at_call 80; refine (known_any _ _).mono ?_; rintro e w1 ⟨rfl, hb1⟩; rw [hv])
  go_region_with (go_at_call 124; refine (new_any (t ++ [0]) (ow.ext w.heap.size (fun _ => False) []) _).mono ?_; rintro e w2 ⟨bb, ow2, rfl, hs2, hb2, hk2⟩; have k4 : Blk w2 w1.heap.size #[.int .u32 1, .int .i64 v, .int .i64 0] 92 := Blk.call (by (repeat (first | with_reducible assumption | (refine Blk.new ?_; simp; done) | refine Blk.alloc ?_ _ | refine Blk.drew ?_ | refine Blk.drewN ?_ _ | refine Blk.call ?_ (by with_reducible assumption)))) hb2; have e4 := k4.cell)
  all_goals
    go_wp2
    simp only [List.getElem_toArray, List.getElem_cons_succ, List.getElem_cons_zero, Act.put, List.setIfInBounds_toArray, List.set_cons_succ, List.set_cons_zero]
    have hz1 := hb1.size
    have hz2 := hb2.size
    simp at hz2
    have hag : ∀ k, k < w.heap.size → ow2 k = ow k := fun k hk => (hs2.agree k (by simp; omega)).trans (Own.ext_old hk)
    first
      | exact bodyPost_ret (v := .tuple #[.pointer (some ⟨w2.heap.size + 1, 0, none⟩), .int .i64 0]) (by simp [results, Tryz.results91, go_sem]) rfl (new_end (rb := w2.heap.size) (by (repeat (first | exact Below.refl _ _ | with_reducible assumption | refine pb_alloc ?_ _ | refine pb_drew ?_ | refine pb_drewN ?_ _ | refine pb_set ?_ (by simp; try omega) _ | refine pb_trans ?_ (by with_reducible assumption)))) (Blk.new (by simp)) ((Blk.new rfl).alloc _) ((BookAt.loc bb newBook (t ++ [0])).below hk2 (by (repeat (first | exact Below.refl _ _ | with_reducible assumption | refine pb_alloc ?_ _ | refine pb_drew ?_ | refine pb_drewN ?_ _ | refine pb_set ?_ (by simp; try omega) _ | refine pb_trans ?_ (by with_reducible assumption))))) (by omega) (by omega) hag)
      | exact bodyPost_ret (v := .tuple #[.pointer (some ⟨w2.heap.size, 0, none⟩), .int .i64 0]) (by simp [results, Tryz.results91, go_sem]) rfl (new_end (rb := w1.heap.size + 1) (by (repeat (first | exact Below.refl _ _ | with_reducible assumption | refine pb_alloc ?_ _ | refine pb_drew ?_ | refine pb_drewN ?_ _ | refine pb_set ?_ (by simp; try omega) _ | refine pb_trans ?_ (by with_reducible assumption)))) (Blk.new rfl) (Blk.alloc (Blk.call (Blk.drew (Blk.new (by simp))) hb2) _) ((BookAt.loc bb newBook (t ++ [0])).below hk2 (by (repeat (first | exact Below.refl _ _ | with_reducible assumption | refine pb_alloc ?_ _ | refine pb_drew ?_ | refine pb_drewN ?_ _ | refine pb_set ?_ (by simp; try omega) _ | refine pb_trans ?_ (by with_reducible assumption))))) (by omega) (by omega) hag)

/-- What begin comes to. -/
def FoldPost (B : Nat) (f : FoldS) (t : List Nat) (ow : Own) (w : World) (v : Value) (e : Ending) (w' : World) : Prop :=
  e = .returned v ∧ ∃ ow', Step t ow w ow' w' ∧ FoldAt B f t ow' w'
set_option maxRecDepth 8000 in
set_option maxHeartbeats 1000000 in
theorem begin_any (B : Nat) (f : FoldS) (t : List Nat) (ow : Own) (v : Int) (sw : Bool) (w : World) (h : FoldAt B f t ow w) (hl : f.eras.length ≤ 536870912) :
    Calls Tryz.prog 187 #[.pointer (some ⟨B, 0, none⟩), .int .i64 v, .bool sw] w (FoldPost B (beginEra f v sw) t ow w (.tuple #[])) := by
  have hnow := now_any B f t ow
  obtain ⟨⟨ep, ve, st⟩, hn⟩ : ∃ n, nowP f.eras = n := ⟨_, rfl⟩
  rw [hn] at hnow
  unfold eraV at hnow
  have h0 := h
  obtain ⟨hne, bb, ev, hB, hbk, hR, o1, o2⟩ := h
  have hbeg : (beginEra f v sw).eras = f.eras ++ [((ep + 1) % 4294967296, v, f.count)] := by unfold beginEra; rw [hn]
  unfold foldCells at hB
  have hwr : IntKind.u32.wrap ((ep : Int) + 1) = (((ep + 1) % 4294967296 : Nat) : Int) := by rw [IntKind.wrap_u32]; omega
  generalize hep : (ep + 1) % 4294967296 = ep1 at *
  replace hep : Hid (_ = _) := hep
  replace hbeg : Hid (_ = _) := hbeg
  replace hnow : Hid (∀ _, _) := hnow
  replace hn : Hid (_ = _) := hn
  replace h0 : Hid (FoldAt _ _ _ _ _) := h0
  replace hbk : Hid (BookAt _ _ _ _ _) := hbk
  replace o2 : Hid (∀ _, _) := o2
  go_enter Tryz.func187, Tryz.ntmps187
  refine wp_seq_k fun K0 hK0 => ?_
  refine wp_region_sched [(0, true), (1, true), (2, true), (3, true), (4, true), (5, true), (9, true), (10, true), (11, true), (12, true), (13, true), (6, false), (7, true), (8, true), (14, false), (15, false), (16, false), (17, true), (18, true), (19, false)] (some 19) (fun w' => Blk w' B #[.pointer (some ⟨bb, 0, none⟩), ev, .int .i64 f.count, .bool f.sw] 209 ∧ True) (by kernel_rfl) (by kernel_rfl) ⟨hB.drew, trivial⟩ ?_
  (repeat (refine wpSched_quiet (v := ?_) rfl rfl (fun w' hS => ?_) (fun K hK => ?_); rotate_left; (focus ((try have e1 := hS.1.cell); (try have e2 := hS.2.1.cell); (try have e3 := hS.2.2.1.cell); (try have e4 := hS.2.2.2.1.cell); (try have f1 := hS.1); (try have f2 := hS.2.1); (try have f3 := hS.2.2.1); (try have f4 := hS.2.2.2.1); (try have f5 := hS.2.2.2.2.1); clear hS; go_simp; (try with_reducible rfl))); (go_simp; refine hK _ ?_; clear hK K)))
  refine wpSched_loud rfl (fun K hK => ?_)
  go_wp2_with (go_at_call 159; refine (hnow.out _ ((FoldAt.loc B f t).below h0.out (Below.drew (Below.refl _ _))) (by omega)).mono ?_; rintro e w1 ⟨rfl, hb1⟩)
  have k1 := hB.drew.call hb1
  refine hK.out _ _ (fun _ => ⟨k1, trivial⟩) ?_
  clear hK
  have hf0 := era_f0 ep ve st
  (repeat (refine wpSched_quiet (v := ?_) rfl rfl (fun w' hS => ?_) (fun K hK => ?_); rotate_left; (focus ((try have e1 := hS.1.cell); (try have e2 := hS.2.1.cell); (try have e3 := hS.2.2.1.cell); (try have e4 := hS.2.2.2.1.cell); (try have f1 := hS.1); (try have f2 := hS.2.1); (try have f3 := hS.2.2.1); (try have f4 := hS.2.2.2.1); (try have f5 := hS.2.2.2.2.1); clear hS; go_simp; (try with_reducible rfl))); (go_simp; refine hK _ ?_; clear hK K)))
  clear hf0
  refine wpSched_loud rfl (fun K hK => ?_)
  go_wp2
  refine hK.out _ _ (fun _ => ⟨k1, trivial⟩) ?_
  clear hK
  refine wpSched_loud rfl (fun K hK => ?_)
  go_wp2
  refine hK.out _ _ (fun _ => ⟨k1.alloc _, trivial⟩) ?_
  clear hK
  refine wpSched_loud rfl (fun K hK => ?_)
  have hbd1 : Below w.heap.size w w1 := by (repeat (first | exact Below.refl _ _ | with_reducible assumption | refine pb_alloc ?_ _ | refine pb_drew ?_ | refine pb_drewN ?_ _ | refine pb_set ?_ (by simp; try omega) _ | refine pb_trans ?_ (by with_reducible assumption)))
  have hbd : Below w.heap.size w (w1.alloc (.cells #[.int .u32 (ep1 : Int), .int .i64 v, .int .i64 f.count] 92)) := by (repeat (first | exact Below.refl _ _ | with_reducible assumption | refine pb_alloc ?_ _ | refine pb_drew ?_ | refine pb_drewN ?_ _ | refine pb_set ?_ (by simp; try omega) _ | refine pb_trans ?_ (by with_reducible assumption)))
  obtain ⟨ev', W3, hrun, hrow, hgr, hown⟩ := row_append eraT (hR.below hbd) (src_blk (n := 1) (size := 3) (cap := 1) (Blk.new (w := w1) (cs := #[.int .u32 (ep1 : Int), .int .i64 v, .int .i64 f.count]) (t := 92) rfl) rfl (Nat.le_refl 1)) (eraCells_one [(ep1, v, f.count)]) (by omega) 187
  refine wpList_append_by rfl _ _ _ rfl rfl rfl hrun ?_
  unfold wpList
  have hevB : ∀ g, ev.ownBlock = some g → g ≠ B ∧ g < w.heap.size := fun g hg => ⟨hR.ne_blk hB (by decide) hg, hR.lt hg⟩
  have k3 := (k1.alloc (.cells #[.int .u32 (ep1 : Int), .int .i64 v, .int .i64 f.count] 92)).kept (hgr.block B (by have := k1.lt; simp; omega) (fun e => (hevB B e.symm).1 rfl))
  refine hK.out _ _ (fun _ => ⟨k3, trivial⟩) ?_
  clear hK hrun
  obtain ⟨sa, sm, sc, rfl⟩ := hrow.shape
  (repeat (refine wpSched_quiet (v := ?_) rfl rfl (fun w' hS => ?_) (fun K hK => ?_); rotate_left; (focus ((try have e1 := hS.1.cell); (try have e2 := hS.2.1.cell); (try have e3 := hS.2.2.1.cell); (try have e4 := hS.2.2.2.1.cell); (try have f1 := hS.1); (try have f2 := hS.2.1); (try have f3 := hS.2.2.1); (try have f4 := hS.2.2.2.1); (try have f5 := hS.2.2.2.2.1); clear hS; go_simp; (try with_reducible rfl))); (go_simp; refine hK _ ?_; clear hK K)))
  have e3 := k3.cell
  have f3 := k3.frozen
  have l3 := k3.lt
  replace hevB : Hid (∀ _, _) := hevB
  refine wpSched_loud rfl (fun K hK => ?_)
  go_wp2
  refine hK.out _ _ (fun h => absurd rfl h) ?_
  clear hK e3 f3
  have k4 := k3.set (o := 1) (.slice sa sm sc)
  have e4 := k4.cell
  have f4 := k4.frozen
  refine wpSched_nil ?_
  refine hK0 _ _ ?_
  go_wp2
  go_end0
  have hBlt := hB.lt
  have hlB1 := k1.lt
  have hg5 : ∀ g, (Value.slice sa sm sc).ownBlock = some g → (ev.ownBlock = some g ∨ g = w1.heap.size + 1) := fun g hg => by
    rw [hg] at hown
    rcases hown with h | h
    · exact .inl h.symm
    · right; simpa using h
  have hgB : ∀ g, (Value.slice sa sm sc).ownBlock = some g → g ≠ B := fun g hg => by
    rcases hg5 g hg with h | h
    · exact (hevB.out g h).1
    · omega
  have hk6 : ∀ k, k < w.heap.size → k ≠ B → ev.ownBlock ≠ some k → ((W3.setCell ⟨B, 1, none⟩ (.slice sa sm sc)).setCell ⟨B, 3, none⟩ (.bool sw)).heap[k]? = w.heap[k]? := fun k hk h1 h2 =>
    (Below.heap_setCell _ _ _ _ h1).trans ((Below.heap_setCell _ _ _ _ h1).trans ((hgr.block k (Nat.lt_of_lt_of_le hk hbd.size) (fun e => h2 e.symm)).trans (hbd.block k hk)))
  refine ⟨rfl, ow.ext w.heap.size (fun k => (Value.slice sa sm sc).ownBlock = some k) t, ⟨?_, fun k hk => Own.ext_old hk⟩, ⟨by rw [hbeg.out]; simp, bb, .slice sa sm sc, k4.set (o := 3) (.bool sw), ?_, ?_, ?_, ?_⟩⟩
  · exact (((Mod.of_below (fun k => Sub t (ow k)) hbd).trans (Mod.grown (X := fun k => ev.ownBlock = some k) hgr (fun k h => h)) (fun _ _ e => e) (fun k _ e => by rw [o2.out k e]; exact Sub.rfl' t)).thenSet (p := ⟨B, 1, none⟩) (by simp only [o1]; exact Sub.rfl' t) _).thenSet (p := ⟨B, 3, none⟩) (by simp only [o1]; exact Sub.rfl' t) _
  · refine (BookAt.loc bb f.book (t ++ [0])) _ _ _ _ hbk.out ?_ (fun k hk hs => ⟨Own.ext_old hk, hk6 k hk (fun e => ?_) (fun e => ?_)⟩)
    · have := hbd.size; have := hgr.size; simp; omega
    · subst e; rw [o1] at hs; exact not_child_sub t 0 hs
    · rw [o2.out k e] at hs; exact not_child_sub t 0 hs
  · rw [hbeg.out, List.length_append, List.length_singleton, List.flatMap_append]
    exact Row.kept (w := W3) hrow (fun g hg => (Below.heap_setCell _ _ _ _ (hgB g hg)).trans (Below.heap_setCell _ _ _ _ (hgB g hg)))
  · rw [Own.ext_old hBlt, o1]
  · intro g hg
    rcases hg5 g hg with h | h
    · rw [Own.ext_old (hevB.out g h).2, o2.out g h]
    · rw [Own.ext_new (by have := hbd1.size; omega) hg]
end Go.Proofs.YtaopeioebpfdeaaGreatDoor
