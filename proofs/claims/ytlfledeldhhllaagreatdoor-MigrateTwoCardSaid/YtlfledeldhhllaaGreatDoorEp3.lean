/- WALKS: slices.Collect at eras, Eras. Condition: the fold is one that calls have made. -/
import Derived.Test.YtlfledeldhhllaaGreatDoorEp2
namespace Go.Proofs.YtlfledeldhhllaaGreatDoor
open Go Go.RowKit Go.Shelf Go.Extern.Stop Go.Stop Go.Extern Go.Lib
attribute [local go_sem] Oper.semAt_some wide_fn wide_depth

/-- What holds ahead of each round of AppendSeq's loop. -/
def SeqAt (l : List EraD) (pb : Nat) (W0 : World) (k : Nat) (X : Nat → Prop) (W : World) : Prop :=
  Fr (fun k => k = pb) W0 X W ∧ k ≤ l.length ∧ ∃ pv, Blk W pb #[pv] 75 ∧ Row W 42 3 pv (l.take k).length ((l.take k).flatMap eraCells) ∧ (∀ g, pv.ownBlock = some g → W0.heap.size ≤ g ∧ ¬ X g)
theorem SeqAt.stab {l : List EraD} {pb : Nat} {W0 : World} {k : Nat} {X X' : Nat → Prop} {W W' : World} (h1 : pb < W0.heap.size)
    (h : SeqAt l pb W0 k X W) (hm : Mod X W W') (hx : ∀ k, X' k → X k ∨ (W.heap.size ≤ k ∧ k < W'.heap.size)) : SeqAt l pb W0 k X' W' := by
  obtain ⟨hfr, hk, pv, kp, kw, hn⟩ := h
  refine ⟨hfr.step hm hx, hk, pv, kp.kept (hfr.block hm h1), kw.mod hm (fun g hg => (hn g hg).2), fun g hg => ⟨(hn g hg).1, fun hX => ?_⟩⟩
  rcases hx g hX with h | h
  · exact (hn g hg).2 h
  · have := kw.lt hg; omega

set_option maxRecDepth 8000 in
set_option maxHeartbeats 1000000 in
theorem seqEra_any (gf : Nat) (lb : Array Value) (l : List EraD) (Rd : Nat → World → Prop)
    (hit : Iter Fence.wide 2 Tryz.prog gf lb (fun x : EraD => #[eraV x]) (fun (k : Nat) x => l[k]? = some x) (fun k _ => k + 1) (fun k => k = l.length) Rd 0)
    (eg : ∀ args w, (callFunc gf args).run Tryz.prog w = .ok (.enter gf args) w) (w : World) (hRd : ∀ W k, Below w.heap.size w W → Rd k W) (hl : l.length ≤ 536870912) :
    Calls Tryz.prog 71 #[.slice none 0 0, .func (.func gf) #[] lb] w fun e w' =>
      ∃ v', e = .returned v' ∧ Row w' 42 3 v' l.length (l.flatMap eraCells) ∧ Below w.heap.size w w' ∧ (∀ g, v'.ownBlock = some g → w.heap.size ≤ g) := by
  refine calls_of_wp_marks Tryz.func71 rfl ?_
  simp only [Tryz.ntmps71, List.size_toArray, List.length_cons, List.length_nil, Nat.reduceAdd, Nat.reduceSub, Array.replicate_succ, Array.replicate_zero, List.push_toArray, List.append_toArray, List.nil_append, List.cons_append]
  go_wp2
  obtain ⟨pb, hpb⟩ : ∃ pb, pb = w.heap.size := ⟨_, rfl⟩
  obtain ⟨W0, hW0⟩ : ∃ W0, W0 = w.alloc (.cells #[.slice none 0 0] 75) := ⟨_, rfl⟩
  have hsz : W0.heap.size = pb + 1 := by rw [hW0, hpb]; simp
  have hb0 : Below w.heap.size w W0 := by rw [hW0]; (repeat (first | exact Below.refl _ _ | with_reducible assumption | refine pb_alloc ?_ _ | refine pb_drew ?_ | refine pb_drewN ?_ _ | refine pb_set ?_ (by simp; try omega) _ | refine pb_trans ?_ (by with_reducible assumption)))
  have kp : Blk W0 pb #[.slice none 0 0] 75 := by rw [hW0]; exact Blk.new hpb
  rw [← hW0, ← hpb]
  replace hRd : Hid (∀ _, _) := hRd
  replace hpb : Hid (_ = _) := hpb
  clear hW0
  refine wp_rangeBox (gf := gf) (lb := lb) rfl eg hit (fun _ => rfl)
      (fun k X W => SeqAt l pb W0 k X W) (fun c X W => False)
      (fun k X X' W W' h hm hx => h.stab (by omega) hm hx)
      (fun c s X X' W W' h hm hx => h)
      (fun k X W h => hRd.out W k (hb0.trans (h.1.below (by have := hpb.out; omega) (fun k hk => by have := hpb.out; omega))))
      (fun k X W h => ⟨h.1.2.size, fun k hk => (h.1.1 k hk).2⟩)
      ⟨Fr.refl _ _, Nat.zero_le _, _, kp, row_nil _ _ _, by simp [Value.ownBlock]⟩
      5 42 (fun x => #[.int .u32 x.1, .int .i64 x.2.1, .int .i64 x.2.2]) ?assign ?body ?done ?stop
  case assign =>
    intro l' x W K hK
    rw [laidIn_one] at hK ⊢
    unfold eraV at hK ⊢
    gi_wp2
    exact hK
  case body =>
    rintro l' k x cb X X1 W1 W h1 ⟨hfr, hk, pv, kp', kw', hn⟩ hnx hcb hcw hXc kx hXl _
    obtain ⟨ep, ve, st⟩ := x
    have e0 := kx.cell
    simp only at e0
    rw [laidIn_one]
    unfold eraV
    have lc := kx.lt
    have lp := kp'.lt
    have ep0 := kp'.cell
    have hkl := (List.getElem?_eq_some_iff.1 hnx).1
    have hlen : (l.take k).length + 1 ≤ 1073741824 := by rw [List.length_take]; omega
    replace hlen : Hid (_ ≤ _) := hlen
    replace hn : Hid (∀ _, _) := hn
    gi_wp2_with (gi_at_builtin
                 obtain ⟨nv', W3, hrun, hrow, hgr, hown⟩ := row_append eraT (kw'.below ((Below.refl _ _).alloc (Nat.le_refl _) (.cells #[.int .u32 (ep : Int), .int .i64 ve, .int .i64 st] 42))) (src_blk (n := 1) (size := 3) (cap := 1) (Blk.new (w := W) (cs := #[.int .u32 (ep : Int), .int .i64 ve, .int .i64 st]) (t := 42) rfl) rfl (Nat.le_refl 1)) (eraCells_one [(ep, ve, st)]) hlen.out 75
                 refine wpListIn_append_by rfl _ _ _ rfl rfl rfl hrun ?_
                 have kp3 : Blk W3 pb #[pv] 75 := (kp'.alloc _).kept (hgr.block pb (by simp; omega) (fun e => by have := (hn.out pb e.symm).1; omega))
                 have en3 := kp3.cell
                 have fn3 := kp3.frozen
                 have lN3 := kp3.lt
                 obtain ⟨sa, sm, sc, rfl⟩ := hrow.shape
                 clear hrun)
    have hm : Mod (fun k => k = pb ∨ pv.ownBlock = some k) W (W3.setCell ⟨pb, 0, none⟩ (.slice sa sm sc)) :=
      (((Mod.refl (fun k => k = pb ∨ pv.ownBlock = some k) W).thenAlloc _).trans (Mod.grown hgr (fun k h => .inr h)) (fun _ _ e => e) (fun _ _ e => e)).thenSet (p := ⟨pb, 0, none⟩) (.inl rfl) _
    have htk : l.take (k + 1) = l.take k ++ [(ep, ve, st)] := by rw [List.take_add_one, hnx]; rfl
    refine ⟨⟨hfr.mod hm (fun k hk h => ?_), by omega, _, kp3.set _, ?_, ?_⟩, Saves.of_mod hm (fun k hk hX h => ?_)⟩
    · rcases h with h | h
      · exact h
      · have := (hn.out k h).1; omega
    · rw [htk]
      simp only [List.length_append, List.length_singleton, List.flatMap_append]
      refine Row.kept (w := W3) hrow (fun g hg => Below.heap_setCell _ _ _ _ (show g ≠ pb from fun e => ?_))
      rw [hg] at hown
      rcases hown with h | h
      · have := (hn.out _ h.symm).1; omega
      · simp at h; omega
    · intro g hg
      rw [hg] at hown
      rcases hown with h | h
      · exact hn.out g h.symm
      · simp at h
        have := hfr.2.size
        exact ⟨by omega, fun hX => by have := (hfr.1 g hX).2; omega⟩
    · have := hfr.1 k hX
      rcases h with h | h
      · omega
      · exact (hn.out k h).2 hX
  case done =>
    rintro D k X W hD hXD hfin ⟨hfr, hk, pv, kp', kw', hn⟩ hdef
    obtain rfl : k = l.length := hfin
    rw [List.take_length] at kw'
    have ep0 := kp'.cell
    have hDl := (Array.getElem?_eq_some_iff.1 hdef).1
    have hbW : Below w.heap.size w W := hb0.trans (hfr.below (by have := hpb.out; omega) (fun k h => by have := hpb.out; omega))
    replace hn : Hid (∀ _, _) := hn
    go_wp2
    refine end_mark1n (D := D) (v := pv) hdef (by simp [results, Tryz.results71, go_sem]) ?_
    refine ⟨pv, rfl, kw'.kept (fun g hg => World.putObj_heap_other (fun e => (hn.out g hg).2 (by rw [e]; exact hXD))), below_putObj hbW (by have := hpb.out; omega) _, fun g hg => by have := (hn.out g hg).1; have := hpb.out; omega⟩
  case stop => rintro D c X W hD hXD h; exact h.elim
/-- Eras. -/
theorem eras_none (w : World) : Calls Tryz.prog 37 #[.pointer none] w fun e w' => e = .returned (.slice none 0 0) ∧ w' = w := by
  go_enter Tryz.func37, Tryz.ntmps37
  go_wp2_with (go_at_call 31; refine (isNil_none _).mono ?_; rintro e w1 ⟨rfl, rfl⟩)
  go_ret
  exact ⟨rfl, rfl⟩
set_option maxHeartbeats 400000 in
theorem collectEra_any (ev : Value) (l : List EraD) (cb : Nat) (w : World) (hc : Blk w cb #[ev] 75) (hv : Src w ev 3 l.length (l.flatMap eraCells)) (hl : l.length ≤ 536870912) :
    Calls Tryz.prog 50 #[.func (.func 82) #[] #[.pointer (some ⟨cb, 0, none⟩)]] w fun e w' =>
      ∃ v', e = .returned v' ∧ Row w' 42 3 v' l.length (l.flatMap eraCells) ∧ Below w.heap.size w w' ∧ (∀ g, v'.ownBlock = some g → w.heap.size ≤ g) := by
  have hs := seqEra_any 82 #[.pointer (some ⟨cb, 0, none⟩)] l (fun _ W => Blk W cb #[ev] 75 ∧ Src W ev 3 l.length (l.flatMap eraCells))
    (valEra_iter cb ev l (by omega)) (enters_of Tryz.func82 (by kernel_rfl) rfl) w (fun W k hb => ⟨hc.call hb, hv.below hb⟩) hl
  replace hs : Hid (Calls _ _ _ _ _) := hs
  clear hc hv hl
  go_enter Tryz.func50, Tryz.ntmps50
  go_wp2_with (go_at_call 71; refine hs.out.mono ?_; rintro e w1 ⟨v', rfl, h1, h2, h3⟩; replace h3 : Hid (∀ _, _) := h3)
  go_ret
  exact ⟨_, rfl, h1, h2, h3.out⟩
theorem eras_any (B : Nat) (f : FoldS) (t : List Nat) (ow : Own) (w : World) (h : FoldAt B f t ow w) (hl : f.eras.length ≤ 536870912) : Calls Tryz.prog 37 #[.pointer (some ⟨B, 0, none⟩)] w fun e w' =>
    ∃ v', e = .returned v' ∧ Row w' 42 3 v' f.eras.length (f.eras.flatMap eraCells) ∧ Below w.heap.size w w' ∧ (∀ g, v'.ownBlock = some g → w.heap.size ≤ g) := by
  have hn := isNil_no B f t ow w h
  have ha := all_any B f t ow w h
  replace hn : Hid (Calls _ _ _ _ _) := hn
  replace ha : Hid (Calls _ _ _ _ _) := ha
  clear h
  go_enter Tryz.func37, Tryz.ntmps37
  go_wp2_with (first
    | (go_at_call 31; refine hn.out.mono ?_; rintro e w1 ⟨rfl, rfl⟩)
    | (go_at_call 49; refine ha.out.mono ?_; rintro e w2 ⟨ev, rfl, rfl, h1, h2⟩; replace h2 : Hid (∀ _, _) := h2)
    | (go_at_call 50; refine (collectEra_any ev f.eras _ _ (Blk.new rfl) (h1.src.below ((Below.refl _ _).alloc (Nat.le_refl _) _)) hl).mono ?_; rintro e w3 ⟨v', rfl, h3, h4, h5⟩; replace h5 : Hid (∀ _, _) := h5))
  go_ret
  refine ⟨_, rfl, h3, by (repeat (first | exact Below.refl _ _ | with_reducible assumption | refine pb_alloc ?_ _ | refine pb_drew ?_ | refine pb_drewN ?_ _ | refine pb_set ?_ (by simp; try omega) _ | refine pb_trans ?_ (by with_reducible assumption))), fun g hg => by have := h5.out g hg; simp at this; omega⟩
end Go.Proofs.YtlfledeldhhllaaGreatDoor
