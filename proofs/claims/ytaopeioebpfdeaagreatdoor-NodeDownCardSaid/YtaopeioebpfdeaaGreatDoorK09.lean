/- PROVED HERE: WALK of ids: Take. Condition: the book is one that calls have made ('BookAt'). WORDS for eras in memory. No condition. slices.Values at rostrum/api.Era: its contract, and its iterator. Condition: the slice can be read. -/
import Derived.Deep.RegionLaw
import Derived.Test.YtaopeioebpfdeaaGreatDoorK05
import Derived.Test.YtaopeioebpfdeaaGreatDoorK08
namespace Go.Proofs.YtaopeioebpfdeaaGreatDoor
open Go Go.RowKit Go.Shelf Go.Extern.Stop Go.Stop Go.Extern
attribute [local go_sem] Oper.semAt_some wide_fn wide_depth

theorem bookCells_set (tk : List Nat) (lv : Value) (mb i c : Nat) (hi : i < tk.length) : (bookCells tk lv mb).setIfInBounds i (.int .u32 c) = bookCells (tk.set i c) lv mb := by
  simp [bookCells, List.set_append_left, hi, List.map_set]
theorem bookCells_setLog (tk : List Nat) (lv lv' : Value) (mb : Nat) (h : tk.length = 16) : (bookCells tk lv mb).setIfInBounds 16 lv' = bookCells tk lv' mb := by
  have h1 : ((tk.map fun n : Nat => Value.int .u32 (n : Int))).length = 16 := by simpa using h
  unfold bookCells
  generalize (tk.map fun n : Nat => Value.int .u32 (n : Int)) = l at h1
  simp [List.set_append_right, h1]

/-- What holds ahead of each round of Take's loop. -/
def TakeAt (B mb NB : Nat) (lv : Value) (tk : List Nat) (L : List MsgD) (WS : List (MId × MsgD)) (W0 : World) (acc : List MsgD) (nv : Value) (s : List (MId × MsgD) × Option MsgD) (X : Nat → Prop) (W : World) : Prop :=
  acc ++ rowRem s = L ∧ rowFin s = WS ∧ WsOk s.1 ∧ (∀ x, s.2 = some x → rightM x = true) ∧
    Fr (fun k => k = B ∨ k = mb ∨ k = NB) W0 X W ∧
    Blk W B (bookCells (setTk tk acc) lv mb) 241 ∧ MapAt W mb idV (s.1.map fun p => (p.1, msgV p.2)) ∧ Blk W NB #[nv] 42 ∧
    Row W 34 3 nv acc.length (acc.flatMap msgCells) ∧ (∀ g, nv.ownBlock = some g → W0.heap.size ≤ g ∧ ¬ X g)
theorem TakeAt.stab {B mb NB : Nat} {lv : Value} {tk : List Nat} {L : List MsgD} {WS : List (MId × MsgD)} {W0 : World} {acc : List MsgD} {nv : Value} {s : List (MId × MsgD) × Option MsgD} {X X' : Nat → Prop} {W W' : World} (hB : B < W0.heap.size) (hm : mb < W0.heap.size) (hN : NB < W0.heap.size)
    (h : TakeAt B mb NB lv tk L WS W0 acc nv s X W) (hmod : Mod X W W') (hx : ∀ k, X' k → X k ∨ (W.heap.size ≤ k ∧ k < W'.heap.size)) : TakeAt B mb NB lv tk L WS W0 acc nv s X' W' := by
  obtain ⟨h1, h2, h3, h4, hfr, hB', hM, hNB, hR, hn⟩ := h
  refine ⟨h1, h2, h3, h4, hfr.step hmod hx, hB'.kept (hfr.block hmod hB), hM.kept (hfr.block hmod hm), hNB.kept (hfr.block hmod hN), hR.mod hmod (fun g hg => (hn g hg).2), fun g hg => ⟨(hn g hg).1, fun hX => ?_⟩⟩
  rcases hx g hX with h | h
  · exact (hn g hg).2 h
  · have := hR.lt hg; omega

/-- What a Take comes to. -/
def TakePost (B : Nat) (t : List Nat) (ow : Own) (w : World) (R : BookS × List MsgD × Int) (e : Ending) (w' : World) : Prop :=
  ∃ v ow', e = .returned (.tuple #[v, .int .i64 R.2.2]) ∧ Step t ow w ow' w' ∧ BookAt B R.1 t ow' w' ∧
      Row w' 34 3 v R.2.1.length (R.2.1.flatMap msgCells) ∧ (∀ g, v.ownBlock = some g → w.heap.size ≤ g ∧ ow' g = [])

set_option maxRecDepth 8000 in
set_option maxHeartbeats 400000 in
theorem take_any (B : Nat) (b : BookS) (t : List Nat) (_ht : t ≠ []) (ow : Own) (m : MsgD) (w : World) (hb : BookAt B b t ow w) (hl : b.log.length + b.ws.length ≤ 536870912) : Calls Tryz.prog 204 #[.pointer (some ⟨B, 0, none⟩), msgV m] w (TakePost B t ow w (takeP b m)) := by
  obtain ⟨⟨i, c⟩, d⟩ := m
  have hb0 := hb
  obtain ⟨hok, lv, mb, hB, hR, hM, o1, o2, o3⟩ := hb
  obtain ⟨R, hR0⟩ : ∃ R, takeP b ((i, c), d) = R := ⟨_, rfl⟩
  rw [hR0]
  cases hr : rightM ((i, c), d)
  · have hp : R = (b, [], 100) := by rw [← hR0]; unfold takeP; rw [if_pos hr]
    clear hR0
    unfold msgV
    refine calls_of_wp_marks Tryz.func204 rfl ?_
    simp only [Tryz.ntmps204, List.size_toArray, List.length_cons, List.length_nil, Nat.reduceAdd, Nat.reduceSub, Array.replicate_succ, Array.replicate_zero, List.push_toArray, List.append_toArray, List.nil_append, List.cons_append]
    go_wp2_with (go_at_call 33; refine (right_any _ _ _ _).mono ?_; rintro e w1 ⟨rfl, hb1⟩)
    have hBw : Below w.heap.size w w1 := by (repeat (first | exact Below.refl _ _ | with_reducible assumption | refine pb_alloc ?_ _ | refine pb_drew ?_ | refine pb_drewN ?_ _ | refine pb_set ?_ (by simp; try omega) _ | refine pb_trans ?_ (by with_reducible assumption)))
    rw [hp]
    exact end_mark0 (v := .tuple #[.slice none 0 0, .int .i64 100]) (by simp [results, Tryz.results204, go_sem]) ⟨_, ow, rfl, Step.of_below t ow hBw, (BookAt.loc B b t).below hb0 hBw, row_nil _ _ _, by simp [Value.ownBlock]⟩
  · by_cases hc : c = nextP b i
    · have hp : R = ({ tk := setTk b.tk (takeRow b.ws.length b.ws ((i, c), d)).2, log := b.log ++ (takeRow b.ws.length b.ws ((i, c), d)).2, ws := (takeRow b.ws.length b.ws ((i, c), d)).1 }, (takeRow b.ws.length b.ws ((i, c), d)).2, 0) := by rw [← hR0]; unfold takeP; rw [if_neg (by simp [hr]), if_neg (by simp; exact hc)]
      have t1 : ((c : Int) != (nextP b i : Nat)) = false := bne_eq_false_iff_eq.2 (by rw [← hc])
      clear hR0 hc
      replace hp : Hid (_ = _) := hp
      unfold msgV
      refine calls_of_wp_marks Tryz.func204 rfl ?_
      simp only [Tryz.ntmps204, List.size_toArray, List.length_cons, List.length_nil, Nat.reduceAdd, Nat.reduceSub, Array.replicate_succ, Array.replicate_zero, List.push_toArray, List.append_toArray, List.nil_append, List.cons_append]
      go_wp2_with (first
        | (go_at_call 33; refine (right_any _ _ _ _).mono ?_; rintro e w1 ⟨rfl, hb1⟩
           have hBw : Below w.heap.size w w1 := by (repeat (first | exact Below.refl _ _ | with_reducible assumption | refine pb_alloc ?_ _ | refine pb_drew ?_ | refine pb_drewN ?_ _ | refine pb_set ?_ (by simp; try omega) _ | refine pb_trans ?_ (by with_reducible assumption)))
           have hb2 := (BookAt.loc B b t).below hb0 hBw
           have kb : Blk w1 w.heap.size #[.pointer (some ⟨B, 0, none⟩)] 204 := Blk.call (by (repeat (first | with_reducible assumption | (refine Blk.new ?_; simp; done) | refine Blk.alloc ?_ _ | refine Blk.drew ?_ | refine Blk.drewN ?_ _ | refine Blk.call ?_ (by with_reducible assumption)))) hb1
           have k0 : Blk w1 (w.heap.size + 1) #[.int .i64 i, .int .u32 c, .string (bs d)] 34 := Blk.call (by (repeat (first | with_reducible assumption | (refine Blk.new ?_; simp; done) | refine Blk.alloc ?_ _ | refine Blk.drew ?_ | refine Blk.drewN ?_ _ | refine Blk.call ?_ (by with_reducible assumption)))) hb1
           have c0 := k0.cell
           have cb0 := kb.cell
           have lb0 := kb.lt
           have l0 := k0.lt)
        | (go_at_call 213; refine (next_any B b t ow _ _ hb2).mono ?_; rintro e w2 ⟨rfl, rfl⟩)
        | (go_at_call 215; refine (row_any B ((i, c), d) _).mono ?_; rintro e w3 ⟨rfl, rfl⟩))
      obtain ⟨NB, hNB⟩ : ∃ NB, NB = w2.heap.size := ⟨_, rfl⟩
      obtain ⟨W0, hW0⟩ : ∃ W0, W0 = ((w2.alloc (.cells #[.slice none 0 0] 42)).alloc (.cells #[.pointer (some ⟨B, 0, none⟩)] 204)).alloc (.cells #[.int .i64 i, .int .u32 c, .string (bs d)] 34) := ⟨_, rfl⟩
      have hbb : Blk W0 (NB + 1) #[.pointer (some ⟨B, 0, none⟩)] 204 := by rw [hW0, hNB]; exact (Blk.new (by simp)).alloc _
      have hbm : Blk W0 (NB + 1 + 1) #[.int .i64 i, .int .u32 c, .string (bs d)] 34 := by rw [hW0, hNB]; exact Blk.new (by simp)
      have hnb : Blk W0 NB #[.slice none 0 0] 42 := by rw [hW0, hNB]; exact ((Blk.new rfl).alloc _).alloc _
      have hB0 : Below w.heap.size w W0 := by rw [hW0]; (repeat (first | exact Below.refl _ _ | with_reducible assumption | refine pb_alloc ?_ _ | refine pb_drew ?_ | refine pb_drewN ?_ _ | refine pb_set ?_ (by simp; try omega) _ | refine pb_trans ?_ (by with_reducible assumption)))
      have hsz : W0.heap.size = NB + 3 := by rw [hW0, hNB]; simp
      rw [← hNB, ← hW0]
      have lB : B < W0.heap.size := Nat.lt_of_lt_of_le hB.lt hB0.size
      have lm : mb < W0.heap.size := Nat.lt_of_lt_of_le hM.lt hB0.size
      have lw : w.heap.size < NB := by rw [hNB]; exact kb.lt
      have lwB : B < w.heap.size := hB.lt
      have lwm : mb < w.heap.size := hM.lt
      have hBm : B ≠ mb := hB.ne_map hM
      have qb : Blk W0 w.heap.size #[.pointer (some ⟨B, 0, none⟩)] 204 := by rw [hW0]; exact ((kb.alloc _).alloc _).alloc _
      have hB0' := hB.kept (hB0.block B hB.lt)
      have hM0' := hM.kept (hB0.block mb hM.lt)
      have hR0' := hR.kept (fun g hg => hB0.block g (hR.lt hg))
      clear hW0 hNB c0 cb0 lb0 l0 kb k0 hb2 hb1
      refine wp_rangeA (gf := 218) (lb := #[.pointer (some ⟨NB + 1 + 1, 0, none⟩), .pointer (some ⟨NB + 1, 0, none⟩)]) rfl (enters_of Tryz.func218 (by kernel_rfl) rfl)
        (row_iter (NB + 1 + 1) (NB + 1) B mb ((i, c), d) b.ws hok.keys hr) (fun _ => rfl)
        (fun s X W => ∃ acc nv, TakeAt B mb NB lv b.tk (takeRow b.ws.length b.ws ((i, c), d)).2 (takeRow b.ws.length b.ws ((i, c), d)).1 W0 acc nv s X W)
        (fun _ _ _ => False)
        (fun s X X' W W' h hm hx => by obtain ⟨acc, nv, h⟩ := h; exact ⟨acc, nv, h.stab lB lm (by omega) hm hx⟩)
        (fun _ _ _ _ _ _ h _ _ => h)
        (fun s X W h => by
          obtain ⟨acc, nv, -, -, -, -, hfr, hB', hM', -⟩ := h
          exact ⟨hbm.mod hfr.2 (by omega), ((hbb.mod hfr.2 (by omega)).cell 0).trans rfl, (hB'.cell 17).trans (bookCells_map _ _ _ (by rw [setTk_len]; exact hok.sixteen)), hM'⟩)
        ⟨[], .slice none 0 0, rfl, rfl, hok.keys, fun x hx => by cases hx; exact hr, Fr.refl _ _, hB0', hM0', hnb, row_nil _ _ _, by simp [Value.ownBlock]⟩
        (fun s x a' X W => ∃ acc nv cb, a' = { tmps := #[.pointer (some ⟨B, 0, none⟩), .agg #[.int .i64 i, .int .u32 c, .string (bs d)], .pointer (some ⟨w.heap.size, 0, none⟩), .pointer (some ⟨w.heap.size + 1, 0, none⟩), .slice none 0 0, .int .i64 0, .int .u32 (nextP b i : Nat), .pointer (some ⟨NB, 0, none⟩), .pointer (some ⟨cb, 0, none⟩), .pointer (some ⟨B, 0, none⟩), .bool false, .agg #[.int .i64 i, .int .u32 c, .string (bs d)], .bool true, .bool false, .pointer (some ⟨B, 0, none⟩), .pointer (some ⟨w.heap.size + 1, 0, none⟩), .pointer (some ⟨w.heap.size + 1, 0, none⟩), .int .i64 i, .int .u32 (nextP b i : Nat), .pointer (some ⟨w.heap.size + 1, 0, none⟩), .pointer (some ⟨w.heap.size + 1, 1, none⟩), .int .u32 c, .int .u32 (nextP b i : Nat), .bool false, undef, undef, undef, .pointer (some ⟨B, 0, none⟩), .agg #[.int .i64 i, .int .u32 c, .string (bs d)], .func (.func 218) #[] #[.pointer (some ⟨NB + 1 + 1, 0, none⟩), .pointer (some ⟨NB + 1, 0, none⟩)], .agg #[.int .i64 x.1.1, .int .u32 x.1.2, .string (bs x.2)], undef, undef, undef, undef, undef, undef, undef, undef, undef, undef, undef, undef, undef, undef, undef, undef, undef, undef, undef, undef, undef, undef, undef, undef, undef, undef, undef, undef, undef, undef], defers := [] } ∧ s.2 = some x ∧ W0.heap.size ≤ cb ∧ ¬ X cb ∧ Blk W cb #[.int .i64 x.1.1, .int .u32 x.1.2, .string (bs x.2)] 34 ∧ (∀ g, nv.ownBlock = some g → g ≠ cb) ∧
          TakeAt B mb NB lv b.tk (takeRow b.ws.length b.ws ((i, c), d)).2 (takeRow b.ws.length b.ws ((i, c), d)).1 W0 acc nv s X W)
        ?ax ?assign ?body ?done ?stop
      case ax =>
        rintro s x a' u X X' W W' ⟨acc, nv, cb, ha', h1, h2, hXB, hbk, hne, h⟩ hm hX
        exact ⟨acc, nv, cb, ha', h1, h2, fun h => (hX cb h).elim hXB (fun h' => by have := hbk.lt; omega), hbk.mod hm hXB, hne, h.stab lB lm (by omega) hm hX⟩
      case assign =>
        rintro l' s x X W K ⟨acc, nv, h⟩ ⟨h1, h2, h3⟩ hK
        have hfr := h.2.2.2.2.1
        have hRw := h.2.2.2.2.2.2.2.2.1
        have hXW : ¬ X W.heap.size := hfr.next
        unfold msgV
        gi_wp2
        exact hK _ _ ⟨acc, nv, W.heap.size, rfl, h1, hfr.2.size, hXW, Blk.new rfl, fun g hg => by have := hRw.lt hg; omega, h.stab lB lm (by omega) (Mod.alloc _ _ _) (fun k hk => .inl hk)⟩ (Saves.of_mod (Mod.alloc (fun _ => False) _ _) (fun _ _ _ h => h))
      case body =>
        rintro l' s x a' X W ⟨acc, nv, cb, rfl, h1, h2, hXB, hbk, hne, h⟩ hXl _
        obtain ⟨g1, g2, g3, g4, hfr, kB, kM, kN, kR, kn⟩ := h
        have hrx := g4 x h1
        obtain ⟨⟨xi, xc⟩, xd⟩ := x
        obtain ⟨xk, rfl, hxk⟩ : ∃ k : Nat, xi = k ∧ k < 16 := by
          simp [rightM] at hrx
          exact ⟨xi.toNat, by omega, by omega⟩
        have hxi : (xk : Int) < 16 := by omega
        have e0 := hbk.cell
        have eb := (qb.mod hfr.2 (by omega)).cell
        have eB := (kB.cell 17).trans (bookCells_map _ _ _ (by rw [setTk_len]; exact hok.sixteen))
        have hMd := kM.kept (w' := W.drew) rfl
        obtain ⟨o, hdel, kM2⟩ := hMd.delete idKey Tryz.underlying238 #[238, 32] 0 rfl ((xk : Int), xc)
        unfold idV at hdel
        simp only at e0
        gi_wp2
        refine wpIn_region_still_tail 6 (by rfl) (fun ⟨_, _, h⟩ => h) (by kernel_rfl) (by kernel_rfl) ?_
        simp only [List.take_succ_cons, List.take_zero, List.drop_succ_cons, List.drop_zero]
        repeat still_step
        try refine wpStill_nil ?_
        refine wpList_delete_by rfl _ _ _ _ rfl rfl rfl hdel ?_
        unfold wpList
        obtain ⟨W1, hW1⟩ : ∃ W1, W1 = W.drew.putObj mb o := ⟨_, rfl⟩
        have hcm : cb ≠ mb := by have := hfr.2.size; omega
        have hcB : cb ≠ B := by have := hfr.2.size; omega
        have hcN : cb ≠ NB := by have := hfr.2.size; omega
        have hNB' : NB ≠ B := by omega
        have hwB' : w.heap.size ≠ B := by omega
        have hwN : w.heap.size ≠ NB := by omega
        have kB1 : Blk W1 B (bookCells (setTk b.tk acc) lv mb) 241 := by rw [hW1]; exact (kB.drew).putObj hBm o
        have kN1 : Blk W1 NB #[nv] 42 := by rw [hW1]; exact (kN.drew).putObj (by omega) o
        have kc1 : Blk W1 cb #[.int .i64 xk, .int .u32 xc, .string (bs xd)] 34 := by rw [hW1]; exact (hbk.drew).putObj hcm o
        have kb1 : Blk W1 w.heap.size #[.pointer (some ⟨B, 0, none⟩)] 204 := by rw [hW1]; exact ((qb.mod hfr.2 (by omega)).drew).putObj (by omega) o
        have kM1 : MapAt W1 mb idV ((del ((xk : Int), xc) s.1).map fun p => (p.1, msgV p.2)) := by rw [hW1, ← del_map]; exact kM2
        have kR1 : Row W1 34 3 nv acc.length (acc.flatMap msgCells) := by rw [hW1]; exact (show Row W.drew _ _ _ _ _ from kR).kept (fun g hg => World.putObj_heap_other (by have := (kn g hg).1; omega))
        have hm1 : Mod (fun k => k = B ∨ k = mb ∨ k = NB) W W1 := by rw [hW1]; exact ((Mod.refl _ W).thenDrew).thenPut (.inr (.inl rfl)) o
        rw [← hW1]
        clear e0 eb eB hdel kM2 hMd hW1
        have e0 := kc1.cell
        have eb := kb1.cell
        have f0 := kB1.frozen xk
        have cz := (kB1.cell xk).trans (bookCells_tk _ _ _ xk (by rw [setTk_len]; exact hok.sixteen) hxk)
        gi_wp2
        refine wpIn_region_still_tail 10 (by rfl) (fun ⟨_, _, h⟩ => h) (by kernel_rfl) (by kernel_rfl) ?_
        simp only [List.take_succ_cons, List.take_zero, List.drop_succ_cons, List.drop_zero]
        repeat still_step
        try refine wpStill_nil ?_
        go_wp2
        obtain ⟨W2, hW2⟩ : ∃ W2, W2 = (W1.setCell ⟨B, xk, none⟩ (.int .u32 xc)).drew := ⟨_, rfl⟩
        have kB2 : Blk W2 B (bookCells (setTk b.tk (acc ++ [(((xk : Int), xc), xd)])) lv mb) 241 := by
          rw [hW2, setTk_snoc, Int.toNat_natCast, ← bookCells_set _ _ _ _ _ (by rw [setTk_len]; have := hok.sixteen; omega)]; exact (kB1.set _).drew
        have kN2 : Blk W2 NB #[nv] 42 := by rw [hW2]; exact (kN1.other hNB' _).drew
        have kc2 : Blk W2 cb #[.int .i64 xk, .int .u32 xc, .string (bs xd)] 34 := by rw [hW2]; exact (kc1.other hcB _).drew
        have kM2 : MapAt W2 mb idV ((del ((xk : Int), xc) s.1).map fun p => (p.1, msgV p.2)) := by rw [hW2]; exact kM1.kept (Below.heap_setCell _ _ _ _ (show mb ≠ B from Ne.symm hBm))
        have kR2 : Row W2 34 3 nv acc.length (acc.flatMap msgCells) := by rw [hW2]; exact kR1.kept (fun g hg => Below.heap_setCell _ _ _ _ (show g ≠ B by have := (kn g hg).1; omega))
        have hm2 : Mod (fun k => k = B ∨ k = mb ∨ k = NB) W W2 := by rw [hW2]; exact (hm1.thenSet (p := ⟨B, xk, none⟩) (.inl rfl) _).thenDrew
        rw [← hW2]
        clear e0 eb f0 cz kB1 kN1 kc1 kb1 kM1 kR1 hm1 hW2
        have e0 := kc2.cell
        have en := kN2.cell
        have fn := kN2.frozen
        have lN := kN2.lt
        have lc := kc2.lt
        have hlen : acc.length + 1 ≤ 1073741824 := by
          have h5 := congrArg List.length g1
          have h6 := takeRow_len b.ws.length b.ws ((i, c), d)
          simp only [List.length_append] at h5
          omega
        have hne2 : ∀ g, nv.ownBlock = some g → g ≠ NB := fun g hg => by have := (kn g hg).1; omega
        replace hlen : Hid (_ ≤ _) := hlen
        replace hne2 : Hid (∀ _, _) := hne2
        gi_wp2_with (gi_at_builtin
                     obtain ⟨nv', W3, hrun, hrow, hgr, hown⟩ := row_append msgT (kR2.below ((Below.refl _ _).alloc (Nat.le_refl _) (.cells #[.int .i64 (xk : Int), .int .u32 (xc : Int), .string (bs xd)] 34))) (src_blk (n := 1) (size := 3) (Blk.new (w := W2) (cs := #[.int .i64 (xk : Int), .int .u32 (xc : Int), .string (bs xd)]) (t := 34) rfl) rfl (Nat.le_refl 1)) (msgCells_one [(((xk : Int), xc), xd)]) hlen.out 42
                     refine wpListIn_append_by rfl _ _ _ rfl rfl rfl hrun ?_
                     have kN3 : Blk W3 NB #[nv] 42 := (kN2.alloc _).kept (hgr.block NB (by simp; omega) (fun e => hne2.out NB e.symm rfl))
                     have en3 := kN3.cell
                     have fn3 := kN3.frozen
                     have lN3 := kN3.lt
                     obtain ⟨sa, sm, sc, rfl⟩ := hrow.shape
                     clear hrun)
        have hws := g3.del ((xk : Int), xc)
        have hstep := row_step (ws := s.1) (x := (((xk : Int), xc), xd)) g3
        have hs : s = (s.1, some (((xk : Int), xc), xd)) := by rw [← h1]
        have hm4 : Mod (fun k => k = B ∨ k = mb ∨ k = NB ∨ nv.ownBlock = some k) W (W3.setCell ⟨NB, 0, none⟩ (.slice sa sm sc)) :=
          (((hm2.mono (fun k _ h => by rcases h with h | h | h; exact .inl h; exact .inr (.inl h); exact .inr (.inr (.inl h)))).thenAlloc _).trans (Mod.grown hgr (fun k h => .inr (.inr (.inr h)))) (fun _ _ e => e) (fun _ _ e => e)).thenSet (p := ⟨NB, 0, none⟩) (.inr (.inr (.inl rfl))) _
        have hgb : ∀ k, k < W2.heap.size → nv.ownBlock ≠ some k → (W3.setCell ⟨NB, 0, none⟩ (.slice sa sm sc)).heap[k]? = W2.heap[k]? ∨ k = NB := fun k hk hne => by
          by_cases hkN : k = NB
          · exact .inr hkN
          · exact .inl ((Below.heap_setCell _ _ _ _ hkN).trans ((hgr.block k (by simp; omega) (fun e => hne e.symm)).trans (Below.heap_alloc _ _ _ hk)))
        refine ⟨⟨acc ++ [(((xk : Int), xc), xd)], .slice sa sm sc, ?_, ?_, hws, fun y hy => (rowNext_ok (x := (((xk : Int), xc), xd)) g3 hy).2, hfr.mod hm4 (fun k hk h => ?_), ?_, ?_, kN3.set _, ?_, ?_⟩, Saves.of_mod hm4 (fun k hk hX h => ?_)⟩
        · rw [← g1, hs, hstep.1]; simp; rfl
        · rw [← g2, hs, hstep.2]; rfl
        · rcases h with h | h | h | h
          · exact .inl h
          · exact .inr (.inl h)
          · exact .inr (.inr h)
          · have := (kn k h).1; omega
        · exact kB2.kept ((hgb B kB2.lt (fun e => by have := (kn B e).1; omega)).resolve_right (by omega))
        · exact kM2.kept ((hgb mb kM2.lt (fun e => by have := (kn mb e).1; omega)).resolve_right (by omega))
        · simp only [List.length_append, List.length_singleton, List.flatMap_append]
          refine Row.kept (w := W3) hrow (fun g hg => Below.heap_setCell _ _ _ _ (show g ≠ NB from fun e => ?_))
          subst e
          rw [hg] at hown
          rcases hown with h | h
          · have := (kn _ h.symm).1; omega
          · simp at h; omega
        · intro g hg
          rw [hg] at hown
          rcases hown with h | h
          · exact kn g h.symm
          · have := hm2.size
            have := hfr.2.size
            simp at h
            exact ⟨by omega, fun hX => by have := (hfr.1 g hX).2; omega⟩
        · have := hfr.1 k hX
          rcases h with h | h | h | h
          · omega
          · omega
          · omega
          · exact (kn k h).2 hX
      case done =>
        rintro D s X W hD hXD hfin ⟨acc, nv, g1, g2, g3, g4, hfr, kB, kM, kN, kR, kn⟩ hdef
        obtain ⟨wsz, os⟩ := s
        have hos : os = none := hfin
        subst hos
        have hacc : acc = (takeRow b.ws.length b.ws ((i, c), d)).2 := by rw [← g1]; simp [rowRem]
        have hwsz : wsz = (takeRow b.ws.length b.ws ((i, c), d)).1 := g2
        have eb := (qb.mod hfr.2 (by omega)).cell
        have eB := (kB.cell 16).trans (bookCells_log _ _ _ (by rw [setTk_len]; exact hok.sixteen))
        have en := kN.cell
        have fB := kB.frozen 16
        clear g1 g2 hfin g3 g4
        replace hacc : Hid (_ = _) := hacc
        replace hwsz : Hid (_ = _) := hwsz
        go_wp2
        have hRw : Row W.drew 34 3 lv b.log.length (b.log.flatMap msgCells) := Row.kept (w := W) (hR0'.mod hfr.2 (fun g hg h => by
          have := hR.lt hg
          rcases h with h | h | h
          · exact hR.ne_blk hB (by decide) hg h
          · exact hR.ne_map hM hg h
          · omega)) (fun _ _ => rfl)
        obtain ⟨lv', W5, hrun, hrow, hgr, hown⟩ := row_append msgT hRw (Src.kept (w := W) kR.src (fun _ _ _ _ => rfl)) (msgCells_one acc) (by rw [hacc.out]; have := takeRow_len b.ws.length b.ws ((i, c), d); omega) 42
        have hlvB : ∀ k, lv.ownBlock = some k → k < w.heap.size ∧ k ≠ B ∧ k ≠ mb := fun k hk => ⟨hR.lt hk, hR.ne_blk hB (by decide) hk, hR.ne_map hM hk⟩
        have hk5 : ∀ k, k < W.heap.size → lv.ownBlock ≠ some k → W5.heap[k]? = W.heap[k]? := fun k hk hne => hgr.block k hk (fun e => hne e.symm)
        have kB5 := kB.kept (hk5 B kB.lt (fun e => (hlvB B e).2.1 rfl))
        have kN5 := kN.kept (hk5 NB kN.lt (fun e => by have := (hlvB NB e).1; omega))
        have hdef5 := (hk5 D (Array.getElem?_eq_some_iff.1 hdef).1 (fun e => by have := (hlvB D e).1; omega)).trans hdef
        have kM5 := kM.kept (hk5 mb kM.lt (fun e => (hlvB mb e).2.2 rfl))
        have kR5 := kR.kept (fun g hg => hk5 g (kR.lt hg) (fun e => by have := (hlvB g e).1; have := (kn g hg).1; omega))
        obtain ⟨sa, sm, sc, rfl⟩ := hrow.shape
        have eB5 := (kB5.cell 16).trans (bookCells_log _ _ _ (by rw [setTk_len]; exact hok.sixteen))
        have fB5 := kB5.frozen 16
        have lB5 := kB5.lt
        have en5 := kN5.cell
        have hNB' : NB ≠ B := by omega
        have eb5 := (((qb.mod hfr.2 (by omega)).kept (hk5 w.heap.size (qb.mod hfr.2 (by omega)).lt (fun e => by have := (hlvB w.heap.size e).1; omega))).cell)
        replace hlvB : Hid (∀ _, _) := hlvB
        replace hk5 : Hid (∀ _, _) := hk5
        clear fB
        apply wp_one (Wp := fun w' => w' = W5.setCell ⟨B, 16, none⟩ (.slice sa sm sc))
        case h =>
          go_region_law (refine step_append_by _ _ _ rfl rfl rfl hrun ?_)
          all_goals exact sameAt rfl
        case h2 =>
        rintro w6 rfl
        clear hrun eB en eb eb5
        go_wp2
        replace kB5 : Blk (W5.setCell ⟨B, 16, none⟩ (.slice sa sm sc)) B (bookCells (setTk b.tk acc) (.slice sa sm sc) mb) 241 := by
          rw [← bookCells_setLog (lv := lv) _ _ _ (by rw [setTk_len]; exact hok.sixteen)]; exact kB5.set _
        have hBD : B ≠ D := by omega
        have hDs := (Array.getElem?_eq_some_iff.1 hdef).1
        have hlD : ∀ k, lv.ownBlock = some k → k ≠ D := fun k hk => by have := (hlvB.out k hk).1; omega
        have hb6 : ∀ k, k < W.heap.size → lv.ownBlock ≠ some k → k ≠ B → k ≠ D → ((W5.setCell ⟨B, 16, none⟩ (.slice sa sm sc)).putObj D (.deferred none)).heap[k]? = W.heap[k]? := fun k hk h1 h2 h3 =>
          (World.putObj_heap_other h3).trans ((Below.heap_setCell _ _ _ _ h2).trans (hk5.out k hk h1))
        have hmod : Mod (fun k => k = B ∨ k = mb ∨ k = NB ∨ lv.ownBlock = some k ∨ k = D) W0 ((W5.setCell ⟨B, 16, none⟩ (.slice sa sm sc)).putObj D (.deferred none)) :=
          (((hfr.2.mono (fun k _ h => by rcases h with h | h | h; exact .inl h; exact .inr (.inl h); exact .inr (.inr (.inl h)))).trans (Mod.grown (W := W) (W' := W5) (row := lv.ownBlock) ⟨hgr.os, hgr.tape, hgr.output, hgr.size, hgr.block⟩ (fun k h => .inr (.inr (.inr (.inl h))))) (fun _ _ e => e) (fun _ _ e => e)).thenSet (p := ⟨B, 16, none⟩) (.inl rfl) _).thenPut (.inr (.inr (.inr (.inr rfl)))) _
        refine end_mark1 (D := D) (v := .tuple #[nv, .int .i64 0]) ((Below.heap_setCell _ _ _ _ (Ne.symm hBD)).trans hdef5) (by simp [results, Tryz.results204, go_sem]) ?_
        have hg6 : ∀ g, (Value.slice sa sm sc).ownBlock = some g → (lv.ownBlock = some g ∨ g = W.heap.size) := fun g hg => by
          rw [hg] at hown
          rcases hown with h | h
          · exact .inl h.symm
          · right; simpa using h
        have hB6 : Mod (fun k => Sub t (ow k)) w ((W5.setCell ⟨B, 16, none⟩ (.slice sa sm sc)).putObj D (.deferred none)) :=
          (Mod.of_below _ hB0).trans hmod (fun _ _ e => e) (fun k hk h => by
            rcases h with h | h | h | h | h
            · rw [h, o1]; exact Sub.rfl' t
            · rw [h, o2]; exact Sub.rfl' t
            · omega
            · rw [o3 k h]; exact Sub.rfl' t
            · omega)
        rw [hp.out]
        refine ⟨nv, ow.ext w.heap.size (fun k => (Value.slice sa sm sc).ownBlock = some k) t, rfl, ⟨hB6, fun k hk => Own.ext_old hk⟩, ⟨hok.row hr _, .slice sa sm sc, mb, ?_, ?_, ?_, ?_, ?_, ?_⟩, ?_, ?_⟩
        · rw [← hacc.out]; exact kB5.putObj hBD _
        · simp only [List.length_append, List.flatMap_append]
          rw [← hacc.out]
          refine Row.kept (w := W5) hrow (fun g hg => (World.putObj_heap_other (fun e => ?_)).trans (Below.heap_setCell _ _ _ _ (show g ≠ B from fun e => ?_)))
          · rcases hg6 g hg with h | h
            · exact hlD g h e
            · omega
          · rcases hg6 g hg with h | h
            · exact (hlvB.out g h).2.1 e
            · omega
        · rw [← hwsz.out]
          exact kM.kept (hb6 mb kM.lt (fun e => (hlvB.out mb e).2.2 rfl) (Ne.symm hBm) (by omega))
        · rw [Own.ext_old lwB, o1]
        · rw [Own.ext_old lwm, o2]
        · intro g hg
          rcases hg6 g hg with h | h
          · rw [Own.ext_old (hlvB.out g h).1, o3 g h]
          · rw [Own.ext_new (by omega) hg]
        · rw [← hacc.out]
          refine kR.kept (fun g hg => hb6 g (kR.lt hg) (fun e => ?_) (fun e => ?_) (fun e => ?_))
          · have := (kn g hg).1; have := (hlvB.out g e).1; omega
          · have := (kn g hg).1; omega
          · subst e; exact (kn _ hg).2 hXD
        · intro g hg
          have h1 := (kn g hg).1
          refine ⟨by omega, Own.ext_none (by omega) (fun h => ?_)⟩
          rcases hg6 g h with h | h
          · have := (hlvB.out g h).1; omega
          · have := kR.lt hg; omega
      case stop => rintro D c' X W hD hXD h; exact h.elim
    · have hp : R = ((if hasP b (i, c) then b else { b with ws := put (i, c) ((i, c), d) b.ws }), [], 0) := by rw [← hR0]; unfold takeP; rw [if_neg (by simp [hr]), if_pos hc]
      have t1 : ((c : Int) != (nextP b i : Nat)) = true := bne_iff_ne.2 (fun e => hc (Int.ofNat.inj e))
      clear hR0
      replace hp : Hid (_ = _) := hp
      unfold msgV
      refine calls_of_wp_marks Tryz.func204 rfl ?_
      simp only [Tryz.ntmps204, List.size_toArray, List.length_cons, List.length_nil, Nat.reduceAdd, Nat.reduceSub, Array.replicate_succ, Array.replicate_zero, List.push_toArray, List.append_toArray, List.nil_append, List.cons_append]
      go_wp2_with (first
        | (go_at_call 33; refine (right_any _ _ _ _).mono ?_; rintro e w1 ⟨rfl, hb1⟩
           have hBw : Below w.heap.size w w1 := by (repeat (first | exact Below.refl _ _ | with_reducible assumption | refine pb_alloc ?_ _ | refine pb_drew ?_ | refine pb_drewN ?_ _ | refine pb_set ?_ (by simp; try omega) _ | refine pb_trans ?_ (by with_reducible assumption)))
           have hb2 := (BookAt.loc B b t).below hb0 hBw
           have kb : Blk w1 w.heap.size #[.pointer (some ⟨B, 0, none⟩)] 204 := Blk.call (by (repeat (first | with_reducible assumption | (refine Blk.new ?_; simp; done) | refine Blk.alloc ?_ _ | refine Blk.drew ?_ | refine Blk.drewN ?_ _ | refine Blk.call ?_ (by with_reducible assumption)))) hb1
           have k0 : Blk w1 (w.heap.size + 1) #[.int .i64 i, .int .u32 c, .string (bs d)] 34 := Blk.call (by (repeat (first | with_reducible assumption | (refine Blk.new ?_; simp; done) | refine Blk.alloc ?_ _ | refine Blk.drew ?_ | refine Blk.drewN ?_ _ | refine Blk.call ?_ (by with_reducible assumption)))) hb1
           have c0 := k0.cell
           have cb0 := kb.cell
           have lb0 := kb.lt
           have l0 := k0.lt)
        | (go_at_call 213; refine (next_any B b t ow _ _ hb2).mono ?_; rintro e w2 ⟨rfl, rfl⟩)
        | (go_at_call 214; refine (wait_any B b t ow ((i, c), d) hr _ hb2).mono ?_; rintro e w3 ⟨rfl, ow3, hs3, hb3⟩; replace hb3 : Hid _ := hb3))
      refine end_mark0 (v := .tuple #[.slice none 0 0, .int .i64 0]) (by simp [results, Tryz.results204, go_sem]) ?_
      rw [hp.out]
      exact ⟨_, ow3, rfl, (Step.of_below t ow hBw).trans hs3, hb3.out, row_nil _ _ _, by simp [Value.ownBlock]⟩
end Go.Proofs.YtaopeioebpfdeaaGreatDoor
namespace Go.Proofs.YtaopeioebpfdeaaGreatDoor
open Go Go.RowKit
def eraV (e : EraD) : Value := .agg #[.int .u32 e.1, .int .i64 e.2.1, .int .i64 e.2.2]
def eraCells (e : EraD) : List Value := [.int .u32 e.1, .int .i64 e.2.1, .int .i64 e.2.2]
end Go.Proofs.YtaopeioebpfdeaaGreatDoor
namespace Go.Proofs.YtaopeioebpfdeaaGreatDoor
open Go Go.RowKit Go.Shelf Go.Extern.Stop Go.Stop Go.Extern
attribute [local go_sem] Oper.semAt_some wide_fn wide_depth

theorem valEra_any (v : Value) (hv : ∃ a n c, v = .slice a n c) (w : World) : Calls Tryz.prog 166 #[v] w fun e w' =>
    e = .returned (.func (.func 188) #[] #[.pointer (some ⟨w.heap.size, 0, none⟩)]) ∧ w' = w.alloc (.cells #[v] 187) := by
  obtain ⟨a, n, c, rfl⟩ := hv
  go_enter Tryz.func166, Tryz.ntmps166
  go_wp2
  go_ret
  exact ⟨rfl, rfl⟩

theorem flatEra_at (l : List EraD) (k : Nat) (x : EraD) (h : l[k]? = some x) (j : Nat) (hj : j < 3) : (l.flatMap eraCells)[k * 3 + j]? = (eraCells x)[j]? := by
  induction l generalizing k with
  | nil => simp at h
  | cons y l ih =>
    cases k with
    | zero =>
      simp at h; subst h
      rw [List.flatMap_cons, Nat.zero_mul, Nat.zero_add, List.getElem?_append_left (by simp [eraCells]; omega)]
    | succ k =>
      simp at h
      have := ih k h
      rw [List.flatMap_cons, List.getElem?_append_right (by simp [eraCells]; omega)]
      rw [← this]
      congr 1
      simp [eraCells]; omega

set_option maxHeartbeats 1000000 in
theorem valEra_iter (cb : Nat) (v : Value) (l : List EraD) (hlen : l.length ≤ 1073741824) :
    Iter Fence.wide 2 Tryz.prog 188 #[.pointer (some ⟨cb, 0, none⟩)] (fun x : EraD => #[eraV x])
      (fun (k : Nat) x => l[k]? = some x) (fun k _ => k + 1) (fun k => k = l.length)
      (fun _ W => Blk W cb #[v] 187 ∧ Src W v 3 l.length (l.flatMap eraCells)) 0 := by
  intro lp J Jx W hJ hJx hRd hY h0
  obtain ⟨r0, r1⟩ := hRd _ _ _ h0
  have e0 := r0.cell
  have hF : Fence.wide.fn 188 := trivial
  have hro : Fence.wide.round = none := rfl
  rcases r1.2 with ⟨rfl, hn⟩ | ⟨b, off, cap, rfl, hc, -⟩
  · obtain rfl : l = [] := List.eq_nil_of_length_eq_zero hn
    clear r0 r1
    refine callsIn_of_wp Tryz.func188 rfl hF ?_ hro
    simp only [Tryz.ntmps188, List.size_toArray, List.length_cons, List.length_nil, Nat.reduceAdd, Nat.reduceSub, Array.replicate_succ, Array.replicate_zero, List.push_toArray, List.append_toArray, List.nil_append, List.cons_append]
    gi_wp2
    gi_loopw [7] (fun p wr => p = .int .i64 0 ∧ wr = W) (fun p _ => 0)
    case atStart => exact ⟨rfl, rfl⟩
    case round =>
      obtain ⟨rfl, rfl⟩ := hrel
      gi_wp2
      go_end0
      exact ⟨⟨_, rfl⟩, .inl ⟨0, _, rfl, h0⟩⟩
  · clear r0 r1
    refine callsIn_of_wp Tryz.func188 rfl hF ?_ hro
    simp only [Tryz.ntmps188, List.size_toArray, List.length_cons, List.length_nil, Nat.reduceAdd, Nat.reduceSub, Array.replicate_succ, Array.replicate_zero, List.push_toArray, List.append_toArray, List.nil_append, List.cons_append]
    gi_wp2
    gi_loopw [7] (fun p wr => ∃ (k : Nat) (X : Nat → Prop), p = .int .i64 (k : Int) ∧ k ≤ l.length ∧ J k X wr) (fun p _ => l.length - (intOf p).toNat)
    case atStart => exact ⟨0, _, rfl, Nat.zero_le _, h0⟩
    case round =>
      obtain ⟨k, X, rfl, hk, hJs⟩ := hrel
      clear e0
      by_cases hlt : k < l.length
      · obtain ⟨x, hx⟩ : ∃ x, l[k]? = some x := ⟨_, List.getElem?_eq_getElem hlt⟩
        obtain ⟨-, r1⟩ := hRd _ _ _ hJs
        rcases r1.2 with ⟨h, -⟩ | ⟨b', off', cap', h, -, hr⟩
        · cases h
        · cases h
          have hcell : ∀ j, j < 3 → wr.cell? ⟨b, off + (k * 3 + j), none⟩ = (eraCells x)[j]? := fun j hj => by
            have h1 := flatEra_at l k x hx j hj
            cases hu : (eraCells x)[j]? with
            | none => simp [eraCells] at hu; omega
            | some u => exact hr _ u (h1.trans hu)
          have c0 : wr.cell? ⟨b, off + k * 3, none⟩ = (eraCells x)[0]? := hcell 0 (by omega)
          have c1 : wr.cell? ⟨b, off + k * 3 + 1, none⟩ = (eraCells x)[1]? := hcell 1 (by omega)
          have c2 : wr.cell? ⟨b, off + k * 3 + 2, none⟩ = (eraCells x)[2]? := hcell 2 (by omega)
          have hY' := hY k x _ _ (hJ.alloc (.cells (eraCells x).toArray 92) hJs) hx
          obtain ⟨ep, ve, st⟩ := x
          simp only [eraCells] at c0 c1 c2 hY'
          simp only [List.getElem?_cons_zero, List.getElem?_cons_succ] at c0 c1 c2
          clear hcell hr r1
          obtain ⟨fn, tmps, assign, body, hy, hR⟩ := hY'
          unfold eraV at hy
          gi_wp2
          refine hR.mono ?_
          rintro e W' (⟨rfl, hJ', -⟩ | ⟨rfl, hx'⟩)
          · clear c0 c1 c2 hR hy
            gi_wp2
            go_roundw
            case rel => exact ⟨k + 1, _, by go_num, by omega, hJ'⟩
            case measure => simp [intOf]; omega
          · gi_wp2
            refine bodyPost_ret (results_none rfl _ _ _) rfl ?_
            exact ⟨⟨_, rfl⟩, .inr ⟨_, hx'⟩⟩
      · obtain rfl : k = l.length := by omega
        gi_wp2
        go_end0
        exact ⟨⟨_, rfl⟩, .inl ⟨l.length, X, rfl, hJs⟩⟩
end Go.Proofs.YtaopeioebpfdeaaGreatDoor
