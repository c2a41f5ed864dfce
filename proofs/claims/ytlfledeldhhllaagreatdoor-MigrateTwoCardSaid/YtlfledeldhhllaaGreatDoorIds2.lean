/- WALKS of ids: wait, Log, row, Take. Condition: the book is one that calls have made ('BookAt'). -/
import Derived.Test.YtlfledeldhhllaaGreatDoorIds1
namespace Go.Proofs.YtlfledeldhhllaaGreatDoor
open Go Go.RowKit Go.Shelf Go.Extern.Stop Go.Stop Go.Extern
attribute [local go_sem] Oper.semAt_some wide_fn wide_depth

theorem BookOk.wait {b : BookS} (h : BookOk b) {m : MsgD} (hm : rightM m = true) : BookOk { b with ws := put m.1 m b.ws } := by
  refine ⟨h.sixteen, h.most, ?_⟩
  intro p hp
  have hk := h.keys
  generalize b.ws = l at hp hk
  have hp' : p ∈ put m.1 m l := hp
  clear hp
  induction l with
  | nil => simp [put] at hp'; subst hp'; exact ⟨rfl, hm⟩
  | cons q l ih =>
    obtain ⟨k, v⟩ := q
    unfold put at hp'
    split at hp'
    · rcases List.mem_cons.1 hp' with rfl | h1
      · exact ⟨rfl, hm⟩
      · exact hk p (List.mem_cons_of_mem _ h1)
    · rcases List.mem_cons.1 hp' with rfl | h1
      · exact hk _ (List.mem_cons_self ..)
      · exact ih (fun q hq => hk q (List.mem_cons_of_mem _ hq)) h1

theorem map_nil_no (mb : Nat) (w : World) : (binOp .eql 91 (.map (some mb)) (.map none)).run Tryz.prog w = .ok (.bool false) w := by kernel_rfl

set_option maxRecDepth 8000 in
theorem wait_any (B : Nat) (b : BookS) (t : List Nat) (ow : Own) (m : MsgD) (hm : rightM m = true) (w : World) (hb : BookAt B b t ow w) : Calls Tryz.prog 80 #[.pointer (some ⟨B, 0, none⟩), msgV m] w fun e w' =>
    e = .returned (.tuple #[]) ∧ ∃ ow', Step t ow w ow' w' ∧ BookAt B (if hasP b m.1 then b else { b with ws := put m.1 m b.ws }) t ow' w' := by
  obtain ⟨⟨i, c⟩, d⟩ := m
  have hb0 := hb
  obtain ⟨hok, lv, mb, hB, hR, hM, o1, o2, o3⟩ := hb
  have hnil := map_nil_no mb
  cases hh : hasP b (i, c)
  · unfold msgV
    go_enter Tryz.func80, Tryz.ntmps80
    go_wp2_with (first
      | (go_at_call 89; refine (has_any B b t ow _ _ _ ((BookAt.loc B b t).below hb0 (by (repeat (first | exact Below.refl _ _ | with_reducible assumption | refine pb_alloc ?_ _ | refine pb_drew ?_ | refine pb_drewN ?_ _ | refine pb_set ?_ (by simp; try omega) _ | refine pb_trans ?_ (by with_reducible assumption)))))).mono ?_; rintro e w1 ⟨rfl, hb1⟩
         have k0 : Blk w1 w.heap.size #[.int .i64 i, .int .u32 c, .string (bs d)] 54 := Blk.call (by (repeat (first | with_reducible assumption | (refine Blk.new ?_; simp; done) | refine Blk.alloc ?_ _ | refine Blk.drew ?_ | refine Blk.drewN ?_ _ | refine Blk.call ?_ (by with_reducible assumption)))) hb1
         have hBw : Below w.heap.size w w1 := by (repeat (first | exact Below.refl _ _ | with_reducible assumption | refine pb_alloc ?_ _ | refine pb_drew ?_ | refine pb_drewN ?_ _ | refine pb_set ?_ (by simp; try omega) _ | refine pb_trans ?_ (by with_reducible assumption)))
         have c0 := k0.cell
         have cB : w1.cell? ⟨B, 17, none⟩ = some (.map (some mb)) := ((hB.call hBw).cell 17).trans (bookCells_map b.tk lv mb hok.sixteen)
         have hM1 : MapAt w1.drew mb idV (b.ws.map fun p => (p.1, msgV p.2)) := hM.kept (hBw.block mb hM.lt)
         obtain ⟨o, hup, hM2⟩ := hM1.update idKey Tryz.underlying91 (i, c) (.agg #[.int .i64 i, .int .u32 c, .string (bs d)])
         unfold idV at hup))


    go_region
    go_wp2
    go_end0
    refine ⟨rfl, ow, (Step.of_below t ow (pb_drew hBw)).trans (Step.putObj _ mb o (by rw [o2]; exact Sub.rfl' t)), hok.wait hm, lv, mb, (hB.call hBw).drew.putObj (hB.ne_map hM) o, ?_, ?_, o1, o2, o3⟩
    · exact hR.kept (fun g hg => (World.putObj_heap_other (hR.ne_map hM hg)).trans (hBw.block g (hR.lt hg)))
    · have hM3 : MapAt (w1.drew.putObj mb o) mb idV (put (i, c) (msgV ((i, c), d)) (b.ws.map fun p => (p.1, msgV p.2))) := hM2
      rw [put_map msgV] at hM3
      exact hM3
  · unfold msgV
    go_enter Tryz.func80, Tryz.ntmps80
    go_wp2_with (go_at_call 89; refine (has_any B b t ow _ _ _ ((BookAt.loc B b t).below hb0 (by (repeat (first | exact Below.refl _ _ | with_reducible assumption | refine pb_alloc ?_ _ | refine pb_drew ?_ | refine pb_drewN ?_ _ | refine pb_set ?_ (by simp; try omega) _ | refine pb_trans ?_ (by with_reducible assumption)))))).mono ?_; rintro e w1 ⟨rfl, hb1⟩)
    refine bodyPost_ret (results_none rfl _ _ _) rfl ?_
    have hBw : Below w.heap.size w w1 := by (repeat (first | exact Below.refl _ _ | with_reducible assumption | refine pb_alloc ?_ _ | refine pb_drew ?_ | refine pb_drewN ?_ _ | refine pb_set ?_ (by simp; try omega) _ | refine pb_trans ?_ (by with_reducible assumption)))
    exact ⟨rfl, ow, Step.of_below t ow hBw, (BookAt.loc B b t).below hb0 hBw⟩

theorem msgT : ElemT Tryz.prog 22 54 3 32 (.agg #[.int .i64 0, .int .u32 0, .string ⟨#[]⟩]) := ⟨Tryz.underlying22, by kernel_rfl, rfl, by decide, by decide⟩
theorem msgCells_one (l : List MsgD) : ∀ u ∈ l.flatMap msgCells, u.oneCell' = true := by
  intro u hu
  obtain ⟨m, _, hm⟩ := List.mem_flatMap.1 hu
  simp [msgCells] at hm
  rcases hm with rfl | rfl | rfl <;> rfl
theorem msgCells_len (l : List MsgD) : (l.flatMap msgCells).length = l.length * 3 := by
  induction l with
  | nil => rfl
  | cons m l ih => simp [List.flatMap_cons, msgCells, ih]; omega

theorem msgs_nil_yes (w : World) : (binOp .eql 22 (.slice none 0 0) (.slice none 0 0)).run Tryz.prog w = .ok (.bool true) w := by kernel_rfl
theorem msgs_nil_no (a : Addr) (n c : Nat) (w : World) : (binOp .eql 22 (.slice (some a) n c) (.slice none 0 0)).run Tryz.prog w = .ok (.bool false) w := by kernel_rfl
theorem row_made (w : World) (e : TypeId) (size : Nat) : Row (w.alloc (.cells #[] e)) e size (.slice (some ⟨w.heap.size, 0, none⟩) 0 0) 0 [] :=
  ⟨by simp, .inr ⟨w.heap.size, 0, #[], rfl, Nat.zero_le _, World.alloc_heap_new w _, Nat.le_refl _, Nat.zero_le _, by simp, by simp⟩⟩

set_option maxRecDepth 8000 in
/-- slices.Clone of messages. -/
theorem clone_any (v : Value) (l : List MsgD) (w : World) (hv : Src w v 3 l.length (l.flatMap msgCells)) (hb : l.length ≤ 1073741824) : Calls Tryz.prog 27 #[v] w fun e w' =>
    ∃ v', e = .returned v' ∧ Row w' 54 3 v' l.length (l.flatMap msgCells) ∧ Below w.heap.size w w' ∧ (∀ g, v'.ownBlock = some g → w.heap.size ≤ g) := by
  have hyes := msgs_nil_yes w
  have hno := fun a n c => msgs_nil_no a n c w
  have hv0 := hv
  rcases hv.2 with ⟨rfl, h0⟩ | ⟨b, off, cap, rfl, hc, hr⟩
  · obtain rfl : l = [] := List.eq_nil_of_length_eq_zero h0
    go_enter Tryz.func27, Tryz.ntmps27
    go_wp2
    go_ret
    exact ⟨_, rfl, row_nil _ _ _, Below.refl _ _, by simp [Value.ownBlock]⟩
  · clear hr hv
    replace hv0 : Hid (Src w (.slice (some ⟨b, off, none⟩) l.length cap) 3 l.length (l.flatMap msgCells)) := hv0
    replace hb : Hid (l.length ≤ 1073741824) := hb
    go_enter Tryz.func27, Tryz.ntmps27
    go_wp2_with (at_builtin
                 obtain ⟨v', w', hrun, hrow, hgr, hown⟩ := row_append msgT (row_made w 54 3) (Src.below (Hid.out hv0) ((Below.refl _ _).alloc (Nat.le_refl _) _)) (msgCells_one l) (by have := hb.out; omega) 22
                 refine wpList_append_by rfl _ _ _ rfl rfl rfl hrun ?_)
    go_ret
    refine ⟨_, rfl, by simpa using hrow, ((Below.refl _ _).alloc (Nat.le_refl _) _).grown hgr (by simp) (fun k hk => by simp [Value.ownBlock] at hk; omega), fun g hg => ?_⟩
    have hg' : v'.ownBlock = some g := hg
    rcases hown with h1 | h1 <;> rw [hg'] at h1 <;> simp [Value.ownBlock] at h1 <;> omega

theorem row_any (B : Nat) (m : MsgD) (w : World) : Calls Tryz.prog 81 #[.pointer (some ⟨B, 0, none⟩), msgV m] w fun e w' =>
    e = .returned (.func (.func 90) #[] #[.pointer (some ⟨w.heap.size + 1, 0, none⟩), .pointer (some ⟨w.heap.size, 0, none⟩)]) ∧
    w' = (w.alloc (.cells #[.pointer (some ⟨B, 0, none⟩)] 71)).alloc (.cells #[.int .i64 m.1.1, .int .u32 m.1.2, .string (bs m.2)] 54) := by
  unfold msgV
  go_enter Tryz.func81, Tryz.ntmps81
  go_wp2
  go_ret
  exact ⟨rfl, rfl⟩

theorem look_mem {V : Type} {k : MId} {v : V} : ∀ {l : List (MId × V)}, look k l = some v → (k, v) ∈ l
  | [], h => by cases h
  | (k', v') :: l, h => by
    unfold look at h
    split at h
    · rename_i hk; cases h; subst hk; exact List.mem_cons_self ..
    · exact List.mem_cons_of_mem _ (look_mem h)
theorem del_sub {V : Type} (k : MId) : ∀ (l : List (MId × V)), ∀ p ∈ del k l, p ∈ l
  | [], p, h => by cases h
  | (k', v') :: l, p, h => by
    unfold del at h
    split at h
    · exact List.mem_cons_of_mem _ h
    · rcases List.mem_cons.1 h with rfl | h1
      · exact List.mem_cons_self ..
      · exact List.mem_cons_of_mem _ (del_sub k l p h1)
/-- What waits bears its own id, and is right. -/
def WsOk (ws : List (MId × MsgD)) : Prop := ∀ p ∈ ws, p.2.1 = p.1 ∧ rightM p.2 = true
theorem WsOk.del {ws : List (MId × MsgD)} (h : WsOk ws) (k : MId) : WsOk (del k ws) := fun p hp => h p (del_sub k ws p hp)
def zeroM : MsgD := ((0, 0), [])
def ptrCell (v : Value) (o : Nat) (w : World) : Value := match v with | .pointer (some a) => (w.cell? ⟨a.block, o, none⟩).getD undef | _ => undef

def rowMeas (p4 p5 : Value) (wr : World) : Nat := match p5 with | .bool true => 4294967296 - (intOf (ptrCell p4 1 wr)).toNat | _ => 0

set_option maxRecDepth 8000 in
set_option maxHeartbeats 1000000 in
/-- The iterator over a message and those that wait behind it. -/
theorem row_iter (bm bb B mb : Nat) (m : MsgD) (ws0 : List (MId × MsgD)) (hok0 : WsOk ws0) (hm : rightM m = true) :
    Iter Fence.wide 2 Tryz.prog 90 #[.pointer (some ⟨bm, 0, none⟩), .pointer (some ⟨bb, 0, none⟩)] (fun x : MsgD => #[msgV x])
      (fun (s : List (MId × MsgD) × Option MsgD) x => s.2 = some x ∧ rightM x = true ∧ WsOk s.1) (fun s x => (del x.1 s.1, look (x.1.1, (x.1.2 + 1) % 4294967296) (del x.1 s.1))) (fun s => s.2 = none)
      (fun s W => Blk W bm #[.int .i64 m.1.1, .int .u32 m.1.2, .string (bs m.2)] 54 ∧ W.cell? ⟨bb, 0, none⟩ = some (.pointer (some ⟨B, 0, none⟩)) ∧ W.cell? ⟨B, 17, none⟩ = some (.map (some mb)) ∧ MapAt W mb idV (s.1.map fun p => (p.1, msgV p.2))) (ws0, some m) := by
  intro l J Jx W hJ hJx hRd hY h0
  obtain ⟨r0, r1, r2, r3⟩ := hRd _ _ _ h0
  have c0 := r0.cell
  have f0 := r0.lt
  have hF : Fence.wide.fn 90 := trivial
  have hro : Fence.wide.round = none := rfl
  refine callsIn_of_wp Tryz.func90 rfl hF ?_ hro
  simp only [Tryz.ntmps90, List.size_toArray, List.length_cons, List.length_nil, Nat.reduceAdd, Nat.reduceSub, Array.replicate_succ, Array.replicate_zero, List.push_toArray, List.append_toArray, List.nil_append, List.cons_append]
  gi_wp2
  gi_loopw [4, 5] (fun p4 p5 wr => ∃ (ws : List (MId × MsgD)) (o : Option MsgD) (X : Nat → Prop) (cb : Nat), p4 = .pointer (some ⟨cb, 0, none⟩) ∧ p5 = .bool o.isSome ∧
      Blk wr cb #[.int .i64 (o.getD zeroM).1.1, .int .u32 ((o.getD zeroM).1.2 : Nat), .string (bs (o.getD zeroM).2)] 54 ∧ X cb ∧ WsOk ws ∧ rightM (o.getD m) = true ∧ J (ws, o) X wr)
    (fun p4 p5 wr => rowMeas p4 p5 wr)
  case atStart => exact ⟨ws0, some m, fun k => False ∨ k = W.heap.size, W.heap.size, rfl, rfl, Blk.new rfl, .inr rfl, hok0, hm, hJ.alloc (.cells #[.int .i64 m.1.1, .int .u32 m.1.2, .string (bs m.2)] 54) h0⟩
  case round =>
    clear r0 r1 r2 r3 c0 f0
    obtain ⟨ws, o, X, cb, rfl, rfl, hcb, hX, hws, hrm, hJs⟩ := hrel
    cases o with
    | none =>
      gi_wp2
      go_end0
      exact ⟨⟨_, rfl⟩, .inl ⟨(ws, none), X, rfl, hJs⟩⟩
    | some x =>
      obtain ⟨⟨i, c⟩, d⟩ := x
      have c0 := hcb.cell
      simp only [Option.getD_some] at c0
      obtain ⟨fn, tmps, assign, body, hy, hR⟩ := hY (ws, some ((i, c), d)) ((i, c), d) X _ hJs ⟨rfl, hrm, hws⟩
      unfold msgV at hy
      gi_wp2
      refine hR.mono ?_
      rintro e W' (⟨rfl, hJ', hsv⟩ | ⟨rfl, hx'⟩)
      · clear c0 hR hy
        obtain ⟨-, r1, r2, r3⟩ := hRd _ _ _ hJ'
        have kcb : Blk W' cb #[.int .i64 i, .int .u32 c, .string (bs d)] 54 := hcb.kept (hsv.2 cb hX hcb.lt)
        have c0 := kcb.cell
        have g0 := kcb.frozen
        have lcb := kcb.lt
        have hcast : (((c + 1) % 4294967296 : Nat) : Int) = ((c : Int) + 1) % 4294967296 := by omega
        obtain ⟨y, hy⟩ : ∃ y, look (i, (c + 1) % 4294967296) (del (i, c) ws) = y := ⟨_, rfl⟩
        have hlk := (r3.kept (w' := W'.drew) rfl).lookup_ok idKey Tryz.underlying91 (msg_zero W'.drew) (i, (c + 1) % 4294967296)
        rw [look_map, Option.isSome_map, hy] at hlk
        obtain ⟨ym, hym⟩ : ∃ ym, y.getD zeroM = ym := ⟨_, rfl⟩
        have hyk : Hid (∀ z, y = some z → z.1 = (i, (c + 1) % 4294967296)) := fun z hz => ((hws.del (i, c)) _ (look_mem (hy.trans hz))).1
        have hry : Hid (rightM (y.getD m) = true) := by
          cases hyy : y with
          | none => exact hm
          | some z => exact ((hws.del (i, c)) _ (look_mem (hy.trans hyy))).2
        replace hy : Hid (_ = _) := hy
        replace hym : Hid (_ = _) := hym
        have hv : (y.map msgV).getD (.agg #[.int .i64 0, .int .u32 0, .string ⟨#[]⟩]) = .agg #[.int .i64 ym.1.1, .int .u32 ym.1.2, .string (bs ym.2)] := by
          rw [← hym.out]; cases y <;> rfl
        rw [hv] at hlk
        unfold idV at hlk
        rw [hcast] at hlk
        have hlk2 := hlk
        rw [show ((c : Int) + 1) % 4294967296 = IntKind.u32.wrap ((c : Int) + 1) from (IntKind.wrap_u32 _).symm] at hlk2
        clear hv r3
        gi_wp2
        refine wpIn_wide.2 ?_
        go_region
        gi_wp2
        go_roundw
        case rel =>
          refine ⟨del (i, c) ws, y, fun k => X k ∨ k = W'.heap.size, W'.heap.size, rfl, rfl, ?_, .inr rfl, hws.del _, hry.out, ?_⟩
          · rw [hym.out]; exact (Blk.new (by simp)).drew
          · rw [hy.out] at hJ'
            exact hJ _ _ _ _ _ hJ' (((((Mod.refl X W').thenSet hX _).thenSet hX _).thenSet hX _).thenAlloc _).thenDrew (fun k hk => by
              rcases hk with h | h
              · exact .inl h
              · right; subst h; simp)
        case measure =>
          have e1 : ptrCell (.pointer (some ⟨cb, 0, none⟩)) 1 wr = .int .u32 (c : Int) := by
            show (wr.cell? ⟨cb, 1, none⟩).getD undef = _
            rw [hcb.cell 1]; rfl
          have hc4 : c ≤ 4294967294 := by
            have h1 : rightM ((i, c), d) = true := hrm
            simp [rightM] at h1; exact h1.2
          cases y with
          | none =>
            show 0 < 4294967296 - (intOf (ptrCell (.pointer (some ⟨cb, 0, none⟩)) 1 wr)).toNat
            rw [e1]
            simp only [intOf]
            omega
          | some z =>
            have hz := hyk.out z rfl
            have hzm : ym = z := hym.out.symm
            have e2 : ptrCell (.pointer (some ⟨W'.heap.size, 0, none⟩)) 1 ((((W'.setCell ⟨cb, 0, none⟩ (.int .i64 ym.1.1)).setCell ⟨cb, 1, none⟩ (.int .u32 ym.1.2)).setCell ⟨cb, 2, none⟩ (.string (bs ym.2))).alloc (.cells #[.int .i64 ym.1.1, .int .u32 ym.1.2, .string (bs ym.2)] 54)).drew = .int .u32 (ym.1.2 : Int) := by
              have hk : Blk ((((W'.setCell ⟨cb, 0, none⟩ (.int .i64 ym.1.1)).setCell ⟨cb, 1, none⟩ (.int .u32 ym.1.2)).setCell ⟨cb, 2, none⟩ (.string (bs ym.2))).alloc (.cells #[.int .i64 ym.1.1, .int .u32 ym.1.2, .string (bs ym.2)] 54)).drew W'.heap.size #[.int .i64 ym.1.1, .int .u32 ym.1.2, .string (bs ym.2)] 54 := (Blk.new (by simp)).drew
              show (World.cell? _ ⟨W'.heap.size, 1, none⟩).getD undef = _
              rw [hk.cell 1]; rfl
            show 4294967296 - (intOf (ptrCell (.pointer (some ⟨W'.heap.size, 0, none⟩)) 1 _)).toNat < 4294967296 - (intOf (ptrCell (.pointer (some ⟨cb, 0, none⟩)) 1 wr)).toNat
            rw [e1, e2]
            simp only [intOf]
            rw [hzm, hz]
            simp only
            omega
      · gi_wp2
        refine bodyPost_ret (results_none rfl _ _ _) rfl ?_
        exact ⟨⟨_, rfl⟩, .inr ⟨_, hx'⟩⟩
end Go.Proofs.YtlfledeldhhllaaGreatDoor
