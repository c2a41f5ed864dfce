/- PROVED HERE: ONE NODE in the statements' texts: what holds of it between calls. Condition: the registry's error variable holds its error. WALKS: rostrumlaw17.text, does. Condition: the node is one that calls have made; the registry's error variable holds its error. WALK: rostrumlaw17.does. Condition: the node is one that calls have made; the registry's error variable holds its error. -/
import Derived.Test.YtaopeioebpfdeaaGreatDoorK39
namespace Go.Proofs.YtaopeioebpfdeaaGreatDoor
open Go Go.RowKit Go.Shelf Go.Extern.Stop Go.Stop Go.Extern
attribute [local go_sem] Oper.semAt_some wide_fn wide_depth

theorem broadcast_pax (n : NodeS) (d : List UInt8) : (broadcastN n d).1.pax = n.pax := by
  unfold broadcastN
  split
  · rfl
  · split
    · rfl
    · split
      · rfl
      · exact (offer_same _ _).1.pax
theorem promiseP_known (p : PaxS) (i : Int) (b : Nat) : (promiseP p i b).1.known = p.known := by
  unfold promiseP
  split
  · rfl
  · split <;> rfl
theorem castP_known (p : PaxS) (i : Int) (b : Nat) (x : List UInt8) : (castP p i b x).1.known = p.known := by
  unfold castP
  split
  · rfl
  · split <;> rfl
theorem promise_known (n : NodeS) (i : Int) (b : Nat) : (promiseN n i b).1.pax.known = n.pax.known := by
  unfold promiseN
  split
  · rfl
  · split
    · rfl
    · split <;> exact promiseP_known _ _ _
theorem cast_known (n : NodeS) (i : Int) (b : Nat) (x : List UInt8) : (castN n i b x).1.pax.known = n.pax.known := by
  unfold castN
  split
  · rfl
  · split
    · rfl
    · exact castP_known _ _ _ _
theorem learnN_known (n : NodeS) (i : Int) (x : List UInt8) (h : KnownOk n.pax.known) : KnownOk (learnN n i x).1.pax.known := by
  have hk := (learn_known (p := n.pax) i x).2.1 h
  unfold learnN
  split
  · exact h
  · simp only
    split
    · exact h
    · split
      · rw [(apply_same _ _).pax]; exact hk
      · split
        · exact hk
        · rw [(apply_same _ _).pax]; exact hk
theorem recoverN_known (n : NodeS) (s : StD) : KnownOk (recoverN n s).pax.known := by
  unfold recoverN
  simp only
  show KnownOk (offerN _ _).pax.known
  rw [(offer_same _ _).1.pax, (apply_same _ _).pax]
  exact (replay_all { n with store := (recoverS n.store).1 } s _).2.1
/-- A node that calls have made, of one version. -/
structure NodeG (v : Int) (n : NodeS) : Prop where
  ok : NodeOk (stBegin v) n
  known : KnownOk n.pax.known
  ver : n.version = v
theorem NodeG.does {v : Int} {n : NodeS} (h : NodeG v n) (x : ActD) (hb : x.b < 18446744073709551616) : NodeG v (doesN (stBegin v) n x) := by
  refine ⟨does_ok h.ok x hb, ?_, ?_⟩
  · have hk := h.known
    unfold doesN
    split
    · rw [broadcast_pax]; exact hk
    split
    · rw [promise_known]; exact hk
    split
    · rw [cast_known]; exact hk
    split
    · exact learnN_known _ _ _ hk
    split
    · unfold wantN; split
      · exact hk
      · split <;> exact hk
    split
    · unfold cutN; split <;> exact hk
    split
    · unfold crashN; split <;> exact hk
    split
    · exact recoverN_known _ _
    split
    · exact learnN_known _ _ _ hk
    · exact hk
  · obtain ⟨⟨l, hi⟩, -⟩ := h.ok
    obtain ⟨l', hs⟩ := does_step hi x hb
    exact hs.same.2.1.trans h.ver
theorem NodeG.broadcast {v : Int} {n : NodeS} (h : NodeG v n) (d : List UInt8) (hd : d.length ≤ 300) : NodeG v (broadcastN n d).1 := by
  have := h.does ⟨0, 0, 0, d⟩ (by simp)
  rwa [show doesN (stBegin v) n ⟨0, 0, 0, d⟩ = (broadcastN n (textD ⟨0, 0, 0, d⟩)).1 from rfl, show textD ⟨0, 0, 0, d⟩ = d from List.take_of_length_le hd] at this
theorem NodeG.promise {v : Int} {n : NodeS} (h : NodeG v n) (i : Int) (b : Nat) (hb : b < 18446744073709551616) : NodeG v (promiseN n i b).1 := h.does ⟨1, i, b, []⟩ hb
theorem NodeG.want {v : Int} {n : NodeS} (h : NodeG v n) (i : Int) : NodeG v (wantN n i).1 := h.does ⟨4, i, 0, []⟩ (by simp)
theorem NodeG.cut {v : Int} {n : NodeS} (h : NodeG v n) (i : Int) : NodeG v (cutN n i).1 := h.does ⟨5, i, 0, []⟩ (by simp)
theorem NodeG.crash {v : Int} {n : NodeS} (h : NodeG v n) : NodeG v (crashN n).1 := h.does ⟨6, 0, 0, []⟩ (by simp)
theorem NodeG.recover {v : Int} {n : NodeS} (h : NodeG v n) : NodeG v (recoverN n (stBegin v)) := h.does ⟨7, 0, 0, []⟩ (by simp)
theorem NodeG.new {v id cap : Int} (h1 : 64 ≤ cap) (h2 : cap ≤ 1048576) : NodeG v (newN id v cap [] (stBegin v)) :=
  ⟨⟨⟨[], newN_inv id v cap [] (stBegin v)⟩, newStore_cap h1 h2⟩, fun i x h => by simp [newN, newPax, look] at h, rfl⟩

/-- What holds of the node: the blocks of F are nobody's. -/
def OneN (w : World) (F : Nat → Prop) (B : Nat) (n : NodeS) (W : World) : Prop :=
  ∃ ow, Below w.heap.size w W ∧ (∀ k, k < w.heap.size → ow k = []) ∧ (∀ k, F k → k < W.heap.size ∧ ow k = []) ∧ NodeAt B n [1] ow W
/-- With what is new since then. -/
def more (F : Nat → Prop) (W W' : World) : Nat → Prop := fun k => F k ∨ (W.heap.size ≤ k ∧ k < W'.heap.size)
theorem OneN.bel {w W : World} {F : Nat → Prop} {B : Nat} {n : NodeS} (h : OneN w F B n W) : Below w.heap.size w W := h.choose_spec.1
theorem OneN.below {w W W' : World} {F : Nat → Prop} {B : Nat} {n : NodeS} (h : OneN w F B n W) (hb : Below W.heap.size W W') : OneN w F B n W' := by
  obtain ⟨ow, h1, h2, h4, h3⟩ := h
  exact ⟨ow, h1.trans (hb.mono h1.size), h2, fun k hk => ⟨Nat.lt_of_lt_of_le (h4 k hk).1 hb.size, (h4 k hk).2⟩, (NodeAt.loc _ _ _).below h3 hb⟩
theorem OneN.mono {w W : World} {F G : Nat → Prop} {B : Nat} {n : NodeS} (h : OneN w F B n W) (hg : ∀ k, G k → F k) : OneN w G B n W := by
  obtain ⟨ow, h1, h2, h4, h3⟩ := h
  exact ⟨ow, h1, h2, fun k hk => h4 k (hg k hk), h3⟩
theorem OneN.new {w W W' : World} {B : Nat} {n : NodeS} {ow : Own} (hb : Below w.heap.size w W) (hs : Step [1] (fun _ => []) W ow W') (hF : NodeAt B n [1] ow W') : OneN w (fun k => k < W.heap.size) B n W' := by
  have h5 := hs.belowW (by simp) hb (fun _ _ => rfl)
  exact ⟨ow, h5.1, h5.2, fun k hk => ⟨Nat.lt_of_lt_of_le hk hs.size, hs.agree k hk⟩, hF⟩
theorem OneN.after {w W W' w2 : World} {F : Nat → Prop} {B : Nat} {m : NodeS} {ow ow2 : Own} (h1 : Below w.heap.size w W) (h2 : ∀ k, k < w.heap.size → ow k = []) (h4 : ∀ k, F k → k < W.heap.size ∧ ow k = []) (hb : Below W.heap.size W W') (hs0 : Step [1] (ow.cut W) W' ow2 w2) (hN : NodeAt B m [1] ow2 w2) :
    OneN w (more F W W') B m w2 ∧ ∀ k, more F W W' k → w2.heap[k]? = W'.heap[k]? := by
  have hs := Step.wrap hb hs0
  have hq := hs.belowW (by simp) h1 h2
  have hc : ∀ k, more F W W' k → k < W'.heap.size ∧ (ow.cut W) k = [] := fun k hk => by
    rcases hk with hk | hk
    · have := h4 k hk
      exact ⟨Nat.lt_of_lt_of_le this.1 hb.size, by rw [Own.cut_old this.1]; exact this.2⟩
    · exact ⟨hk.2, Own.cut_new hk.1⟩
  exact ⟨⟨ow2, hq.1, hq.2, fun k hk => ⟨Nat.lt_of_lt_of_le (hc k hk).1 hs0.size, by rw [hs0.agree k (hc k hk).1]; exact (hc k hk).2⟩, hN⟩, fun k hk => hs0.block (hc k hk).1 (by rw [(hc k hk).2]; exact not_sub_nil (by simp))⟩
/-- What an act on it comes to. -/
def OneNPost (w : World) (F : Nat → Prop) (B : Nat) (m : NodeS) (v : Value) (W W' : World) (r : Ending) (w' : World) : Prop :=
  r = .returned v ∧ OneN w (more F W W') B m w' ∧ (∀ k, more F W W' k → w'.heap[k]? = W'.heap[k]?)
theorem OneN.act {w W W' : World} {F : Nat → Prop} {B : Nat} {n m : NodeS} {f : FuncId} {args : Array Value} {v : Value} {a : Addr} (he : ErrAt w a) (h : OneN w F B n W) (hb : Below W.heap.size W W')
    (hc : ∀ px sb lb pb av ow, ErrAt W' a → ow 0 = [] → NodeIs B px sb lb pb av n [1] ow W' → Calls Tryz.prog f args W' (NodePost B m [1] ow W' v)) : Calls Tryz.prog f args W' (OneNPost w F B m v W W') := by
  obtain ⟨ow, h1, h2, h4, h3⟩ := h
  have hg := he.lt
  obtain ⟨px, sb, lb, pb, av, hI⟩ := (NodeAt.loc B n [1]).cut h3 hb
  refine (hc px sb lb pb av (ow.cut W) (he.below (h1.trans (hb.mono h1.size)) hg) (by rw [Own.cut_old (by have := h1.size; omega)]; exact h2 _ hg) hI).mono ?_
  rintro r w2 ⟨rfl, ow2, hs0, hN⟩
  exact ⟨rfl, OneN.after h1 h2 h4 hb hs0 hN⟩
/-- What only looks at it comes to. -/
theorem OneN.look {w W : World} {F : Nat → Prop} {B : Nat} {n : NodeS} (h : OneN w F B n W) : ∃ px sb lb pb av ow, Below w.heap.size w W ∧ (∀ k, k < w.heap.size → ow k = []) ∧ NodeIs B px sb lb pb av n [1] ow W := by
  obtain ⟨ow, h1, h2, -, px, sb, lb, pb, av, hI⟩ := h
  exact ⟨px, sb, lb, pb, av, ow, h1, h2, hI⟩
variable {w W W' : World} {F : Nat → Prop} {B : Nat} {n : NodeS} {a : Addr} {v : Int}
theorem OneN.broadcast (he : ErrAt w a) (h : OneN w F B n W) (hg : NodeG v n) (d : List UInt8) (hd : d.length ≤ 2000) (hb : Below W.heap.size W W') : Calls Tryz.prog 10 #[.pointer (some ⟨B, 0, none⟩), .string (bs d)] W' (OneNPost w F B (broadcastN n d).1 (castV2 (broadcastN n d).2) W W') :=
  h.act he hb (fun _ _ _ _ _ ow _ _ hI => nBroadcast_any B n [1] (by simp) ow d (by omega) W' hI hg.ok.2 (by have := hg.ok.bounds; omega))
theorem OneN.promise (he : ErrAt w a) (h : OneN w F B n W) (hg : NodeG v n) (i : Int) (b : Nat) (hb' : b < 18446744073709551616) (hb : Below W.heap.size W W') : Calls Tryz.prog 12 #[.pointer (some ⟨B, 0, none⟩), .int .i64 i, .int .u64 b] W' (OneNPost w F B (promiseN n i b).1 (voteE (promiseN n i b).2) W W') :=
  h.act he hb (fun _ _ _ _ _ ow _ _ hI => nPromise_any B n [1] (by simp) ow i b hb' W' hI hg.ok.2)
theorem OneN.cast (he : ErrAt w a) (h : OneN w F B n W) (hg : NodeG v n) (i : Int) (b : Nat) (hb' : b < 18446744073709551616) (x : List UInt8) (hx : x.length ≤ 2000) (hb : Below W.heap.size W W') : Calls Tryz.prog 16 #[.pointer (some ⟨B, 0, none⟩), .int .i64 i, .int .u64 b, .string (bs x)] W' (OneNPost w F B (castN n i b x).1 (.int .i64 (castN n i b x).2) W W') :=
  h.act he hb (fun _ _ _ _ _ ow _ _ hI => nCast_any B n [1] (by simp) ow i b hb' x (by omega) W' hI hg.ok.2)
theorem OneN.want (he : ErrAt w a) (h : OneN w F B n W) (hg : NodeG v n) (i : Int) (hb : Below W.heap.size W W') : Calls Tryz.prog 17 #[.pointer (some ⟨B, 0, none⟩), .int .i64 i] W' (OneNPost w F B (wantN n i).1 (.int .i64 (wantN n i).2) W W') :=
  h.act he hb (fun _ _ _ _ _ ow _ _ hI => nWant_any B n [1] ow i W' hI (by have h1 := hg.ok.bounds; have := h1.2.2.2.fold.eras; omega))
theorem OneN.cut (he : ErrAt w a) (h : OneN w F B n W) (i : Int) (hb : Below W.heap.size W W') : Calls Tryz.prog 25 #[.pointer (some ⟨B, 0, none⟩), .int .i64 i] W' (OneNPost w F B (cutN n i).1 (.int .i64 (cutN n i).2) W W') :=
  h.act he hb (fun _ _ _ _ _ _ _ _ hI => nCut_any i W' hI)
theorem OneN.crash (he : ErrAt w a) (h : OneN w F B n W) (hb : Below W.heap.size W W') : Calls Tryz.prog 11 #[.pointer (some ⟨B, 0, none⟩)] W' (OneNPost w F B (crashN n).1 (.int .i64 (crashN n).2) W W') :=
  h.act he hb (fun _ _ _ _ _ _ _ _ hI => nCrash_any W' hI)
theorem OneN.recover (he : ErrAt w a) (h : OneN w F B n W) (hg : NodeG v n) (hv : known v = true) (hb : Below W.heap.size W W') : Calls Tryz.prog 18 #[.pointer (some ⟨B, 0, none⟩)] W' (OneNPost w F B (recoverN n (stBegin v)) (.int .i64 0) W W') := by
  have hver := hg.ver
  refine h.act he hb (fun _ _ _ _ _ ow heW hge hI => ?_)
  have := nRecover_any a B n [1] (by simp) ow W' hI heW hge (by rw [hver]; exact hv) hg.ok.bounds.1
  rwa [hver] at this
/-- What a Learn comes to. -/
def OneNGives (w : World) (F : Nat → Prop) (B : Nat) (R : NodeS × List MsgD × Int) (W W' : World) (r : Ending) (w' : World) : Prop :=
  ∃ v, r = .returned (.tuple #[v, .int .i64 R.2.2]) ∧ OneN w (more F W W') B R.1 w' ∧ Row w' 34 3 v R.2.1.length (R.2.1.flatMap msgCells) ∧ (∀ k, more F W W' k → w'.heap[k]? = W'.heap[k]?)
theorem OneN.learn (he : ErrAt w a) (h : OneN w F B n W) (hg : NodeG v n) (i : Int) (x : List UInt8) (hx : x.length ≤ 100000) (hb : Below W.heap.size W W') : Calls Tryz.prog 13 #[.pointer (some ⟨B, 0, none⟩), .int .i64 i, .string (bs x)] W' (OneNGives w F B (learnN n i x) W W') := by
  obtain ⟨ow, h1, h2, h4, h3⟩ := h
  have hge := he.lt
  obtain ⟨px, sb, lb, pb, av, hI⟩ := (NodeAt.loc B n [1]).cut h3 hb
  have hbd := hg.ok.bounds
  refine (nLearn_any a B n [1] (by simp) (ow.cut W) i x (by omega) W' hI hg.ok.2 (he.below (h1.trans (hb.mono h1.size)) hge) (by rw [Own.cut_old (by have := h1.size; omega)]; exact h2 _ hge) hbd.2.2.2 hbd.2.2.1 (by omega) hg.known).mono ?_
  rintro r w2 ⟨vv, ow2, rfl, hs0, hN, hR, -⟩
  have hA := OneN.after h1 h2 h4 hb hs0 hN
  exact ⟨vv, rfl, hA.1, hR, hA.2⟩
theorem OneN.next (h : OneN w F B n W) (hg : NodeG v n) : Calls Tryz.prog 27 #[.pointer (some ⟨B, 0, none⟩)] W fun e w' => e = .returned (.int .i64 (nextN n : Nat)) ∧ Below W.heap.size W w' := by
  obtain ⟨px, sb, lb, pb, av, ow, h1, h2, hI⟩ := h.look
  exact nNext_any B n [1] (by simp) ow W hI hg.ok.bounds.2.2.1 hg.known
theorem OneN.proposal (h : OneN w F B n W) (hg : NodeG v n) : Calls Tryz.prog 15 #[.pointer (some ⟨B, 0, none⟩)] W fun r w' => r = .returned (okV (proposalN n)) ∧ Below W.heap.size W w' := by
  obtain ⟨px, sb, lb, pb, av, ow, h1, h2, hI⟩ := h.look
  exact nProposal_any B n [1] ow W hI (by have h1 := hg.ok.bounds; have := h1.2.2.2.fold.eras; omega)
theorem OneN.accepted (h : OneN w F B n W) (hg : NodeG v n) : Calls Tryz.prog 19 #[.pointer (some ⟨B, 0, none⟩)] W fun e w' =>
    ∃ v', e = .returned v' ∧ Row w' 34 3 v' n.acc.length (n.acc.flatMap msgCells) ∧ Below W.heap.size W w' ∧ (∀ g, v'.ownBlock = some g → W.heap.size ≤ g) := by
  obtain ⟨px, sb, lb, pb, av, ow, h1, h2, hI⟩ := h.look
  exact nAccepted_any W hI (by have := hg.ok.bounds; omega)
/-- Its local's log. -/
theorem OneN.log (h : OneN w F B n W) (hg : NodeG v n) : ∃ lb, Calls Tryz.prog 21 #[.pointer (some ⟨B, 0, none⟩)] W (fun e w' => e = .returned (.pointer (some ⟨lb, 0, none⟩)) ∧ w' = w' ∧ w' = W) ∧
    Calls Tryz.prog 22 #[.pointer (some ⟨lb, 0, none⟩)] W (fun e w' => ∃ v', e = .returned v' ∧ Row w' 34 3 v' n.loc.log.length (n.loc.log.flatMap msgCells) ∧ Below W.heap.size W w' ∧ (∀ g, v'.ownBlock = some g → W.heap.size ≤ g)) := by
  obtain ⟨px, sb, lb, pb, av, ow, h1, h2, hI⟩ := h.look
  have hb := hg.ok.bounds
  refine ⟨lb, (nLocal_any W hI.blk).mono (fun e w' h => ⟨h.1, rfl, h.2⟩), lLog_any lb n.loc [1, 2] ow W hI.lo ?_⟩
  have h3 := hb.2.2.2.len
  omega
end Go.Proofs.YtaopeioebpfdeaaGreatDoor
namespace Go.Proofs.YtaopeioebpfdeaaGreatDoor
open Go Go.RowKit Go.Shelf Go.Extern.Stop Go.Stop Go.Extern
attribute [local go_sem] Oper.semAt_some wide_fn wide_depth

/-- An act. -/
def actV (x : ActD) : Value := .agg #[.int .i64 x.what, .int .i64 x.inst, .int .u64 (x.b : Nat), .string (bs x.s)]
theorem info_byte17 : (Tryz.prog.info? 5).map (fun i => (i.zero, i.size, i.bytes)) = some (some (.int .u8 0), 1, 1) := by kernel_rfl
theorem strOfNums_zeros17 (n : Nat) : strOfNums (List.replicate n (0 : Int)) = bs (List.replicate n 0) := by
  unfold strOfNums bs
  simp [List.map_replicate]
set_option maxRecDepth 8000 in
theorem text17_any (x : ActD) (w : World) : Calls Tryz.prog 14 #[actV x] w fun r w' => r = .returned (.string (bs (textD x))) ∧ Below w.heap.size w w' := by
  obtain ⟨wh, i, b, s⟩ := x
  unfold actV textD
  simp only
  by_cases h77 : b = 77
  · subst h77
    obtain ⟨i0, hi, hz0, hz1, hz2⟩ := info_parts info_byte17
    obtain ⟨N, hN⟩ : ∃ N : Nat, N = 1100 := ⟨_, rfl⟩
    have hNi : (1100 : Int) = (N : Nat) := by omega
    rw [if_pos rfl, ← hN]
    replace hi : Hid (_ = _) := hi
    replace hN : Hid (_ = _) := hN
    replace hNi : Hid (_ = _) := hNi
    go_enter Tryz.func14, Tryz.ntmps14
    go_wp2_with (at_make
                 refine wpList_make_full _ rfl _ _ 87 rfl 0 5 i0 (.int .u8 0) 1 Tryz.underlying87 hi.out hz0 hz1 .i64 .i64 _ _ N rfl rfl hNi.out hNi.out (by rw [hz2]; have := hN.out; omega) (by unfold maxLen; have := hN.out; omega) (Nat.zero_le _) ?_
                 intro wm hown hgrow
                 have hk := run_convert_bytes_arg (P := Tryz.prog) wm 87 5 Tryz.underlying87 Tryz.underlying5 (w.heap.size + 1) 0 N N (List.replicate N 0) (by simp) (fun i hi => by
                   have hc := hown.cellAt i (by omega)
                   rw [show (Value.int .u8 0).cells = #[.int .u8 0] from rfl, toList_madeCells_one] at hc
                   simp only [World.size_alloc] at hc
                   rw [Nat.zero_add, hc]
                   simp [hi, List.getD]) 9 Tryz.underlying9
                 rw [strOfNums_zeros17] at hk
                 have hBm : Below w.heap.size w wm := ((Below.refl w.heap.size w).alloc (Nat.le_refl _) _).grown hgrow (by simp) (by simp)
                 clear hown)
    go_ret
    exact ⟨rfl, hBm⟩
  · have t1 : ((b : Int) == 77) = false := by simp; omega
    rw [if_neg h77]
    have hex := extract_take s
    have hds := bs_size s
    replace hex : Hid (∀ _, _) := hex
    replace hds : Hid (_ = _) := hds
    replace h77 : Hid (_ → _) := h77
    go_enter Tryz.func14, Tryz.ntmps14
    go_wp2
    go_ret
    refine ⟨?_, by (repeat (first | exact Below.refl _ _ | with_reducible assumption | refine pb_alloc ?_ _ | refine pb_drew ?_ | refine pb_drewN ?_ _ | refine pb_set ?_ (by simp; try omega) _ | refine pb_trans ?_ (by with_reducible assumption)))⟩
    have hst : (bs s).extract 0 (min ((bs s).size : Int) 300).toNat = bs (s.take 300) := by
      rw [hex.out, hds.out]
      congr 1
      rcases Nat.lt_or_ge s.length 300 with h | h
      · rw [show (min (s.length : Int) 300).toNat = s.length by omega, List.take_of_length_le (Nat.le_refl _), List.take_of_length_le (by omega)]
      · rw [show (min (s.length : Int) 300).toNat = 300 by omega]
    rw [hst]
    rfl
theorem textD_len (x : ActD) : (textD x).length ≤ 1100 := by
  unfold textD
  split
  · rw [List.length_replicate]; omega
  · rw [List.length_take]; omega
end Go.Proofs.YtaopeioebpfdeaaGreatDoor
namespace Go.Proofs.YtaopeioebpfdeaaGreatDoor
open Go Go.RowKit Go.Shelf Go.Extern.Stop Go.Stop Go.Extern
attribute [local go_sem] Oper.semAt_some wide_fn wide_depth

theorem encOk_len (e : EntryD) : (encOk e).1.length ≤ 4000 := by
  unfold encOk encodeP
  simp only
  repeat' split
  all_goals (simp at *; try omega)
theorem batchedN_len (era : EraD) : ∀ (l p : List MsgD) (r : List UInt8 × Bool), r.1.length ≤ 4000 → (batchedN era p l r).1.length ≤ 4000
  | [], p, r, h => by unfold batchedN; exact h
  | m :: l, p, r, h => by
    unfold batchedN
    split
    · exact batchedN_len era l _ _ (encOk_len _)
    · exact h
theorem proposal_len (n : NodeS) : (proposalN n).1.length ≤ 100000 := by
  suffices h : (proposalN n).1.length ≤ 4000 by omega
  unfold proposalN
  split
  · simp
  · split
    · exact encOk_len _
    · split
      · exact encOk_len _
      · exact batchedN_len _ _ _ _ (by simp)
/-- What an act on the node comes to. -/
def DoesPost (w : World) (F : Nat → Prop) (B : Nat) (m : NodeS) (W W' : World) (r : Ending) (w' : World) : Prop :=
  r = .returned (.tuple #[]) ∧ OneN w (more F W W') B m w' ∧ (∀ k, more F W W' k → w'.heap[k]? = W'.heap[k]?)
theorem more_size {F : Nat → Prop} {W W' W2 : World} (h : W'.heap.size ≤ W2.heap.size) : ∀ k, more F W W' k → more F W W2 k := fun k hk => by
  rcases hk with hk | hk
  · exact .inl hk
  · exact .inr ⟨hk.1, by omega⟩
theorem more_lt {w W W' : World} {F : Nat → Prop} {B : Nat} {n : NodeS} (h : OneN w F B n W) (hs : W.heap.size ≤ W'.heap.size) : ∀ k, more F W W' k → k < W'.heap.size := fun k hk => by
  obtain ⟨ow, -, -, h4, -⟩ := h
  rcases hk with hk | hk
  · have := (h4 k hk).1; omega
  · exact hk.2
theorem look_more {w W W' : World} {F : Nat → Prop} {B : Nat} {n : NodeS} (h : OneN w F B n W) (hb : Below W.heap.size W W') : OneN w (more F W W') B n W' := by
  obtain ⟨ow, h1, h2, h4, h3⟩ := h
  refine ⟨ow.cut W, h1.trans (hb.mono h1.size), fun k hk => by rw [Own.cut_old (by have := h1.size; omega)]; exact h2 k hk, fun k hk => ?_, (NodeAt.loc B n [1]).cut h3 hb⟩
  rcases hk with hk | hk
  · have := h4 k hk
    exact ⟨Nat.lt_of_lt_of_le this.1 hb.size, by rw [Own.cut_old this.1]; exact this.2⟩
  · exact ⟨hk.2, Own.cut_new hk.1⟩
theorem DoesPost.of {w W W' W2 w' : World} {F : Nat → Prop} {B : Nat} {n m : NodeS} (h0 : OneN w F B n W) (hs : W.heap.size ≤ W'.heap.size) (h : OneN w (more F W W2) B m w') (hk : ∀ k, more F W W2 k → w'.heap[k]? = W2.heap[k]?) (hb : Below W'.heap.size W' W2) : DoesPost w F B m W W' (.returned (.tuple #[])) w' :=
  ⟨rfl, h.mono (more_size hb.size), fun k h1 => (hk k (more_size hb.size k h1)).trans (hb.block k (more_lt h0 hs k h1))⟩
set_option maxRecDepth 8000 in
set_option maxHeartbeats 2000000 in
theorem does17_any {w W W' : World} {F : Nat → Prop} {B : Nat} {n : NodeS} {a : Addr} {v : Int} (he : ErrAt w a) (hv : known v = true) (h : OneN w F B n W) (hg : NodeG v n) (hb : Below W.heap.size W W') (x : ActD) (hx : x.b < 18446744073709551616) :
    Calls Tryz.prog 20 #[.pointer (some ⟨B, 0, none⟩), actV x] W' (DoesPost w F B (doesN (stBegin v) n x) W W') := by
  have htx := fun W => text17_any x W
  have htl := textD_len x
  have hbr := fun W2 (h2 : Below W.heap.size W W2) => h.broadcast he hg (textD x) (by omega) h2
  have hpr := fun W2 (h2 : Below W.heap.size W W2) => h.promise he hg x.inst x.b hx h2
  have hca := fun W2 (h2 : Below W.heap.size W W2) => h.cast he hg x.inst x.b hx (textD x) (by omega) h2
  have hle := fun W2 (h2 : Below W.heap.size W W2) => h.learn he hg x.inst (textD x) (by omega) h2
  have hwa := fun W2 (h2 : Below W.heap.size W W2) => h.want he hg x.inst h2
  have hcu := fun W2 (h2 : Below W.heap.size W W2) => h.cut he x.inst h2
  have hcr := fun W2 (h2 : Below W.heap.size W W2) => h.crash he h2
  have hre := fun W2 (h2 : Below W.heap.size W W2) => h.recover he hg hv h2
  obtain ⟨K, hK⟩ : ∃ K, K = kindD x := ⟨_, rfl⟩
  have hK9 : K < 9 := by rw [hK]; unfold kindD; omega
  have hKi : (K : Int) = IntKind.u64.wrap x.what % 9 := by
    rw [hK]; unfold kindD; rw [IntKind.wrap_u64]; omega
  replace hK : Hid (_ = _) := hK
  replace htx : Hid (∀ _, _) := htx
  replace hbr : Hid (∀ _ _, _) := hbr
  replace hpr : Hid (∀ _ _, _) := hpr
  replace hca : Hid (∀ _ _, _) := hca
  replace hle : Hid (∀ _ _, _) := hle
  replace hwa : Hid (∀ _ _, _) := hwa
  replace hcu : Hid (∀ _ _, _) := hcu
  replace hcr : Hid (∀ _ _, _) := hcr
  replace hre : Hid (∀ _ _, _) := hre
  replace htl : Hid (_ ≤ _) := htl
  unfold actV at *
  have hKt : (IntKind.u64.wrap x.what).tmod 9 = (K : Int) := by rw [hKi, Int.tmod_eq_emod_of_nonneg (by rw [IntKind.wrap_u64]; omega)]
  clear hKi
  have hdo : ∀ k, k = K → doesN (stBegin v) n x = (if k = 0 then (broadcastN n (textD x)).1
    else if k = 1 then (promiseN n x.inst x.b).1
    else if k = 2 then (castN n x.inst x.b (textD x)).1
    else if k = 3 then (learnN n x.inst (textD x)).1
    else if k = 4 then (wantN n x.inst).1
    else if k = 5 then (cutN n x.inst).1
    else if k = 6 then (crashN n).1
    else if k = 7 then recoverN n (stBegin v)
    else if (proposalN n).2 then (learnN n (nextN n) (proposalN n).1).1 else n) := fun k e => by rw [e, hK.out]; rfl
  rcases (by omega : K = 0 ∨ K = 1 ∨ K = 2 ∨ K = 3 ∨ K = 4 ∨ K = 5 ∨ K = 6 ∨ K = 7 ∨ K = 8) with rfl | rfl | rfl | rfl | rfl | rfl | rfl | rfl | rfl
  · rw [hdo 0 rfl, if_pos rfl]
    replace hdo : Hid (∀ _ _, _) := hdo
    go_enter Tryz.func20, Tryz.ntmps20
    go_wp2_with fail
    refine (htx.out _).mono ?_
    rintro r w1 ⟨rfl, hb1⟩
    have hbw : Below W'.heap.size W' w1 := by (repeat (first | exact Below.refl _ _ | with_reducible assumption | refine pb_alloc ?_ _ | refine pb_drew ?_ | refine pb_drewN ?_ _ | refine pb_set ?_ (by simp; try omega) _ | refine pb_trans ?_ (by with_reducible assumption)))
    go_wp2_with fail
    refine (hbr.out _ (pb_trans hb hbw)).mono ?_
    rintro r w2 ⟨rfl, h2, hk2⟩
    go_wp2
    exact bodyPost_ret (results_none rfl _ _ _) rfl (DoesPost.of h hb.size h2 hk2 hbw)
  · rw [hdo 1 rfl, if_neg (by omega), if_pos rfl]
    replace hdo : Hid (∀ _ _, _) := hdo
    go_enter Tryz.func20, Tryz.ntmps20
    go_wp2_with fail
    have hbw : Below W'.heap.size W' (W'.alloc (.cells #[.int .i64 x.what, .int .i64 x.inst, .int .u64 (x.b : Nat), .string (bs x.s)] 24)) := pb_alloc (Below.refl _ _) _
    refine (hpr.out _ (pb_trans hb hbw)).mono ?_
    rintro r w2 ⟨rfl, h2, hk2⟩
    go_wp2
    exact bodyPost_ret (results_none rfl _ _ _) rfl (DoesPost.of h hb.size h2 hk2 hbw)
  · rw [hdo 2 rfl, if_neg (by omega), if_neg (by omega), if_pos rfl]
    replace hdo : Hid (∀ _ _, _) := hdo
    go_enter Tryz.func20, Tryz.ntmps20
    go_wp2_with fail
    have kb : Blk (W'.alloc (.cells #[.int .i64 x.what, .int .i64 x.inst, .int .u64 (x.b : Nat), .string (bs x.s)] 24)) W'.heap.size #[.int .i64 x.what, .int .i64 x.inst, .int .u64 (x.b : Nat), .string (bs x.s)] 24 := Blk.new rfl
    refine wp_region_sched [(0, true), (1, true), (2, true), (3, true), (4, true), (5, true), (6, false), (7, false)] none (fun w' => Blk w' W'.heap.size #[.int .i64 x.what, .int .i64 x.inst, .int .u64 (x.b : Nat), .string (bs x.s)] 24 ∧ True) (by kernel_rfl) (by kernel_rfl) ⟨kb.drew, trivial⟩ ?_
    (repeat (refine wpSched_quiet (v := ?_) rfl rfl (fun w' hS => ?_) (fun K hK => ?_); rotate_left; (focus ((try have e1 := hS.1.cell); (try have e2 := hS.2.1.cell); (try have e3 := hS.2.2.1.cell); (try have e4 := hS.2.2.2.1.cell); (try have f1 := hS.1); (try have f2 := hS.2.1); (try have f3 := hS.2.2.1); (try have f4 := hS.2.2.2.1); (try have f5 := hS.2.2.2.2.1); clear hS; go_simp; (try with_reducible rfl))); (go_simp; refine hK _ ?_; clear hK K)))
    refine wpSched_loud rfl (fun K hK => ?_)
    go_wp2_with fail
    refine (htx.out _).mono ?_
    rintro r w1 ⟨rfl, hb1⟩
    have k1 := kb.drew.call hb1
    have hbw : Below W'.heap.size W' w1 := pb_trans (pb_drew (pb_alloc (Below.refl _ _) _)) hb1
    go_wp2
    refine hK.out _ _ (fun _ => ⟨k1, trivial⟩) ?_
    clear hK K
    refine wpSched_loud rfl (fun K hK => ?_)
    go_wp2_with fail
    refine (hca.out _ (pb_trans hb hbw)).mono ?_
    rintro r w2 ⟨rfl, h2, hk2⟩
    go_wp2
    refine hK.out _ _ (fun _ => ⟨k1.kept (hk2 _ (.inr ⟨hb.size, k1.lt⟩)), trivial⟩) ?_
    clear hK K
    refine wpSched_nil ?_
    go_wp2
    exact bodyPost_ret (results_none rfl _ _ _) rfl (DoesPost.of h hb.size h2 hk2 hbw)
  · rw [hdo 3 rfl, if_neg (by omega), if_neg (by omega), if_neg (by omega), if_pos rfl]
    replace hdo : Hid (∀ _ _, _) := hdo
    go_enter Tryz.func20, Tryz.ntmps20
    go_wp2_with fail
    have kb : Blk (W'.alloc (.cells #[.int .i64 x.what, .int .i64 x.inst, .int .u64 (x.b : Nat), .string (bs x.s)] 24)) W'.heap.size #[.int .i64 x.what, .int .i64 x.inst, .int .u64 (x.b : Nat), .string (bs x.s)] 24 := Blk.new rfl
    refine wp_region_sched [(0, true), (1, true), (2, true), (3, true), (4, false), (5, false)] none (fun w' => Blk w' W'.heap.size #[.int .i64 x.what, .int .i64 x.inst, .int .u64 (x.b : Nat), .string (bs x.s)] 24 ∧ True) (by kernel_rfl) (by kernel_rfl) ⟨kb.drew, trivial⟩ ?_
    (repeat (refine wpSched_quiet (v := ?_) rfl rfl (fun w' hS => ?_) (fun K hK => ?_); rotate_left; (focus ((try have e1 := hS.1.cell); (try have e2 := hS.2.1.cell); (try have e3 := hS.2.2.1.cell); (try have e4 := hS.2.2.2.1.cell); (try have f1 := hS.1); (try have f2 := hS.2.1); (try have f3 := hS.2.2.1); (try have f4 := hS.2.2.2.1); (try have f5 := hS.2.2.2.2.1); clear hS; go_simp; (try with_reducible rfl))); (go_simp; refine hK _ ?_; clear hK K)))
    refine wpSched_loud rfl (fun K hK => ?_)
    go_wp2_with fail
    refine (htx.out _).mono ?_
    rintro r w1 ⟨rfl, hb1⟩
    have k1 := kb.drew.call hb1
    have hbw : Below W'.heap.size W' w1 := pb_trans (pb_drew (pb_alloc (Below.refl _ _) _)) hb1
    go_wp2
    refine hK.out _ _ (fun _ => ⟨k1, trivial⟩) ?_
    clear hK K
    refine wpSched_loud rfl (fun K hK => ?_)
    go_wp2_with fail
    refine (hle.out _ (pb_trans hb hbw)).mono ?_
    rintro r w2 ⟨vv, rfl, h2, -, hk2⟩
    go_wp2
    refine hK.out _ _ (fun _ => ⟨k1.kept (hk2 _ (.inr ⟨hb.size, k1.lt⟩)), trivial⟩) ?_
    clear hK K
    refine wpSched_nil ?_
    go_wp2
    exact bodyPost_ret (results_none rfl _ _ _) rfl (DoesPost.of h hb.size h2 hk2 hbw)
  · rw [hdo 4 rfl, if_neg (by omega), if_neg (by omega), if_neg (by omega), if_neg (by omega), if_pos rfl]
    replace hdo : Hid (∀ _ _, _) := hdo
    go_enter Tryz.func20, Tryz.ntmps20
    go_wp2_with fail
    have hbw : Below W'.heap.size W' (W'.alloc (.cells #[.int .i64 x.what, .int .i64 x.inst, .int .u64 (x.b : Nat), .string (bs x.s)] 24)) := pb_alloc (Below.refl _ _) _
    refine (hwa.out _ (pb_trans hb hbw)).mono ?_
    rintro r w2 ⟨rfl, h2, hk2⟩
    go_wp2
    exact bodyPost_ret (results_none rfl _ _ _) rfl (DoesPost.of h hb.size h2 hk2 hbw)
  · rw [hdo 5 rfl, if_neg (by omega), if_neg (by omega), if_neg (by omega), if_neg (by omega), if_neg (by omega), if_pos rfl]
    replace hdo : Hid (∀ _ _, _) := hdo
    go_enter Tryz.func20, Tryz.ntmps20
    go_wp2_with fail
    have hbw : Below W'.heap.size W' (W'.alloc (.cells #[.int .i64 x.what, .int .i64 x.inst, .int .u64 (x.b : Nat), .string (bs x.s)] 24)) := pb_alloc (Below.refl _ _) _
    refine (hcu.out _ (pb_trans hb hbw)).mono ?_
    rintro r w2 ⟨rfl, h2, hk2⟩
    go_wp2
    exact bodyPost_ret (results_none rfl _ _ _) rfl (DoesPost.of h hb.size h2 hk2 hbw)
  · rw [hdo 6 rfl, if_neg (by omega), if_neg (by omega), if_neg (by omega), if_neg (by omega), if_neg (by omega), if_neg (by omega), if_pos rfl]
    replace hdo : Hid (∀ _ _, _) := hdo
    go_enter Tryz.func20, Tryz.ntmps20
    go_wp2_with fail
    have hbw : Below W'.heap.size W' (W'.alloc (.cells #[.int .i64 x.what, .int .i64 x.inst, .int .u64 (x.b : Nat), .string (bs x.s)] 24)) := pb_alloc (Below.refl _ _) _
    refine (hcr.out _ (pb_trans hb hbw)).mono ?_
    rintro r w2 ⟨rfl, h2, hk2⟩
    go_wp2
    exact bodyPost_ret (results_none rfl _ _ _) rfl (DoesPost.of h hb.size h2 hk2 hbw)
  · rw [hdo 7 rfl, if_neg (by omega), if_neg (by omega), if_neg (by omega), if_neg (by omega), if_neg (by omega), if_neg (by omega), if_neg (by omega), if_pos rfl]
    replace hdo : Hid (∀ _ _, _) := hdo
    go_enter Tryz.func20, Tryz.ntmps20
    go_wp2_with fail
    have hbw : Below W'.heap.size W' (W'.alloc (.cells #[.int .i64 x.what, .int .i64 x.inst, .int .u64 (x.b : Nat), .string (bs x.s)] 24)) := pb_alloc (Below.refl _ _) _
    refine (hre.out _ (pb_trans hb hbw)).mono ?_
    rintro r w2 ⟨rfl, h2, hk2⟩
    go_wp2
    exact bodyPost_ret (results_none rfl _ _ _) rfl (DoesPost.of h hb.size h2 hk2 hbw)
  · rw [hdo 8 rfl, if_neg (by omega), if_neg (by omega), if_neg (by omega), if_neg (by omega), if_neg (by omega), if_neg (by omega), if_neg (by omega), if_neg (by omega)]
    have hpp := fun W2 (h2 : Below W.heap.size W W2) => (h.below h2).proposal hg
    have hnx := fun W2 (h2 : Below W.heap.size W W2) => (h.below h2).next hg
    have hl2 := fun W2 (h2 : Below W.heap.size W W2) => h.learn he hg (nextN n) (proposalN n).1 (proposal_len n) h2
    have hbw : Below W'.heap.size W' (W'.alloc (.cells #[.int .i64 x.what, .int .i64 x.inst, .int .u64 (x.b : Nat), .string (bs x.s)] 24)) := pb_alloc (Below.refl _ _) _
    obtain ⟨⟨p, b⟩, hp⟩ : ∃ q, proposalN n = q := ⟨_, rfl⟩
    rw [hp] at hpp hl2 ⊢
    unfold okV at hpp
    simp only at hpp hl2 ⊢
    replace hp : Hid (_ = _) := hp
    replace hdo : Hid (∀ _ _, _) := hdo
    replace hpp : Hid (∀ _ _, _) := hpp
    replace hnx : Hid (∀ _ _, _) := hnx
    replace hl2 : Hid (∀ _ _, _) := hl2
    cases b with
    | false =>
      rw [if_neg (by simp)]
      go_enter Tryz.func20, Tryz.ntmps20
      go_wp2_with fail
      refine (hpp.out _ (pb_trans hb hbw)).mono ?_
      rintro r w1 ⟨rfl, hb1⟩
      go_wp2
      exact bodyPost_ret (results_none rfl _ _ _) rfl (DoesPost.of h hb.size (look_more h (pb_trans (pb_trans hb hbw) hb1)) (fun _ _ => rfl) (pb_trans hbw hb1))
    | true =>
      rw [if_pos rfl]
      go_enter Tryz.func20, Tryz.ntmps20
      go_wp2_with fail
      refine (hpp.out _ (pb_trans hb hbw)).mono ?_
      rintro r w1 ⟨rfl, hb1⟩
      have hbw1 := pb_trans hbw hb1
      go_wp2_with fail
      refine (hnx.out _ (pb_trans hb hbw1)).mono ?_
      rintro r w2 ⟨rfl, hb2⟩
      have hbw2 := pb_trans hbw1 hb2
      go_wp2_with fail
      refine (hl2.out _ (pb_trans hb hbw2)).mono ?_
      rintro r w3 ⟨vv, rfl, h3, -, hk3⟩
      go_wp2
      exact bodyPost_ret (results_none rfl _ _ _) rfl (DoesPost.of h hb.size h3 hk3 hbw2)
end Go.Proofs.YtaopeioebpfdeaaGreatDoor
