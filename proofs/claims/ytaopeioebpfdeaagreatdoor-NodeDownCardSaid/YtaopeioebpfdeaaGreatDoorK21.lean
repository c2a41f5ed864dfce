/- PROVED HERE: PLAIN FACTS: how much a node holds. No program in sight. WALKS: store's holds, write, Write, Cut. Condition: the store is one that calls have made, no larger than a store may be. WALK: journal.Read. Condition: the text is no longer than Go lets it be. -/
import Derived.Test.YtaopeioebpfdeaaGreatDoorK18
import Derived.Test.YtaopeioebpfdeaaGreatDoorK20
namespace Go.Proofs.YtaopeioebpfdeaaGreatDoor
open Go

/-- A store's capacity is one. -/
def CapOk (s : StoreS) : Prop := (s.log.length : Int) ≤ s.cap ∧ s.cap ≤ 1048576 ∧ 0 ≤ s.keep
theorem write_cap {s : StoreS} (h : CapOk s) (d : List UInt8) : CapOk (writeP s d).1 ∧ (writeP s d).1.cap = s.cap := by
  obtain ⟨h1, h2, h3⟩ := h
  unfold writeP
  split
  · exact ⟨⟨h1, h2, h3⟩, rfl⟩
  · split
    · exact ⟨⟨h1, h2, h3⟩, rfl⟩
    · split
      · exact ⟨⟨h1, h2, h3⟩, rfl⟩
      · rename_i hc
        split
        · refine ⟨⟨?_, h2, h3⟩, rfl⟩
          show (((s.log ++ (recordP d).1).length : Nat) : Int) ≤ s.cap
          rw [List.length_append]; omega
        · refine ⟨⟨?_, h2, Int.le_refl _⟩, rfl⟩
          show (((s.log ++ (recordP d).1.take (min s.keep ((recordP d).1.length : Int)).toNat).length : Nat) : Int) ≤ s.cap
          rw [List.length_append, List.length_take]; omega
theorem cut_cap {s : StoreS} (h : CapOk s) (k : Int) : CapOk (cutS s k).1 := by
  obtain ⟨h1, h2, h3⟩ := h
  unfold cutS
  split
  · exact ⟨h1, h2, h3⟩
  · split
    · exact ⟨h1, h2, h3⟩
    · exact ⟨h1, h2, by show 0 ≤ k; omega⟩
theorem recover_cap {s : StoreS} (h : CapOk s) : CapOk (recoverS s).1 := by
  obtain ⟨h1, h2, h3⟩ := h
  unfold recoverS
  refine ⟨?_, h2, Int.le_refl _⟩
  show ((s.log.take (readP s.log.length s.log).2).length : Int) ≤ s.cap
  rw [List.length_take]; omega
theorem newStore_cap {cap : Int} (h1 : 64 ≤ cap) (h2 : cap ≤ 1048576) : CapOk (newStore cap) := ⟨by simp [newStore]; omega, h2, Int.le_refl _⟩
theorem keep_cap {n : NodeS} (h : CapOk n.store) (b : Bool) (d : List UInt8) : CapOk (keepN n b d).1.store := (write_cap h d).1
theorem SameN.cap {n m : NodeS} (hs : SameN n m) (h : CapOk n.store) : CapOk m.store := by rw [hs.store]; exact h
/-- What always holds of a node that calls have made. -/
def NodeOk (s : StD) (n : NodeS) : Prop := (∃ l, NInv s n l) ∧ CapOk n.store
theorem apply_same : ∀ (k : Nat) (n : NodeS), SameN n (applyN k n).1
  | 0, n => SameN.refl n
  | k + 1, n => by
    unfold applyN
    cases look ((n.applied : Int) + 1) n.pax.known with
    | none => exact SameN.refl n
    | some x =>
      simp only
      split
      · have h := apply_same k { n with applied := n.applied + 1 }
        exact ⟨h.id, h.version, h.bad, h.store, h.pax, h.acc, h.down⟩
      · have h1 := (enter_same { n with applied := n.applied + 1 } (decodeP x).1).1
        have h := apply_same k (enterN { n with applied := n.applied + 1 } (decodeP x).1).1
        exact SameN.trans ⟨h1.id, h1.version, h1.bad, h1.store, h1.pax, h1.acc, h1.down⟩ h
theorem broadcast_cap {n : NodeS} (h : CapOk n.store) (d : List UInt8) : CapOk (broadcastN n d).1.store := by
  unfold broadcastN
  split
  · exact h
  split
  · exact h
  split
  · exact keep_cap h _ _
  · exact (offer_same _ _).1.cap (keep_cap (n := n) h false ([109] ++ (packP [((n.id, n.acc.length + 1), d)]).1))
theorem promise_cap {n : NodeS} (h : CapOk n.store) (i : Int) (b : Nat) : CapOk (promiseN n i b).1.store := by
  unfold promiseN
  split
  · exact h
  split
  · exact h
  split
  · exact keep_cap (n := { n with pax := (promiseP n.pax i b).1 }) h _ _
  · exact keep_cap (n := { n with pax := (promiseP n.pax i b).1 }) h _ _
theorem cast_cap {n : NodeS} (h : CapOk n.store) (i : Int) (b : Nat) (x : List UInt8) : CapOk (castN n i b x).1.store := by
  unfold castN
  split
  · exact h
  split
  · exact h
  · exact keep_cap (n := { n with pax := (castP n.pax i b x).1 }) h _ _
theorem learn_cap {n : NodeS} (h : CapOk n.store) (i : Int) (x : List UInt8) : CapOk (learnN n i x).1.store := by
  unfold learnN
  split
  · exact h
  · simp only
    split
    · exact h
    split
    · exact (apply_same _ _).cap h
    have hk := keep_cap (n := { n with pax := (learnP n.pax i x).1 }) h true (learnP n.pax i x).2.1
    split
    · exact hk
    · exact (apply_same _ _).cap hk
theorem recoverN_cap {s : StD} {n : NodeS} (h : CapOk n.store) : CapOk (recoverN n s).store := by
  unfold recoverN
  simp only
  rw [foldN_R]
  have hr := recover_cap h
  exact (offer_same _ _).1.cap ((apply_same _ _).cap hr)
theorem NodeOk.step {s : StD} {n m : NodeS} {l l' : List (List UInt8)} (h : NStep s n l m l') (hc : CapOk m.store) : NodeOk s m := ⟨⟨l', h.inv⟩, hc⟩
theorem does_ok {s : StD} {n : NodeS} (h : NodeOk s n) (x : ActD) (hb : x.b < 18446744073709551616) : NodeOk s (doesN s n x) := by
  obtain ⟨⟨l, hi⟩, hc⟩ := h
  obtain ⟨l', hs⟩ := does_step hi x hb
  refine ⟨⟨l', hs.inv⟩, ?_⟩
  unfold doesN
  split
  · exact broadcast_cap hc _
  split
  · exact promise_cap hc _ _
  split
  · exact cast_cap hc _ _ _
  split
  · exact learn_cap hc _ _
  split
  · unfold wantN; split
    · exact hc
    · split <;> exact hc
  split
  · unfold cutN; split
    · exact hc
    · exact cut_cap hc _
  split
  · unfold crashN; split <;> exact hc
  split
  · exact recoverN_cap hc
  split
  · exact learn_cap hc _ _
  · exact hc
theorem accR_len (l : List (List UInt8)) : (RR l).1.length ≤ l.length := by
  suffices h : ∀ (l : List (List UInt8)) (q : List MsgD × PaxS), (l.foldl replayR q).1.length ≤ q.1.length + l.length by simpa [RR] using h l ([], newPax)
  intro l
  induction l with
  | nil => intro q; simp
  | cons r l ih =>
    intro q
    have h1 := ih (replayR q r)
    have h2 : (replayR q r).1.length ≤ q.1.length + 1 := by
      unfold replayR
      cases r with
      | nil => simp
      | cons k d =>
        simp only
        split
        · rename_i h; rw [List.length_append, h.2.2]; omega
        · simp
    rw [List.foldl_cons, List.length_cons]; omega
theorem locOf_b (v : Int) (bad : List Int) (s : StD) : ∀ (vals : List (List UInt8)), LocalB (locOf v bad s vals) vals.length := by
  suffices h : ∀ (vals : List (List UInt8)) (L : LocalS) (k : Nat), LocalB L k → LocalB (vals.foldl (locStep bad) L) (k + vals.length) by
    intro vals
    have := h vals (newL v s) 0 (newL_b v s)
    rwa [Nat.zero_add] at this
  intro vals
  induction vals with
  | nil => intro L k h; exact h
  | cons x vals ih =>
    intro L k h
    have h1 : LocalB (locStep bad L x) (k + 1) := by
      unfold locStep
      split
      · exact h.mono (by omega)
      · exact applyL_b h _ _
    have := ih _ _ h1
    rw [List.foldl_cons, List.length_cons, show k + (vals.length + 1) = k + 1 + vals.length by omega]
    exact this
theorem chain_len {known : List (Int × List UInt8)} (hk : KnownOk known) {a : List (List UInt8)} (ha : ∀ (j : Nat) (x : List UInt8), a[j]? = some x → look ((j : Int) + 1) known = some x) : a.length ≤ 10000 := by
  rcases Nat.lt_or_ge 10000 a.length with h | h
  · exfalso
    obtain ⟨x, hx⟩ : ∃ x, a[10000]? = some x := ⟨_, List.getElem?_eq_getElem h⟩
    have := hk _ _ (ha _ _ hx)
    omega
  · exact h
/-- HOW MUCH A NODE HOLDS. -/
theorem NodeOk.bounds {s : StD} {n : NodeS} (h : NodeOk s n) : n.store.log.length ≤ 1048576 ∧ n.acc.length ≤ 116508 ∧ n.applied ≤ 10000 ∧ LocalB n.loc n.applied := by
  obtain ⟨⟨l, hi⟩, h1, h2, h3⟩ := h
  obtain ⟨hok, tail, hl, -, -⟩ := hi.kept
  obtain ⟨vals, hv⟩ := hi.loc
  have hr := recs_len hok
  have ha := accR_len l
  have hp := hi.acc.length_le
  have hlen : (recs l).length ≤ n.store.log.length := by rw [hl, List.length_append]; omega
  refine ⟨by omega, by omega, ?_, ?_⟩
  · rw [← hv.1]; exact chain_len (RR_known l) hv.2.2
  · rw [hv.2.1, ← hv.1]; exact locOf_b _ _ _ _
end Go.Proofs.YtaopeioebpfdeaaGreatDoor
namespace Go.Proofs.YtaopeioebpfdeaaGreatDoor
open Go Go.RowKit Go.Shelf Go.Extern.Stop Go.Stop Go.Extern
attribute [local go_sem] Oper.semAt_some wide_fn wide_depth

set_option maxRecDepth 8000 in
set_option maxHeartbeats 1000000 in
theorem holds_any (B : Nat) (s : StoreS) (t : List Nat) (ow : Own) (w : World) (h : StoreAt B s t ow w) (hl : s.log.length ≤ 1073741824) :
    Calls Tryz.prog 96 #[.pointer (some ⟨B, 0, none⟩)] w fun e w' => e = .returned (.int .i64 s.log.length) ∧ Below w.heap.size w w' := by
  obtain ⟨lv, hB, hR, o1, o2⟩ := h
  unfold storeCells at hB
  obtain ⟨ha, hc, rfl⟩ := hR.shape
  have hwr : IntKind.i64.wrap (s.log.length : Int) = (s.log.length : Int) := by rw [IntKind.wrap_i64]; omega
  clear hR o1 o2
  go_enter Tryz.func96, Tryz.ntmps96
  go_wp2_with fail
  refine wp_region_sched [(0, true), (1, true), (2, true), (3, true), (4, true), (5, true), (6, true), (7, true), (8, true), (9, true), (10, true), (11, true)] none (fun w' => Blk w' B #[.slice ha s.log.length hc, .string ⟨#[]⟩, .int .i64 s.cap, .bool s.isCut, .int .i64 s.keep, .bool s.crashed] 119 ∧ True) (by kernel_rfl) (by kernel_rfl) ⟨hB.drew, trivial⟩ ?_
  (repeat (refine wpSched_quiet (v := ?_) rfl rfl (fun w' hS => ?_) (fun K hK => ?_); rotate_left; (focus ((try have e1 := hS.1.cell); (try have e2 := hS.2.1.cell); (try have e3 := hS.2.2.1.cell); (try have e4 := hS.2.2.2.1.cell); (try have f1 := hS.1); (try have f2 := hS.2.1); (try have f3 := hS.2.2.1); (try have f4 := hS.2.2.2.1); (try have f5 := hS.2.2.2.2.1); clear hS; go_simp; (try with_reducible rfl))); (go_simp; refine hK _ ?_; clear hK K)))
  refine wpSched_nil ?_
  go_wp2
  go_ret
  exact ⟨rfl, by (repeat (first | exact Below.refl _ _ | with_reducible assumption | refine pb_alloc ?_ _ | refine pb_drew ?_ | refine pb_drewN ?_ _ | refine pb_set ?_ (by simp; try omega) _ | refine pb_trans ?_ (by with_reducible assumption)))⟩
set_option maxRecDepth 8000 in
theorem stCut_any (B : Nat) (s : StoreS) (t : List Nat) (ow : Own) (k : Int) (w : World) (h : StoreAt B s t ow w) :
    Calls Tryz.prog 52 #[.pointer (some ⟨B, 0, none⟩), .int .i64 k] w (StorePost B (cutS s k).1 t ow w (.int .i64 (cutS s k).2)) := by
  obtain ⟨lv, hB, hR, o1, o2⟩ := h
  have hw := fun s' W' => store_write (s' := s') (W' := W') hR hB o1 o2
  have h0 : StoreAt B s t ow w := ⟨lv, hB, hR, o1, o2⟩
  unfold storeCells at hB hw
  have e0 := hB.cell
  have f0 := hB.frozen
  have l0 := hB.lt
  obtain ⟨log, cap, isc, keep, cr⟩ := s
  clear hR o1 o2
  replace hw : Hid (∀ _, _) := hw
  replace hB : Hid (Blk _ _ _ _) := hB
  replace h0 : Hid (StoreAt _ _ _ _ _) := h0
  simp only at e0
  cases cr
  · by_cases hk : k < 0
    · have hc : cutS ⟨log, cap, isc, keep, false⟩ k = (⟨log, cap, isc, keep, false⟩, 2) := by unfold cutS; rw [if_neg (by simp), if_pos hk]
      rw [hc]
      have t1 : decide (k < 0) = true := by simpa using hk
      replace hc : Hid (_ = _) := hc
      go_enter Tryz.func52, Tryz.ntmps52
      go_wp2
      go_ret
      exact ⟨rfl, ow, Step.refl _ _ _, h0.out⟩
    · have hc : cutS ⟨log, cap, isc, keep, false⟩ k = (⟨log, cap, true, k, false⟩, 0) := by unfold cutS; rw [if_neg (by simp), if_neg hk]
      rw [hc]
      have t1 : decide (k < 0) = false := by simpa using hk
      replace hc : Hid (_ = _) := hc
      go_enter Tryz.func52, Tryz.ntmps52
      go_wp2
      go_ret
      have hq := hw.out ⟨log, cap, true, k, false⟩ ((w.setCell ⟨B, 3, none⟩ (.bool true)).setCell ⟨B, 4, none⟩ (.int .i64 k)) (((Mod.refl (fun k => k = B) w).thenSet (p := ⟨B, 3, none⟩) rfl _).thenSet (p := ⟨B, 4, none⟩) rfl _) ((hB.out.set (o := 3) (.bool true)).set (o := 4) (.int .i64 k)) rfl
      exact ⟨rfl, ow, hq.1, hq.2⟩
  · have hc : cutS ⟨log, cap, isc, keep, true⟩ k = (⟨log, cap, isc, keep, true⟩, 31) := by unfold cutS; rw [if_pos rfl]
    rw [hc]
    replace hc : Hid (_ = _) := hc
    go_enter Tryz.func52, Tryz.ntmps52
    go_wp2
    go_ret
    exact ⟨rfl, ow, Step.refl _ _ _, h0.out⟩

set_option maxRecDepth 8000 in
set_option maxHeartbeats 1000000 in
theorem stwrite_any (B : Nat) (s : StoreS) (t : List Nat) (ow : Own) (d : List UInt8) (w : World) (h : StoreAt B s t ow w) (hc : CapOk s) (hd : d.length ≤ 1073741000) :
    Calls Tryz.prog 95 #[.pointer (some ⟨B, 0, none⟩), .string (bs d), .int .i64 s.log.length, .func (.func 97) #[.pointer (some ⟨B, 0, none⟩)] #[]] w (StorePost B (writeP s d).1 t ow w (.int .i64 (writeP s d).2)) := by
  obtain ⟨lv, hB, hR, o1, o2⟩ := h
  have h0 : StoreAt B s t ow w := ⟨lv, hB, hR, o1, o2⟩
  unfold storeCells at hB
  have e0 := hB.cell
  have l0 := hB.lt
  obtain ⟨log, cap, isc, keep, cr⟩ := s
  obtain ⟨hc1, hc2, hc3⟩ := hc
  simp only at hc1 hc2 hc3 e0
  clear hR o1 o2
  replace hB : Hid (Blk _ _ _ _) := hB
  replace h0 : Hid (StoreAt _ _ _ _ _) := h0
  cases cr
  · have hrec := fun W => record_any d hd W
    obtain ⟨⟨r, er⟩, hr⟩ : ∃ x, recordP d = x := ⟨_, rfl⟩
    rw [hr] at hrec
    unfold recordV at hrec
    replace hrec : Hid (∀ _, _) := hrec
    have hsz := bs_size r
    have hwp : writeP ⟨log, cap, isc, keep, false⟩ d = if er ≠ 0 then (⟨log, cap, isc, keep, false⟩, 30) else if cap < log.length + r.length then (⟨log, cap, isc, keep, false⟩, 30) else if isc = false then (⟨log ++ r, cap, isc, keep, false⟩, 0) else (⟨log ++ r.take (min keep r.length).toNat, cap, false, 0, true⟩, 31) := by
      unfold writeP
      simp only [hr]
      rfl
    have hrl : r.length ≤ 4109 := by
      have : r = (recordP d).1 := by rw [hr]
      rw [this]
      rcases Nat.lt_or_ge 4096 d.length with h | h
      · unfold recordP; rw [if_pos h]; simp
      · rw [record_len h]; omega
    replace hr : Hid (_ = _) := hr
    by_cases he : er = 0
    · subst he
      have t1 : ((0 : Int) != 0) = false := rfl
      rw [if_neg (by simp)] at hwp
      have hws : IntKind.i64.wrap ((log.length : Int) + ((bs r).size : Int)) = (log.length : Int) + r.length := by rw [IntKind.wrap_i64, hsz]; omega
      by_cases hcap : cap < log.length + r.length
      · rw [if_pos hcap] at hwp
        rw [hwp]
        have t2 : decide (cap < (log.length : Int) + r.length) = true := by simpa using hcap
        replace hwp : Hid (_ = _) := hwp
        replace hsz : Hid (_ = _) := hsz
        go_enter Tryz.func95, Tryz.ntmps95
        go_wp2_with fail
        refine (hrec.out _).mono ?_
        rintro e w1 ⟨rfl, hb1⟩
        have e1 := (hB.out.call hb1).cell
        have l1 := (hB.out.call hb1).lt
        clear e0
        go_wp2
        go_ret
        exact ⟨rfl, ow, Step.of_below t ow hb1, (StoreAt.loc B _ t).below h0.out hb1⟩
      · rw [if_neg hcap] at hwp
        have t2 : decide (cap < (log.length : Int) + r.length) = false := by simpa using hcap
        cases isc
        · rw [if_pos rfl] at hwp
          rw [hwp]
          replace hwp : Hid (_ = _) := hwp
          have hap := fun W hS => stAppend_any B ⟨log, cap, false, keep, false⟩ t ow r (r.length : Int) W hS (by omega) (Int.le_refl _) (by simp only; omega)
          simp only [Int.toNat_natCast, List.take_length] at hap
          replace hap : Hid (∀ _, _) := hap
          go_enter Tryz.func95, Tryz.ntmps95
          go_wp2_with fail
          refine (hrec.out _).mono ?_
          rintro e w1 ⟨rfl, hb1⟩
          have e1 := (hB.out.call hb1).cell
          have l1 := (hB.out.call hb1).lt
          clear e0
          go_wp2_with fail
          refine (hap.out _ ((StoreAt.loc B _ t).below h0.out hb1)).mono ?_
          rintro e w2 ⟨rfl, ow2, hs2, h2⟩
          go_wp2
          go_ret
          exact ⟨rfl, ow2, (Step.of_below t ow hb1).trans hs2, h2⟩
        · rw [if_neg (by simp)] at hwp
          rw [hwp]
          replace hwp : Hid (_ = _) := hwp
          obtain ⟨m, hm⟩ : ∃ m, min keep (r.length : Int) = m := ⟨_, rfl⟩
          rw [hm]
          have hm0 : 0 ≤ m := by omega
          have hm1 : m ≤ r.length := by omega
          have hmin : min keep ((bs r).size : Int) = m := by rw [hsz]; exact hm
          have hap := fun W hS => stAppend_any B ⟨log, cap, true, keep, false⟩ t ow r m W hS hm0 hm1 (by simp only; omega)
          simp only at hap
          generalize r.take m.toNat = rt at *
          replace hap : Hid (∀ _, _) := hap
          replace hsz : Hid (_ = _) := hsz
          replace hm : Hid (_ = _) := hm
          go_enter Tryz.func95, Tryz.ntmps95
          go_wp2_with fail
          refine (hrec.out _).mono ?_
          rintro e w1 ⟨rfl, hb1⟩
          have e1 := (hB.out.call hb1).cell
          have l1 := (hB.out.call hb1).lt
          clear e0
          go_wp2_with fail
          refine (hap.out _ ((StoreAt.loc B _ t).below h0.out hb1)).mono ?_
          rintro e w2 ⟨rfl, ow2, hs2, ⟨lv2, hB2, hR2, o12, o22⟩⟩
          have hw := fun s' W' => store_write (s' := s') (W' := W') hR2 hB2 o12 o22
          unfold storeCells at hB2 hw
          simp only at hB2 hw
          have f2 := hB2.frozen
          have l2 := hB2.lt
          have e2 := hB2.cell
          clear e1 hR2 o12 o22
          replace hw : Hid (∀ _, _) := hw
          replace hB2 : Hid (Blk _ _ _ _) := hB2
          go_wp2
          go_ret
          have hq := hw.out ⟨log ++ rt, cap, false, 0, true⟩ (((w2.setCell ⟨B, 3, none⟩ (.bool false)).setCell ⟨B, 4, none⟩ (.int .i64 0)).setCell ⟨B, 5, none⟩ (.bool true)) ((((Mod.refl (fun k => k = B) w2).thenSet (p := ⟨B, 3, none⟩) rfl _).thenSet (p := ⟨B, 4, none⟩) rfl _).thenSet (p := ⟨B, 5, none⟩) rfl _)
            (((hB2.out.set (o := 3) (.bool false)).set (o := 4) (.int .i64 0)).set (o := 5) (.bool true)) rfl
          exact ⟨rfl, ow2, ((Step.of_below t ow hb1).trans hs2).trans hq.1, hq.2⟩
    · have t1 : (er != 0) = true := by simpa using he
      rw [if_pos he] at hwp
      rw [hwp]
      replace hwp : Hid (_ = _) := hwp
      replace he : Hid (_ → _) := he
      go_enter Tryz.func95, Tryz.ntmps95
      go_wp2_with fail
      refine (hrec.out _).mono ?_
      rintro e w1 ⟨rfl, hb1⟩
      go_wp2
      go_ret
      exact ⟨rfl, ow, Step.of_below t ow hb1, (StoreAt.loc B _ t).below h0.out hb1⟩
  · have hwp : writeP ⟨log, cap, isc, keep, true⟩ d = (⟨log, cap, isc, keep, true⟩, 31) := by unfold writeP; rw [if_pos rfl]
    rw [hwp]
    replace hwp : Hid (_ = _) := hwp
    go_enter Tryz.func95, Tryz.ntmps95
    go_wp2
    go_ret
    exact ⟨rfl, ow, Step.refl _ _ _, h0.out⟩
set_option maxRecDepth 8000 in
set_option maxHeartbeats 1000000 in
theorem stWrite_any (B : Nat) (s : StoreS) (t : List Nat) (ow : Own) (d : List UInt8) (w : World) (h : StoreAt B s t ow w) (hc : CapOk s) (hd : d.length ≤ 1073741000) :
    Calls Tryz.prog 65 #[.pointer (some ⟨B, 0, none⟩), .string (bs d)] w (StorePost B (writeP s d).1 t ow w (.int .i64 (writeP s d).2)) := by
  have hl : s.log.length ≤ 1073741824 := by have := hc.1; have := hc.2.1; omega
  have hho := fun W hS => holds_any B s t ow W hS hl
  have hwr := fun W hS => stwrite_any B s t ow d W hS hc hd
  generalize writeP s d = R at *
  replace hho : Hid (∀ _, _) := hho
  replace hwr : Hid (∀ _, _) := hwr
  replace h : Hid (StoreAt _ _ _ _ _) := h
  replace hc : Hid (CapOk _) := hc
  go_enter Tryz.func65, Tryz.ntmps65
  go_wp2_with fail
  refine wp_region_sched [(0, true), (1, true), (2, true), (3, true), (4, true), (6, true), (7, true), (8, true), (9, true), (5, false), (10, false), (11, true)] none (fun w' => True) (by kernel_rfl) (by kernel_rfl) trivial ?_
  (repeat (refine wpSched_quiet (v := ?_) rfl rfl (fun w' hS => ?_) (fun K hK => ?_); rotate_left; (focus ((try have e1 := hS.1.cell); (try have e2 := hS.2.1.cell); (try have e3 := hS.2.2.1.cell); (try have e4 := hS.2.2.2.1.cell); (try have f1 := hS.1); (try have f2 := hS.2.1); (try have f3 := hS.2.2.1); (try have f4 := hS.2.2.2.1); (try have f5 := hS.2.2.2.2.1); clear hS; go_simp; (try with_reducible rfl))); (go_simp; refine hK _ ?_; clear hK K)))
  refine wpSched_loud rfl (fun K hK => ?_)
  go_wp2_with fail
  refine (hho.out _ ((StoreAt.loc B s t).below h.out (by (repeat (first | exact Below.refl _ _ | with_reducible assumption | refine pb_alloc ?_ _ | refine pb_drew ?_ | refine pb_drewN ?_ _ | refine pb_set ?_ (by simp; try omega) _ | refine pb_trans ?_ (by with_reducible assumption)))))).mono ?_
  rintro e w1 ⟨rfl, hb1⟩
  have hb1' : Below w.heap.size w w1 := by (repeat (first | exact Below.refl _ _ | with_reducible assumption | refine pb_alloc ?_ _ | refine pb_drew ?_ | refine pb_drewN ?_ _ | refine pb_set ?_ (by simp; try omega) _ | refine pb_trans ?_ (by with_reducible assumption)))
  go_wp2
  refine hK.out _ _ (fun _ => trivial) ?_
  clear hK K
  refine wpSched_loud rfl (fun K hK => ?_)
  go_wp2_with fail
  refine (hwr.out _ ((StoreAt.loc B s t).below h.out hb1')).mono ?_
  rintro e w2 ⟨rfl, ow2, hs2, h2⟩
  go_wp2
  refine hK.out _ _ (fun _ => trivial) ?_
  clear hK K
  (repeat (refine wpSched_quiet (v := ?_) rfl rfl (fun w' hS => ?_) (fun K hK => ?_); rotate_left; (focus ((try have e1 := hS.1.cell); (try have e2 := hS.2.1.cell); (try have e3 := hS.2.2.1.cell); (try have e4 := hS.2.2.2.1.cell); (try have f1 := hS.1); (try have f2 := hS.2.1); (try have f3 := hS.2.2.1); (try have f4 := hS.2.2.2.1); (try have f5 := hS.2.2.2.2.1); clear hS; go_simp; (try with_reducible rfl))); (go_simp; refine hK _ ?_; clear hK K)))
  refine wpSched_nil ?_
  go_wp2
  go_ret
  exact ⟨rfl, ow2, (Step.of_below t ow hb1').trans hs2, h2⟩
end Go.Proofs.YtaopeioebpfdeaaGreatDoor
namespace Go.Proofs.YtaopeioebpfdeaaGreatDoor
open Go Go.RowKit Go.Shelf Go.Extern.Stop Go.Stop Go.Extern
attribute [local go_sem] Oper.semAt_some wide_fn wide_depth

def readF (s : List UInt8) : List (List UInt8) × Nat := readP s.length s
theorem readP_more : ∀ (n m : Nat) (s : List UInt8), s.length ≤ n → s.length ≤ m → readP n s = readP m s
  | 0, 0, s, _, _ => rfl
  | 0, m + 1, s, h, _ => by
    obtain rfl : s = [] := List.eq_nil_of_length_eq_zero (by omega)
    rfl
  | n + 1, 0, s, _, h => by
    obtain rfl : s = [] := List.eq_nil_of_length_eq_zero (by omega)
    rfl
  | n + 1, m + 1, s, h1, h2 => by
    unfold readP
    by_cases h : (firstP s).2 = 0
    · rw [if_pos h, if_pos h]
    · rw [if_neg h, if_neg h]
      have hs := firstP_size s
      have := readP_more n m (s.drop (firstP s).2) (by simp; omega) (by simp; omega)
      rw [this]
theorem readF_zero {s : List UInt8} (h : (firstP s).2 = 0) : readF s = ([], 0) := by
  unfold readF
  cases hs : s.length with
  | zero => rfl
  | succ n => unfold readP; rw [if_pos h]
theorem readF_succ {s : List UInt8} (h : (firstP s).2 ≠ 0) : readF s = ((firstP s).1 :: (readF (s.drop (firstP s).2)).1, (firstP s).2 + (readF (s.drop (firstP s).2)).2) := by
  have hz := firstP_size s
  unfold readF
  cases hs : s.length with
  | zero => omega
  | succ n =>
    rw [show readP (n + 1) s = ((firstP s).1 :: (readP n (s.drop (firstP s).2)).1, (firstP s).2 + (readP n (s.drop (firstP s).2)).2) by rw [readP, if_neg h]]
    rw [readP_more n (s.drop (firstP s).2).length (s.drop (firstP s).2) (by simp; omega) (Nat.le_refl _)]
/-- What Read's loop keeps: the records so far, their bytes. -/
structure ReadAt (s : List UInt8) (ab gb : Nat) (W0 : World) (l : List (List UInt8)) (n : Nat) (v : Value) (X : Nat → Prop) (W : World) : Prop where
  fr : Fr (fun k => k = ab ∨ k = gb) W0 X W
  ka : Blk W ab #[v] 97
  kg : Blk W gb #[.int .i64 (n : Nat)] 3
  row : Row W 9 1 v l.length (texts l)
  new : ∀ g, v.ownBlock = some g → W0.heap.size ≤ g ∧ ¬ X g
theorem ReadAt.stab {s : List UInt8} {ab gb : Nat} {W0 : World} {l : List (List UInt8)} {n : Nat} {v : Value} {X X' : Nat → Prop} {W W' : World} (h : ReadAt s ab gb W0 l n v X W) (ha : ab < W0.heap.size) (hg : gb < W0.heap.size)
    (hm : Mod X W W') (hx : ∀ k, X' k → X k ∨ (W.heap.size ≤ k ∧ k < W'.heap.size)) : ReadAt s ab gb W0 l n v X' W' where
  fr := h.fr.step hm hx
  ka := h.ka.kept (h.fr.block hm ha)
  kg := h.kg.kept (h.fr.block hm hg)
  row := h.row.mod hm (fun g hg => (h.new g hg).2)
  new := fun g hg => ⟨(h.new g hg).1, fun hX => by
    rcases hx g hX with h1 | h1
    · exact (h.new g hg).2 h1
    · have := h.row.lt hg; omega⟩
theorem below_drew' {B : Nat} {w W : World} (h : Below B w W) : Below B w W.drew := h.drew
/-- What Read comes to. -/
def ReadPost (s : List UInt8) (w : World) (e : Ending) (w' : World) : Prop :=
  ∃ v, e = .returned (.tuple #[v, .int .i64 ((readF s).2 : Nat)]) ∧ Below w.heap.size w w' ∧ Src w' v 1 (readF s).1.length (texts (readF s).1) ∧ ∀ a l c, v = .slice (some a) l c → w.heap.size ≤ a.block
set_option maxRecDepth 8000 in
set_option maxHeartbeats 1000000 in
theorem jnRead_any (s : List UInt8) (hl : s.length ≤ 1073741824) (w : World) : Calls Tryz.prog 84 #[.string (bs s)] w (ReadPost s w) := by
  refine calls_of_wp_marks Tryz.func84 rfl ?_
  simp only [Tryz.ntmps84, List.size_toArray, List.length_cons, List.length_nil, Nat.reduceAdd, Nat.reduceSub, Array.replicate_succ, Array.replicate_zero, List.push_toArray, List.append_toArray, List.nil_append, List.cons_append]
  go_wp2
  go_step3
  go_wp2
  go_step3
  go_wp2_with fail
  refine (places_any _ _).mono ?_
  rintro e w1 ⟨rfl, rfl⟩
  go_wp2_with fail
  obtain ⟨W0, hW0⟩ : ∃ W0, W0 = (((w.alloc (.cells #[.slice none 0 0] 97)).alloc (.cells #[.int .i64 0] 3)).alloc (.cells #[.string (bs s)] 9)) := ⟨_, rfl⟩
  have hsz : W0.heap.size = w.heap.size + 3 := by rw [hW0]; simp
  have hb0 : Below w.heap.size w W0 := by rw [hW0]; (repeat (first | exact Below.refl _ _ | with_reducible assumption | refine pb_alloc ?_ _ | refine pb_drew ?_ | refine pb_drewN ?_ _ | refine pb_set ?_ (by simp; try omega) _ | refine pb_trans ?_ (by with_reducible assumption)))
  have ka0 : Blk W0 w.heap.size #[.slice none 0 0] 97 := by rw [hW0]; (repeat (first | with_reducible assumption | (refine Blk.new ?_; simp; done) | refine Blk.alloc ?_ _ | refine Blk.drew ?_ | refine Blk.drewN ?_ _ | refine Blk.call ?_ (by with_reducible assumption)))
  have kg0 : Blk W0 (w.heap.size + 1) #[.int .i64 0] 3 := by rw [hW0]; (repeat (first | with_reducible assumption | (refine Blk.new ?_; simp; done) | refine Blk.alloc ?_ _ | refine Blk.drew ?_ | refine Blk.drewN ?_ _ | refine Blk.call ?_ (by with_reducible assumption)))
  have kc0 : Blk W0 (w.heap.size + 1 + 1) #[.string (bs s)] 9 := by rw [hW0]; (repeat (first | with_reducible assumption | (refine Blk.new ?_; simp; done) | refine Blk.alloc ?_ _ | refine Blk.drew ?_ | refine Blk.drewN ?_ _ | refine Blk.call ?_ (by with_reducible assumption)))
  rw [← hW0]
  clear hW0
  refine wp_rangeVar (gf := 145) (lb := #[.pointer (some ⟨w.heap.size + 1 + 1, 0, none⟩)]) rfl (enters_of Tryz.func145 (by kernel_rfl) rfl)
      (places_iter (w.heap.size + 1 + 1) s hl) (fun _ => rfl)
      (fun r X W => r.2 = false ∧ ∃ l n v, readF s = (l ++ (readF r.1).1, n + (readF r.1).2) ∧ n + r.1.length = s.length ∧ 9 * l.length ≤ n ∧ ReadAt s w.heap.size (w.heap.size + 1) W0 l n v X W)
      (fun c X W => c = .exit 0 ∧ ∃ v, ReadAt s w.heap.size (w.heap.size + 1) W0 (readF s).1 (readF s).2 v X W)
      (fun r X X' W W' h hm hx => by obtain ⟨hr, l, n, v, h1, h2, h2', h3⟩ := h; exact ⟨hr, l, n, v, h1, h2, h2', h3.stab (by omega) (by omega) hm hx⟩)
      (fun c _ X X' W W' h hm hx => by obtain ⟨hc, v, h3⟩ := h; exact ⟨hc, v, h3.stab (by omega) (by omega) hm hx⟩)
      (fun r X W h => by obtain ⟨hr, l, n, v, h1, h2, h2', h3⟩ := h; exact kc0.mod h3.fr.2 (by omega))
      ⟨rfl, [], 0, .slice none 0 0, by simp, by simp, by simp, Fr.refl _ _, ka0, kg0, row_nil _ _ _, by simp [Value.ownBlock]⟩
      (fun x => [(6, .string (bs x.1)), (7, .int .i64 (x.2 : Nat))]) ?assign ?body ?done ?stop
  case assign =>
    intro l' x W K hK
    unfold placeV at hK ⊢
    rw [laidIn_two] at hK ⊢
    gi_wp2
    exact hK
  case body =>
    rintro l' ⟨r, b⟩ ⟨d, m⟩ X W ⟨hb, l, n, v, hrf, hn, hnl, hI⟩ ⟨-, hx, hrl⟩ hXl _
    simp only at hb hrf hn hx hrl
    subst hb
    unfold placeV
    rw [laidIn_two]
    have hfs := firstP_size r
    rw [← hx] at hfs
    simp only at hfs
    by_cases hm : m = 0
    · subst hm
      have hz := readF_zero (s := r) (by rw [← hx])
      rw [hz] at hrf
      have hrf' : readF s = (l, n) := by simpa using hrf
      have hI' : ReadAt s w.heap.size (w.heap.size + 1) W0 (readF s).1 (readF s).2 v X W := by rw [hrf']; exact hI
      clear hI hrf hrf'
      replace hx : Hid (_ = _) := hx
      replace hz : Hid (_ = _) := hz
      gi_wp2
      exact ⟨⟨rfl, v, hI'⟩, Saves.refl _ _⟩
    · have hz := readF_succ (s := r) (by rw [← hx]; exact hm)
      rw [← hx] at hz
      simp only at hz
      obtain ⟨hfr, ka, kg, hrow, hnew⟩ := hI
      have t0 : ((m : Int) == 0) = false := by simpa using hm
      have hw : IntKind.i64.wrap ((n : Int) + (m : Int)) = ((n + m : Nat) : Int) := by rw [IntKind.wrap_i64]; omega
      have ea := ka.cell
      have eg := kg.cell
      have lg := kg.lt
      have la := ka.lt
      have hz0 := hfr.2.size
      have hlt : l.length + 1 ≤ 1073741824 := by omega
      have hva : ∀ g, v.ownBlock = some g → g ≠ w.heap.size ∧ g ≠ w.heap.size + 1 := fun g hg => by have := (hnew g hg).1; omega
      obtain ⟨v', W3, hrun, hrow3, hgr, hown⟩ := row_append strT (hrow.below ((Below.refl _ _).alloc (Nat.le_refl _) (.cells #[.string (bs d)] 9))) (src_blk (n := 1) (size := 1) (cap := 1) (Blk.new (w := W) (cs := #[.string (bs d)]) (t := 9) rfl) rfl (Nat.le_refl 1)) (texts_one [d]) hlt 97
      have ka3 := (ka.alloc (.cells #[.string (bs d)] 9)).kept (hgr.block _ (by simp; omega) (fun e => (hva _ e.symm).1 rfl))
      have kg3 := (kg.alloc (.cells #[.string (bs d)] 9)).kept (hgr.block _ (by simp; omega) (fun e => (hva _ e.symm).2 rfl))
      have fa3 := ka3.frozen
      have ea3 := ka3.cell
      have la3 := ka3.lt
      have eg3 := kg3.cell
      have fg3 := kg3.frozen
      have lg3 := kg3.lt
      obtain ⟨va, vn, vc, rfl⟩ := hrow.shape
      obtain ⟨sa, sm, sc, rfl⟩ := hrow3.shape
      replace hx : Hid (_ = _) := hx
      replace hz : Hid (_ = _) := hz
      replace hrf : Hid (_ = _) := hrf
      replace hrow : Hid (Row _ _ _ _ _ _) := hrow
      replace hrow3 : Hid (Row _ _ _ _ _ _) := hrow3
      replace hown : Hid (_ ∨ _) := hown
      replace hnew : Hid (∀ _, _) := hnew
      replace hva : Hid (∀ _, _) := hva
      clear eg
      gi_wp2_with (gi_at_builtin
                   refine wpListIn_append_by rfl _ _ _ rfl rfl rfl hrun ?_)
      have hm4 : Mod (fun k => k = w.heap.size ∨ k = w.heap.size + 1 ∨ (Value.slice va vn vc).ownBlock = some k) W ((W3.setCell ⟨w.heap.size, 0, none⟩ (.slice sa sm sc)).setCell ⟨w.heap.size + 1, 0, none⟩ (.int .i64 ((n : Int) + (m : Int)))) :=
        ((((Mod.refl (fun k => k = w.heap.size ∨ k = w.heap.size + 1 ∨ (Value.slice va vn vc).ownBlock = some k) W).thenAlloc (.cells #[.string (bs d)] 9)).trans (Mod.grown (X := fun k => k = w.heap.size ∨ k = w.heap.size + 1 ∨ (Value.slice va vn vc).ownBlock = some k) hgr (fun k h => .inr (.inr h))) (fun _ _ e => e) (fun _ _ e => e)).thenSet (p := ⟨w.heap.size, 0, none⟩) (.inl rfl) _).thenSet (p := ⟨w.heap.size + 1, 0, none⟩) (.inr (.inl rfl)) _
      have hg5 : ∀ g, (Value.slice sa sm sc).ownBlock = some g → ((Value.slice va vn vc).ownBlock = some g ∨ g = W.heap.size + 1) := fun g hg => by
        have := hown.out
        rw [hg] at this
        rcases this with h | h
        · exact .inl h.symm
        · right; simpa using h
      have hg6 : ∀ g, (Value.slice sa sm sc).ownBlock = some g → W0.heap.size ≤ g ∧ ¬ X g := fun g hg => by
        rcases hg5 g hg with h | h
        · exact hnew.out g h
        · subst h; exact ⟨by omega, fun hX => by have := (hfr.1 _ hX).2; omega⟩
      have hne : w.heap.size ≠ w.heap.size + 1 := by omega
      refine ⟨⟨rfl, l ++ [d], n + m, ?_, ?_, ?_, .slice sa sm sc, hfr.mod hm4 (fun k hk h => ?_), ?_, ?_, ?_, hg6⟩, Saves.of_mod hm4 (fun k hk hX h => ?_)⟩
      · rw [hrf.out, hz.out]; simp; omega
      · simp; omega
      · simp; omega
      · rcases h with h | h | h
        · exact .inl h
        · exact .inr h
        · have := (hnew.out k h).1; omega
      · exact (ka3.set (o := 0) _).other (p := ⟨w.heap.size + 1, 0, none⟩) hne _
      · have := (kg3.other (p := ⟨w.heap.size, 0, none⟩) (Ne.symm hne) (.slice sa sm sc)).set (o := 0) (.int .i64 ((n : Int) + (m : Int)))
        rw [show ((n + m : Nat) : Int) = (n : Int) + (m : Int) by omega]
        exact this
      · rw [List.length_append, List.length_singleton, texts_append]
        refine Row.kept (w := W3) hrow3.out (fun g hg => ?_)
        have := (hg6 g hg).1
        exact (Below.heap_setCell _ _ _ _ (show g ≠ w.heap.size + 1 by omega)).trans (Below.heap_setCell _ _ _ _ (show g ≠ w.heap.size by omega))
      · have := hfr.1 k hX
        rcases h with h | h | h
        · omega
        · omega
        · exact (hnew.out k h).2 hX
  case done =>
    rintro D r X W hD hXD hfin ⟨hb, -⟩ hdef
    rw [hb] at hfin
    cases hfin
  case stop =>
    rintro D c X W hD hXD ⟨rfl, v, hI⟩ hdef
    obtain ⟨hfr, ka, kg, hrow, hnew⟩ := hI
    have hbW : Below w.heap.size w W := hb0.trans (hfr.below (by omega) (fun k hk => by omega))
    have hpost : ∀ v W', Below w.heap.size w W' → Src W' v 1 (readF s).1.length (texts (readF s).1) → (∀ a l c, v = .slice (some a) l c → w.heap.size ≤ a.block) → ReadPost s w (.returned (.tuple #[v, .int .i64 ((readF s).2 : Nat)])) W' := fun v W' h1 h2 h3 => ⟨v, rfl, h1, h2, h3⟩
    generalize (readF s).1 = l at *
    generalize (readF s).2 = n at *
    have hns : ∀ g, v.ownBlock = some g → w.heap.size ≤ g := fun g hg => by have := (hnew g hg).1; omega
    replace hpost : Hid (∀ _, _) := hpost
    rcases hrow.form with ⟨rfl, hl0, hx0⟩ | ⟨g, cap, rfl, hc1, hc2⟩
    · obtain rfl : l = [] := List.eq_nil_of_length_eq_zero hl0
      clear hrow hfr hnew
      go_wp2_with fail
      refine wp_region_sched [(0, true), (1, true), (2, true), (3, true), (4, true), (5, true), (6, true), (7, true), (8, true)] none (fun w' => Blk w' w.heap.size #[.slice none 0 0] 97 ∧ Blk w' (w.heap.size + 1) #[.int .i64 (n : Nat)] 3 ∧ True) (by kernel_rfl) (by kernel_rfl) ⟨ka.drew, kg.drew, trivial⟩ ?_
      (repeat (refine wpSched_quiet (v := ?_) rfl rfl (fun w' hS => ?_) (fun K hK => ?_); rotate_left; (focus ((try have e1 := hS.1.cell); (try have e2 := hS.2.1.cell); (try have e3 := hS.2.2.1.cell); (try have e4 := hS.2.2.2.1.cell); (try have f1 := hS.1); (try have f2 := hS.2.1); (try have f3 := hS.2.2.1); (try have f4 := hS.2.2.2.1); (try have f5 := hS.2.2.2.2.1); clear hS; go_simp; (try with_reducible rfl))); (go_simp; refine hK _ ?_; clear hK K)))
      refine wpSched_nil ?_
      go_wp2
      rw [Exit.noGoto_ret]
      refine end_mark1 (D := D) (v := .tuple #[.slice none 0 0, .int .i64 (n : Nat)]) hdef (by simp [results, Tryz.results84, go_sem]) (hpost.out _ _ ?_ (src_nil _ _) (fun a l c h => by cases h))
      exact below_putObj (below_drew' hbW) (by omega) _
    · obtain ⟨cur, hcur⟩ := hrow.type (g := g) rfl
      have hgD : g ≠ D := fun e => by subst e; rw [hdef] at hcur; cases hcur
      have hgw := hns g rfl
      have y0 : (l.length : Int) ≤ cap := by omega
      unfold maxLen at hc2
      have y1 : (cap : Int) ≤ 9223372036854775807 := by omega
      have hsrc : Src W (.slice (some ⟨g, 0, none⟩) l.length l.length) 1 l.length (texts l) := by
        have h := hrow.src
        refine ⟨h.1, .inr ⟨g, 0, l.length, rfl, Nat.le_refl _, ?_⟩⟩
        rcases h.2 with ⟨h0, -⟩ | ⟨b', off', cap', h0, -, hr⟩
        · cases h0
        · cases h0; exact hr
      clear hrow hfr hnew
      replace hsrc : Hid (Src _ _ _ _ _) := hsrc
      go_wp2_with fail
      refine wp_region_sched [(0, true), (1, true), (2, true), (3, true), (4, true), (5, true), (6, true), (7, true), (8, true)] none (fun w' => Blk w' w.heap.size #[.slice (some ⟨g, 0, none⟩) l.length cap] 97 ∧ Blk w' (w.heap.size + 1) #[.int .i64 (n : Nat)] 3 ∧ True) (by kernel_rfl) (by kernel_rfl) ⟨ka.drew, kg.drew, trivial⟩ ?_
      (repeat (refine wpSched_quiet (v := ?_) rfl rfl (fun w' hS => ?_) (fun K hK => ?_); rotate_left; (focus ((try have e1 := hS.1.cell); (try have e2 := hS.2.1.cell); (try have e3 := hS.2.2.1.cell); (try have e4 := hS.2.2.2.1.cell); (try have f1 := hS.1); (try have f2 := hS.2.1); (try have f3 := hS.2.2.1); (try have f4 := hS.2.2.2.1); (try have f5 := hS.2.2.2.2.1); clear hS; go_simp; (try with_reducible rfl))); (go_simp; refine hK _ ?_; clear hK K)))
      refine wpSched_nil ?_
      go_wp2
      rw [Exit.noGoto_ret]
      refine end_mark1 (D := D) (v := .tuple #[.slice (some ⟨g, 0, none⟩) l.length l.length, .int .i64 (n : Nat)]) hdef (by simp [results, Tryz.results84, go_sem]) (hpost.out _ _ ?_ ?_ (fun a l c h => ?_))
      · exact below_putObj (below_drew' hbW) (by omega) _
      · exact Src.kept (w := W) hsrc.out (fun a l c h => by cases h; exact World.putObj_heap_other hgD)
      · cases h; exact hgw
end Go.Proofs.YtaopeioebpfdeaaGreatDoor
