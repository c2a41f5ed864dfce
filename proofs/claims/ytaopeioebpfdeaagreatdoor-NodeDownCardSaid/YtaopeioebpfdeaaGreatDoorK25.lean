/- PROVED HERE: WALKS: paxos' New, isInst, behind, record, halves, keep, open. Condition: the node's part is one that calls have made. WALKS: paxos' keep, open, Promise, Cast, Decided. Condition: the node's part is one that calls have made. -/
import Derived.Test.YtaopeioebpfdeaaGreatDoorK12
import Derived.Test.YtaopeioebpfdeaaGreatDoorK24
namespace Go.Proofs.YtaopeioebpfdeaaGreatDoor
open Go Go.RowKit Go.Shelf Go.Extern.Stop Go.Stop Go.Extern
attribute [local go_sem] Oper.semAt_some wide_fn wide_depth

def learnedV (x : List UInt8) : Value := .agg #[.string (bs x)]
def paxCells (vb kb : Nat) (p : PaxS) : Array Value := #[.map (some vb), .map (some kb), .int .i64 (p.length : Nat), .int .i64 0]
def PaxAt (B : Nat) (p : PaxS) (t : List Nat) (ow : Own) (W : World) : Prop :=
  p.length ≤ 10000 ∧ ∃ vb kb, Blk W B (paxCells vb kb p) 137 ∧ MapAt W vb intV (p.votes.map fun q => (q.1, voteV q.2)) ∧ MapAt W kb intV (p.known.map fun q => (q.1, learnedV q.2)) ∧ vb ≠ kb ∧ ow B = t ∧ ow vb = t ∧ ow kb = t
theorem PaxAt.loc (B : Nat) (p : PaxS) (t : List Nat) : Local t (PaxAt B p t) := by
  rintro ow ow' W W' ⟨hl, vb, kb, hB, hv, hk, hne, o1, o2, o3⟩ hs hkk
  have kB := hkk B hB.lt (by rw [o1]; exact Sub.rfl' t)
  have kv := hkk vb hv.lt (by rw [o2]; exact Sub.rfl' t)
  have kk := hkk kb hk.lt (by rw [o3]; exact Sub.rfl' t)
  exact ⟨hl, vb, kb, hB.kept kB.2, hv.kept kv.2, hk.kept kk.2, hne, kB.1.trans o1, kv.1.trans o2, kk.1.trans o3⟩
/-- What a call on a node's part comes to. -/
def PaxPost (B : Nat) (p : PaxS) (t : List Nat) (ow : Own) (w : World) (v : Value) (e : Ending) (w' : World) : Prop :=
  e = .returned v ∧ ∃ ow', Step t ow w ow' w' ∧ PaxAt B p t ow' w'
/-- What New comes to. -/
def NewPaxPost (t : List Nat) (ow : Own) (w : World) (e : Ending) (w' : World) : Prop :=
  ∃ B ow', e = .returned (.pointer (some ⟨B, 0, none⟩)) ∧ Step t ow w ow' w' ∧ Below w.heap.size w w' ∧ PaxAt B newPax t ow' w' ∧ w.heap.size ≤ B
theorem pxNew_any (t : List Nat) (ow : Own) (w : World) : Calls Tryz.prog 58 #[] w (NewPaxPost t ow w) := by
  have hmm := @run_makeMap Tryz.prog
  go_enter Tryz.func58, Tryz.ntmps58
  go_wp2
  go_ret
  have hb : Below w.heap.size w (((w.alloc (.map #[] 0)).alloc (.map #[] 0)).alloc (.cells #[.map (some w.heap.size), .map (some (w.heap.size + 1)), .int .i64 0, .int .i64 0] 137)) := by (repeat (first | exact Below.refl _ _ | with_reducible assumption | refine pb_alloc ?_ _ | refine pb_drew ?_ | refine pb_drewN ?_ _ | refine pb_set ?_ (by simp; try omega) _ | refine pb_trans ?_ (by with_reducible assumption)))
  refine ⟨w.heap.size + 2, ow.ext w.heap.size (fun _ => True) t, rfl, ⟨Mod.of_below _ hb, fun k hk => Own.ext_old hk⟩, hb, ⟨by simp [newPax], w.heap.size, w.heap.size + 1, Blk.new (by simp), ?_, ?_, by omega, Own.ext_new (by omega) trivial, Own.ext_new (by omega) trivial, Own.ext_new (by omega) trivial⟩, by omega⟩
  · exact ((MapAt.made w intV).kept (Below.heap_alloc _ _ _ (by simp))).kept (Below.heap_alloc _ _ _ (by simp; omega))
  · have h := (MapAt.made (w.alloc (.map #[] 0)) intV).kept (Below.heap_alloc (w.alloc (.map #[] 0) |>.alloc (.map #[] 0)) (.cells #[.map (some w.heap.size), .map (some (w.heap.size + 1)), .int .i64 0, .int .i64 0] 137) _ (by simp))
    simpa [newPax] using h

theorem isInst_any (i : Int) (w : World) : Calls Tryz.prog 73 #[.int .i64 i] w fun e w' => e = .returned (.bool (isInstP i)) ∧ w' = w := by
  unfold isInstP
  by_cases h1 : 1 ≤ i
  · have t1 : decide (1 ≤ i) = true := by simpa using h1
    rw [t1]
    go_enter Tryz.func73, Tryz.ntmps73
    go_wp2
    go_ret
    exact ⟨by simp, rfl⟩
  · have t1 : decide (1 ≤ i) = false := by simpa using h1
    rw [t1]
    go_enter Tryz.func73, Tryz.ntmps73
    go_wp2
    go_ret
    exact ⟨by simp, rfl⟩
theorem behind_any (i : Int) (w : World) : Calls Tryz.prog 74 #[.int .i64 i] w fun e w' =>
    e = .returned (.func (.func 104) #[] #[.pointer (some ⟨w.heap.size, 0, none⟩)]) ∧ w' = w.alloc (.cells #[.int .i64 i] 3) := by
  go_enter Tryz.func74, Tryz.ntmps74
  go_wp2
  go_ret
  exact ⟨rfl, rfl⟩
set_option maxHeartbeats 1000000 in
theorem behind_iter (cb : Nat) (n : Nat) (hn : n ≤ 10000) :
    Iter Fence.wide 2 Tryz.prog 104 #[.pointer (some ⟨cb, 0, none⟩)] (fun x : Nat => #[.int .i64 (x : Nat)])
      (fun (s : Nat) x => s < 10000 ∧ x = s + 1) (fun s _ => s + 1) (fun s => s = 10000)
      (fun _ W => Blk W cb #[.int .i64 (n : Nat)] 3) n := by
  intro lp J Jx W hJ hJx hRd hY h0
  have e0 := (hRd _ _ _ h0).cell
  have hF : Fence.wide.fn 104 := trivial
  have hro : Fence.wide.round = none := rfl
  have hw : IntKind.i64.wrap ((n : Int) + 1) = (n : Int) + 1 := by rw [IntKind.wrap_i64]; omega
  refine callsIn_of_wp Tryz.func104 rfl hF ?_ hro
  simp only [Tryz.ntmps104, List.size_toArray, List.length_cons, List.length_nil, Nat.reduceAdd, Nat.reduceSub, Array.replicate_succ, Array.replicate_zero, List.push_toArray, List.append_toArray, List.nil_append, List.cons_append]
  gi_wp2
  gi_loopw [3] (fun p wr => ∃ (k : Nat) (X : Nat → Prop), p = .int .i64 ((k : Int) + 1) ∧ k ≤ 10000 ∧ J k X wr) (fun p _ => 10001 - (intOf p).toNat)
  case atStart => exact ⟨n, _, rfl, hn, h0⟩
  case round =>
    obtain ⟨k, X, rfl, hk, hJs⟩ := hrel
    clear e0
    have hw2 : IntKind.i64.wrap ((k : Int) + 1 + 1) = (k : Int) + 1 + 1 := by rw [IntKind.wrap_i64]; omega
    by_cases hlt : k < 10000
    · have t0 : decide ((k : Int) + 1 ≤ 10000) = true := by simp; omega
      obtain ⟨fn, tmps, assign, body, hy, hR⟩ := hY k (k + 1) X wr hJs ⟨hlt, rfl⟩
      simp only [Int.natCast_add, Int.cast_ofNat_Int] at hy
      gi_wp2
      refine hR.mono ?_
      rintro e W' (⟨rfl, hJ', -⟩ | ⟨rfl, hx'⟩)
      · clear hR hy
        gi_wp2
        go_roundw
        case rel => exact ⟨k + 1, _, by simp, by omega, hJ'⟩
        case measure => simp [intOf]; omega
      · gi_wp2
        refine bodyPost_ret (results_none rfl _ _ _) rfl ?_
        exact ⟨⟨_, rfl⟩, .inr ⟨_, hx'⟩⟩
    · obtain rfl : k = 10000 := by omega
      gi_wp2
      go_end0
      exact ⟨⟨_, rfl⟩, .inl ⟨10000, X, rfl, hJs⟩⟩

theorem le4_mod (n : Nat) : le4 (n % 4294967296) = le4 n := by
  unfold le4
  simp only [List.cons.injEq, and_true]
  refine ⟨?_, ?_, ?_, ?_⟩ <;> (apply UInt8.toNat_inj.1; simp <;> omega)
theorem halves_any (n : Nat) (hn : n < 18446744073709551616) (w : World) : Calls Tryz.prog 72 #[.int .u64 n] w fun e w' => e = .returned (.string (bs (le8 n))) ∧ Below w.heap.size w w' := by
  have h1 : IntKind.u32.wrap (n : Int) = ((n % 4294967296 : Nat) : Int) := by rw [IntKind.wrap_u32]; omega
  have h2 : IntKind.u32.wrap ((n : Int) / 4294967296) = ((n / 4294967296 : Nat) : Int) := by rw [IntKind.wrap_u32]; omega
  have hp1 := fun W => put_any (n % 4294967296) W
  have hp2 := fun W => put_any (n / 4294967296) W
  rw [le4_mod] at hp1
  have hadd := bs_add (le4 n) (le4 (n / 4294967296)) (by simp [le4_length])
  unfold le8
  replace hp1 : Hid (∀ _, _) := hp1
  replace hp2 : Hid (∀ _, _) := hp2
  go_enter Tryz.func72, Tryz.ntmps72
  go_wp2_with fail
  refine (hp1.out _).mono ?_
  rintro e w1 ⟨rfl, hb1⟩
  go_wp2_with fail
  refine (hp2.out _).mono ?_
  rintro e w2 ⟨rfl, hb2⟩
  go_wp2
  go_ret
  exact ⟨rfl, pb_trans hb1 hb2⟩

/-- The piece ends normally, in such a frame and world. -/
def SomeAt (S : Act → World → Prop) : Exit → Act → World → Prop
  | .normal, a, w => S a w
  | _, _, _ => False
theorem someAt {S : Act → World → Prop} {a : Act} {w : World} (h : S a w) : SomeAt S .normal a w := h
theorem wp_some {P : Program} {c : Code} {Q : Exit → Act → World → Prop} {a : Act} {w : World} (S : Act → World → Prop) (h : c.wp P (SomeAt S) a w) (h2 : ∀ a' w', S a' w' → Q .normal a' w') : c.wp P Q a w :=
  wp_mono h (fun e a' w' hs => by
    cases e with
    | normal => exact h2 a' w' hs
    | _ => exact hs.elim)
set_option maxRecDepth 8000 in
set_option maxHeartbeats 1000000 in
theorem rec_any (kind : UInt8) (i : Int) (h0 : 0 ≤ i) (v : Value) (ts : List (List UInt8)) (w : World) (hv : Src w v 1 ts.length (texts ts)) (hl : ts.length ≤ 1000000) (hb : plen ts ts.length ≤ 1073741000) :
    Calls Tryz.prog 71 #[.int .u8 (kind.toNat : Int), .int .i64 i, v] w fun e w' => e = .returned (.string (bs (recP kind i ts.flatten))) ∧ Below w.heap.size w w' := by
  have hwr : IntKind.u32.wrap i = ((i.toNat % 4294967296 : Nat) : Int) := by rw [IntKind.wrap_u32]; omega
  have hadd := bs_add [kind] (le4 (i.toNat % 4294967296)) (by simp [le4_length])
  obtain ⟨hd, hhd⟩ : ∃ hd, [kind] ++ le4 (i.toNat % 4294967296) = hd := ⟨_, rfl⟩
  have hdl : hd.length = 5 := by rw [← hhd]; simp [le4_length]
  have hrec : recP kind i ts.flatten = hd ++ ts.flatten := by unfold recP; rw [hhd]
  rw [hhd] at hadd
  rw [hrec]
  generalize i.toNat % 4294967296 = m at *
  obtain ⟨va, vn, vc, hvs⟩ : ∃ a n c, v = .slice a n c := by
    rcases hv.2 with ⟨rfl, -⟩ | ⟨b, off, cap, rfl, -⟩
    · exact ⟨_, _, _, rfl⟩
    · exact ⟨_, _, _, rfl⟩
  subst hvs
  have hcv := conv_one kind
  replace hrec : Hid (_ = _) := hrec
  replace hhd : Hid (_ = _) := hhd
  replace hv : Hid (Src _ _ _ _ _) := hv
  replace hdl : Hid (_ = _) := hdl
  go_enter Tryz.func71, Tryz.ntmps71
  go_wp2_with fail
  refine wp_some (fun a' w' => (∃ p, a' = { tmps := #[.int .u8 kind.toNat, .int .i64 i, .slice va vn vc, undef, undef, undef, .string ⟨#[]⟩, .string (bs hd), undef, undef, .int .u8 kind.toNat, p, .string (bs [kind]), .int .i64 i, .int .u32 m, .string (bs (le4 m)), .string (bs hd), undef, undef, undef, undef, undef, undef, undef, undef, undef, undef, undef], defers := [] }) ∧ Below w.heap.size w w') ?_ ?_
  · go_region_with (go_at_call 62; (with_reducible refine (put_any _ _).mono ?_); rintro e w1 ⟨rfl, hb⟩; have hz := hb.size; obtain ⟨hcA, hfA⟩ := bcell hb)
    all_goals go_simp
    all_goals exact someAt ⟨⟨_, rfl⟩, by (repeat (first | exact Below.refl _ _ | with_reducible assumption | refine pb_alloc ?_ _ | refine pb_drew ?_ | refine pb_drewN ?_ _ | refine pb_set ?_ (by simp; try omega) _ | refine pb_trans ?_ (by with_reducible assumption)))⟩
  · rintro _ W ⟨⟨p, rfl⟩, hbW⟩
    have hvW := hv.out.below hbW
    clear hv hcv hadd
    rcases hvW.2 with ⟨h0, hn⟩ | ⟨b, off, cap, h0, hc, hr⟩
    · obtain ⟨rfl, rfl, rfl⟩ : va = none ∧ vn = 0 ∧ vc = 0 := by simpa using h0
      obtain rfl : ts = [] := List.eq_nil_of_length_eq_zero hn
      clear hvW
      go_wp2
      go_loop [7, 19] (fun p7 p19 => p19 = .int .i64 0 ∧ p7 = .string (bs hd)) (fun _ _ => 0)
      case atStart => exact ⟨rfl, rfl⟩
      case round =>
        obtain ⟨rfl, rfl⟩ := hrel
        go_wp2
        go_ret
        exact ⟨by simp, hbW⟩
    · obtain ⟨rfl, rfl, rfl⟩ : va = some ⟨b, off, none⟩ ∧ vn = ts.length ∧ vc = cap := by simpa using h0
      clear h0 hvW
      go_wp2
      go_loop [7, 19] (fun p7 p19 => ∃ k : Nat, k ≤ ts.length ∧ p19 = .int .i64 k ∧ p7 = .string (bs (hd ++ (ts.take k).flatten))) (fun _ p19 => ts.length - (intOf p19).toNat)
      case atStart => exact ⟨0, Nat.zero_le _, rfl, by simp⟩
      case round =>
        obtain ⟨k, hk, rfl, rfl⟩ := hrel
        by_cases hlt : k < ts.length
        · obtain ⟨x, hx⟩ : ∃ x, ts[k]? = some x := ⟨_, List.getElem?_eq_getElem hlt⟩
          have hc0 : W.cell? ⟨b, off + k, none⟩ = some (.string (bs x)) := hr k _ (by simp [texts, hx])
          have hl2 := plen_le ts (k + 1)
          have hfl := take_flat ts k x hx
          rw [plen_succ hx] at hl2
          have hadd := bs_add (hd ++ (ts.take k).flatten) x (by have h2 : plen ts k = (ts.take k).flatten.length := rfl; have := hdl.out; rw [List.length_append]; omega) W
          rw [List.append_assoc, ← hfl] at hadd
          replace hfl : Hid (_ = _) := hfl
          replace hx : Hid (_ = _) := hx
          clear hr
          go_wp2
          go_round
          case rel => exact ⟨k + 1, by omega, by go_num, rfl⟩
          case measure => simp [intOf]; omega
        · obtain rfl : k = ts.length := by omega
          rw [List.take_length]
          clear hr
          go_wp2
          go_ret
          exact ⟨rfl, hbW⟩
end Go.Proofs.YtaopeioebpfdeaaGreatDoor
namespace Go.Proofs.YtaopeioebpfdeaaGreatDoor
open Go Go.RowKit Go.Shelf Go.Extern.Stop Go.Stop Go.Extern
attribute [local go_sem] Oper.semAt_some wide_fn wide_depth

theorem pxOpen_any (B : Nat) (p : PaxS) (t : List Nat) (ow : Own) (i : Int) (w : World) (h : PaxAt B p t ow w) :
    Calls Tryz.prog 68 #[.pointer (some ⟨B, 0, none⟩), .int .i64 i] w fun e w' => e = .returned (.int .i64 (if isInstP i then 0 else 2)) ∧ w' = w := by
  obtain ⟨hl, vb, kb, hB, -⟩ := h
  unfold paxCells at hB
  have e0 := hB.cell
  have hi := isInst_any i w
  cases hin : isInstP i
  · rw [hin] at hi
    replace hi : Hid (Calls _ _ _ _ _) := hi
    clear hB
    replace hin : Hid (_ = _) := hin
    go_enter Tryz.func68, Tryz.ntmps68
    go_wp2_with fail
    refine hi.out.mono ?_
    rintro e w1 ⟨rfl, rfl⟩
    go_wp2
    go_ret
    exact ⟨rfl, rfl⟩
  · rw [hin] at hi
    have h1 : 1 ≤ i := by simp [isInstP] at hin; omega
    have t1 : decide (i ≤ 0) = false := by simp; omega
    replace hi : Hid (Calls _ _ _ _ _) := hi
    clear hB
    replace hin : Hid (_ = _) := hin
    go_enter Tryz.func68, Tryz.ntmps68
    go_wp2_with fail
    refine hi.out.mono ?_
    rintro e w1 ⟨rfl, rfl⟩
    go_wp2
    go_ret
    exact ⟨rfl, rfl⟩

theorem voteMap_nil_no (b : Nat) (w : World) : (binOp .eql 134 (.map (some b)) (.map none)).run Tryz.prog w = .ok (.bool false) w := by kernel_rfl
theorem knownMap_nil_no (b : Nat) (w : World) : (binOp .eql 135 (.map (some b)) (.map none)).run Tryz.prog w = .ok (.bool false) w := by kernel_rfl
set_option maxRecDepth 8000 in
set_option maxHeartbeats 1000000 in
theorem pxKeep_any (B : Nat) (p : PaxS) (t : List Nat) (ow : Own) (i : Int) (v : VoteD) (w : World) (h : PaxAt B p t ow w) :
    Calls Tryz.prog 70 #[.pointer (some ⟨B, 0, none⟩), .int .i64 i, voteV v] w (PaxPost B { p with votes := put i v p.votes } t ow w (.tuple #[])) := by
  obtain ⟨hl, vb, kb, hB, hv, hk, hne, o1, o2, o3⟩ := h
  unfold paxCells at hB
  have hvB : B ≠ vb := hB.ne_map hv
  have hkB : B ≠ kb := hB.ne_map hk
  obtain ⟨W1, hW1⟩ : ∃ W1, W1 = w.alloc (.cells #[.int .u64 (v.1 : Nat), .int .u64 (v.2.1 : Nat), .string (bs v.2.2)] 39) := ⟨_, rfl⟩
  have hb1 : Below w.heap.size w W1 := by rw [hW1]; (repeat (first | exact Below.refl _ _ | with_reducible assumption | refine pb_alloc ?_ _ | refine pb_drew ?_ | refine pb_drewN ?_ _ | refine pb_set ?_ (by simp; try omega) _ | refine pb_trans ?_ (by with_reducible assumption)))
  have hB1 := hB.call hb1
  have kx : Blk W1 w.heap.size #[.int .u64 (v.1 : Nat), .int .u64 (v.2.1 : Nat), .string (bs v.2.2)] 39 := by rw [hW1]; exact Blk.new rfl
  have hv1 : MapAt W1 vb intV (p.votes.map fun q => (q.1, voteV q.2)) := hv.kept (hb1.block vb hv.lt)
  obtain ⟨o, hu, hm⟩ := (hv1.kept (w' := W1.drew) rfl).update intKey Tryz.underlying134 i (voteV v)
  rw [put_map] at hm
  have hlt : vb < W1.heap.size := hv1.lt
  unfold voteV intV at hu
  unfold voteV
  have e0 := hB.cell
  have l0 := hB.lt
  have hnn := voteMap_nil_no vb
  replace hm : Hid (MapAt _ _ _ _) := hm
  replace hv : Hid (MapAt _ _ _ _) := hv
  replace hk : Hid (MapAt _ _ _ _) := hk
  clear hv1
  go_enter Tryz.func70, Tryz.ntmps70
  go_wp2_with fail
  rw [← hW1]
  clear hW1
  refine wp_region_sched [(0, true), (1, true), (2, true), (3, true), (4, true), (5, true), (6, false)] (some 6) (fun w' => Blk w' B #[.map (some vb), .map (some kb), .int .i64 (p.length : Nat), .int .i64 0] 137 ∧ Blk w' w.heap.size #[.int .u64 (v.1 : Nat), .int .u64 (v.2.1 : Nat), .string (bs v.2.2)] 39 ∧ True) (by kernel_rfl) (by kernel_rfl) ⟨hB1.drew, kx.drew, trivial⟩ ?_
  (repeat (refine wpSched_quiet (v := ?_) rfl rfl (fun w' hS => ?_) (fun K hK => ?_); rotate_left; (focus ((try have e1 := hS.1.cell); (try have e2 := hS.2.1.cell); (try have e3 := hS.2.2.1.cell); (try have e4 := hS.2.2.2.1.cell); (try have f1 := hS.1); (try have f2 := hS.2.1); (try have f3 := hS.2.2.1); (try have f4 := hS.2.2.2.1); (try have f5 := hS.2.2.2.2.1); clear hS; go_simp; (try with_reducible rfl))); (go_simp; refine hK _ ?_; clear hK K)))
  refine wpSched_loud rfl (fun K hK => ?_)
  go_wp2
  refine hK.out _ _ (fun hh => absurd rfl hh) ?_
  clear hK K
  refine wpSched_nil ?_
  go_wp2
  go_end0
  refine ⟨rfl, ow, ⟨?_, fun _ _ => rfl⟩, hl, vb, kb, ?_, hm.out, ?_, hne, o1, o2, o3⟩
  · exact ((Mod.of_below (fun k => Sub t (ow k)) hb1).thenDrew).thenPut (by rw [o2]; exact Sub.rfl' t) o
  · exact hB1.drew.putObj hvB o
  · exact hk.out.kept ((World.putObj_heap_other (Ne.symm hne)).trans (hb1.block kb hk.out.lt))

theorem vote_zero (w : World) : (zeroValue 39).run Tryz.prog w = .ok (voteV (0, 0, [])) w := by kernel_rfl
theorem learned_zero (w : World) : (zeroValue 142).run Tryz.prog w = .ok (learnedV []) w := by kernel_rfl
theorem vote_look (p : PaxS) (i : Int) : (look i (p.votes.map fun q => (q.1, voteV q.2))).getD (voteV (0, 0, [])) = voteV (voteAt p i) := by
  rw [look_map]; unfold voteAt; cases look i p.votes <;> rfl
set_option maxRecDepth 8000 in
theorem pxDecided_any (B : Nat) (p : PaxS) (t : List Nat) (ow : Own) (i : Int) (w : World) (h : PaxAt B p t ow w) :
    Calls Tryz.prog 51 #[.pointer (some ⟨B, 0, none⟩), .int .i64 i] w fun e w' => e = .returned (.tuple #[.string (bs ((look i p.known).getD [])), .bool (look i p.known).isSome]) ∧ Below w.heap.size w w' := by
  obtain ⟨hl, vb, kb, hB, hv, hk, hne, o1, o2, o3⟩ := h
  unfold paxCells at hB
  have e0 := hB.cell
  have hlk := hk.lookup_ok intKey Tryz.underlying135 (learned_zero w) i
  rw [look_map, Option.isSome_map, show ((look i p.known).map learnedV).getD (learnedV []) = learnedV ((look i p.known).getD []) by cases look i p.known <;> rfl] at hlk
  unfold learnedV intV at hlk
  generalize (look i p.known).getD [] = x at *
  generalize (look i p.known).isSome = b at *
  clear hB hv hk
  go_enter Tryz.func51, Tryz.ntmps51
  go_wp2
  go_ret2
  exact ⟨rfl, by (repeat (first | exact Below.refl _ _ | with_reducible assumption | refine pb_alloc ?_ _ | refine pb_drew ?_ | refine pb_drewN ?_ _ | refine pb_set ?_ (by simp; try omega) _ | refine pb_trans ?_ (by with_reducible assumption)))⟩
theorem rec1_any (kind : UInt8) (i : Int) (h0 : 0 ≤ i) (x : List UInt8) (b : Nat) (w : World) (hc : w.cell? ⟨b, 0, none⟩ = some (.string (bs x))) (hl : x.length ≤ 1000000) :
    Calls Tryz.prog 71 #[.int .u8 (kind.toNat : Int), .int .i64 i, .slice (some ⟨b, 0, none⟩) 1 1] w fun e w' => e = .returned (.string (bs (recP kind i x))) ∧ Below w.heap.size w w' := by
  have hsrc : Src w (.slice (some ⟨b, 0, none⟩) 1 1) 1 [x].length (texts [x]) := ⟨rfl, .inr ⟨b, 0, 1, rfl, Nat.le_refl _, fun j u hu => by
    match j, hu with
    | 0, hu => cases hu; exact hc⟩⟩
  have := rec_any kind i h0 _ [x] w hsrc (by simp) (by simp [plen]; omega)
  rwa [show [x].flatten = x by simp] at this
theorem rec2_any (kind : UInt8) (i : Int) (h0 : 0 ≤ i) (x y : List UInt8) (b : Nat) (w : World) (hc : w.cell? ⟨b, 0, none⟩ = some (.string (bs x))) (hc1 : w.cell? ⟨b, 1, none⟩ = some (.string (bs y))) (hl : x.length ≤ 1000000) (hl : y.length ≤ 1000000) :
    Calls Tryz.prog 71 #[.int .u8 (kind.toNat : Int), .int .i64 i, .slice (some ⟨b, 0, none⟩) 2 2] w fun e w' => e = .returned (.string (bs (recP kind i (x ++ y)))) ∧ Below w.heap.size w w' := by
  have hsrc : Src w (.slice (some ⟨b, 0, none⟩) 2 2) 1 [x, y].length (texts [x, y]) := ⟨rfl, .inr ⟨b, 0, 2, rfl, Nat.le_refl _, fun j u hu => by
    match j, hu with
    | 0, hu => cases hu; exact hc
    | 1, hu => cases hu; exact hc1⟩⟩
  have := rec_any kind i h0 _ [x, y] w hsrc (by simp) (by simp [plen]; omega)
  rwa [show [x, y].flatten = x ++ y by simp] at this
theorem le8_lenX (n : Nat) : (le8 n).length = 8 := by simp [le8, le4_length]
/-- What Promise comes to. -/
def promE (r : VoteD × List UInt8 × Int) : Value := .tuple #[voteV r.1, .string (bs r.2.1), .int .i64 r.2.2]
set_option maxRecDepth 8000 in
set_option maxHeartbeats 1000000 in
theorem pxPromise_any (B : Nat) (p : PaxS) (t : List Nat) (ht : t ≠ []) (ow : Own) (i : Int) (b : Nat) (hb : b < 18446744073709551616) (w : World) (h : PaxAt B p t ow w) :
    Calls Tryz.prog 37 #[.pointer (some ⟨B, 0, none⟩), .int .i64 i, .int .u64 b] w (PaxPost B (promiseP p i b).1 t ow w (promE (promiseP p i b).2)) := by
  have hopen := fun W hW => pxOpen_any B p t ow i W hW
  have hpp : promiseP p i b = if isInstP i = false then (p, (0, 0, []), [], 2) else if (promiseV (voteAt p i) b).2 ≠ 0 then (p, (0, 0, []), [], (promiseV (voteAt p i) b).2) else ({ p with votes := put i (promiseV (voteAt p i) b).1 p.votes }, (promiseV (voteAt p i) b).1, recP 112 i (le8 b), 0) := rfl
  have h0 := h
  obtain ⟨hl, vb, kb, hB, hv, -⟩ := h
  unfold paxCells at hB
  cases hin : isInstP i
  · rw [hin] at hopen
    rw [if_pos hin] at hpp
    rw [hpp]
    replace hpp : Hid (_ = _) := hpp
    replace hopen : Hid (∀ _, _) := hopen
    replace h0 : Hid (PaxAt _ _ _ _ _) := h0
    replace hin : Hid (_ = _) := hin
    unfold promE voteV
    clear hB hv
    go_enter Tryz.func37, Tryz.ntmps37
    go_wp2_with fail
    refine (hopen.out _ ((PaxAt.loc B p t).below h0.out (by (repeat (first | exact Below.refl _ _ | with_reducible assumption | refine pb_alloc ?_ _ | refine pb_drew ?_ | refine pb_drewN ?_ _ | refine pb_set ?_ (by simp; try omega) _ | refine pb_trans ?_ (by with_reducible assumption)))))).mono ?_
    rintro e w1 ⟨rfl, rfl⟩
    go_wp2
    exact bodyPost_ret (v := .tuple #[.agg #[.int .u64 0, .int .u64 0, .string ⟨#[]⟩], .string ⟨#[]⟩, .int .i64 2]) (by simp [results, Tryz.results37, go_sem]) rfl ⟨rfl, ow, Step.of_below t ow (by (repeat (first | exact Below.refl _ _ | with_reducible assumption | refine pb_alloc ?_ _ | refine pb_drew ?_ | refine pb_drewN ?_ _ | refine pb_set ?_ (by simp; try omega) _ | refine pb_trans ?_ (by with_reducible assumption)))), (PaxAt.loc B p t).below h0.out (by (repeat (first | exact Below.refl _ _ | with_reducible assumption | refine pb_alloc ?_ _ | refine pb_drew ?_ | refine pb_drewN ?_ _ | refine pb_set ?_ (by simp; try omega) _ | refine pb_trans ?_ (by with_reducible assumption))))⟩
  · rw [hin] at hopen
    rw [if_neg (by simp [hin])] at hpp
    have hi0 : 0 ≤ i := by simp [isInstP] at hin; omega
    have hvp := fun W => vPromise_any (voteAt p i) b W
    have hlkz : ∀ W, Below w.heap.size w W → (Instr.lookup 134 (.map (some vb)) (.int .i64 i) false).run Tryz.prog W = .ok (voteV (voteAt p i)) W := fun W hW => by
      rw [← vote_look p i]
      exact (hv.kept (hW.block vb hv.lt)).lookup intKey Tryz.underlying134 (vote_zero W) i
    obtain ⟨⟨⟨p1, p2, p3⟩, er⟩, hpv⟩ : ∃ r, promiseV (voteAt p i) b = r := ⟨_, rfl⟩
    rw [hpv] at hvp hpp
    have hlk := hlkz (w.alloc (.cells #[.int .u64 0, .int .u64 0, .string ⟨#[]⟩] 39)) (by (repeat (first | exact Below.refl _ _ | with_reducible assumption | refine pb_alloc ?_ _ | refine pb_drew ?_ | refine pb_drewN ?_ _ | refine pb_set ?_ (by simp; try omega) _ | refine pb_trans ?_ (by with_reducible assumption))))
    unfold voteE at hvp
    unfold voteV at hvp hlk
    simp only at hpp hvp
    have e0 := hB.cell
    have l0 := hB.lt
    replace hpv : Hid (_ = _) := hpv
    replace hlkz : Hid (∀ _, _) := hlkz
    replace hvp : Hid (∀ _, _) := hvp
    replace hopen : Hid (∀ _, _) := hopen
    replace h0 : Hid (PaxAt _ _ _ _ _) := h0
    replace hin : Hid (_ = _) := hin
    clear hB hv
    by_cases he : er = 0
    · subst he
      rw [if_neg (by simp)] at hpp
      rw [hpp]
      replace hpp : Hid (_ = _) := hpp
      have hkeep := fun W hW => pxKeep_any B p t (ow.cut w) i (p1, p2, p3) W hW
      have hhal := fun W => halves_any b hb W
      unfold promE
      unfold voteV at hkeep ⊢
      simp only at hkeep ⊢
      replace hkeep : Hid (∀ _, _) := hkeep
      replace hhal : Hid (∀ _, _) := hhal
      obtain ⟨rc, hrc⟩ : ∃ rc, recP 112 i (le8 b) = rc := ⟨_, rfl⟩
      have hrec := fun g W hc => rec1_any 112 i hi0 (le8 b) g W hc (by rw [le8_lenX]; omega)
      rw [hrc] at hrec ⊢
      replace hrc : Hid (_ = _) := hrc
      replace hrec : Hid (∀ _, _) := hrec
      go_enter Tryz.func37, Tryz.ntmps37
      go_wp2_with fail
      refine (hopen.out _ ((PaxAt.loc B p t).below h0.out (by (repeat (first | exact Below.refl _ _ | with_reducible assumption | refine pb_alloc ?_ _ | refine pb_drew ?_ | refine pb_drewN ?_ _ | refine pb_set ?_ (by simp; try omega) _ | refine pb_trans ?_ (by with_reducible assumption)))))).mono ?_
      rintro e w1 ⟨rfl, rfl⟩
      go_wp2_with fail
      refine (hvp.out _).mono ?_
      rintro e w1 ⟨rfl, hb1⟩
      clear hlk
      have k6 : Blk w1 w.heap.size #[.int .u64 0, .int .u64 0, .string ⟨#[]⟩] 39 := Blk.call (by (repeat (first | with_reducible assumption | (refine Blk.new ?_; simp; done) | refine Blk.alloc ?_ _ | refine Blk.drew ?_ | refine Blk.drewN ?_ _ | refine Blk.call ?_ (by with_reducible assumption)))) hb1
      have hbw : Below w.heap.size w w1 := by (repeat (first | exact Below.refl _ _ | with_reducible assumption | refine pb_alloc ?_ _ | refine pb_drew ?_ | refine pb_drewN ?_ _ | refine pb_set ?_ (by simp; try omega) _ | refine pb_trans ?_ (by with_reducible assumption)))
      obtain ⟨W2, hW2⟩ : ∃ W2, W2 = w1.alloc (.cells #[.int .u64 p1, .int .u64 p2, .string (bs p3)] 39) := ⟨_, rfl⟩
      have hb2 : Below w.heap.size w W2 := by rw [hW2]; (repeat (first | exact Below.refl _ _ | with_reducible assumption | refine pb_alloc ?_ _ | refine pb_drew ?_ | refine pb_drewN ?_ _ | refine pb_set ?_ (by simp; try omega) _ | refine pb_trans ?_ (by with_reducible assumption)))
      have k62 : Blk W2 w.heap.size #[.int .u64 0, .int .u64 0, .string ⟨#[]⟩] 39 := by rw [hW2]; exact k6.alloc _
      have kA2 : Blk W2 w1.heap.size #[.int .u64 p1, .int .u64 p2, .string (bs p3)] 39 := by rw [hW2]; exact Blk.new rfl
      have hz1 := hbw.size
      have hl6 := k6.lt
      clear k6
      go_wp2_with fail
      rw [← hW2]
      refine (hkeep.out _ ((PaxAt.loc B p t).cut h0.out hb2)).mono ?_
      rintro e w3 ⟨rfl, ow3, hs3, h3⟩
      have k63 := k62.kept (hs3.free ht (Nat.le_refl _) k62.lt).1
      have kA3 := kA2.kept (hs3.free ht hz1 kA2.lt).1
      have hs3w := Step.wrap hb2 hs3
      have ho6 := (hs3.free ht (Nat.le_refl _) k62.lt).2
      clear k62 kA2 hs3
      replace h3 : Hid (PaxAt _ _ _ _ _) := h3
      replace hs3w : Hid (Step _ _ _ _ _) := hs3w
      go_wp2_with fail
      refine wp_region_sched [(0, true), (1, true), (2, true), (3, false), (4, false), (5, false), (6, false), (7, true), (8, true)] none (fun w' => Blk w' w1.heap.size #[.int .u64 p1, .int .u64 p2, .string (bs p3)] 39 ∧ True) (by kernel_rfl) (by kernel_rfl) ⟨kA3.drew, trivial⟩ ?_
      (repeat (refine wpSched_quiet (v := ?_) rfl rfl (fun w' hS => ?_) (fun K hK => ?_); rotate_left; (focus ((try have e1 := hS.1.cell); (try have e2 := hS.2.1.cell); (try have e3 := hS.2.2.1.cell); (try have e4 := hS.2.2.2.1.cell); (try have f1 := hS.1); (try have f2 := hS.2.1); (try have f3 := hS.2.2.1); (try have f4 := hS.2.2.2.1); (try have f5 := hS.2.2.2.2.1); clear hS; go_simp; (try with_reducible rfl))); (go_simp; refine hK _ ?_; clear hK K)))
      refine wpSched_loud rfl (fun K hK => ?_)
      go_wp2_with fail
      refine (hhal.out _).mono ?_
      rintro e w4 ⟨rfl, hb4⟩
      have kA4 := kA3.drew.call hb4
      have k64 := k63.drew.call hb4
      go_wp2
      refine hK.out _ _ (fun _ => ⟨kA4, trivial⟩) ?_
      clear hK K
      refine wpSched_loud rfl (fun K hK => ?_)
      go_wp2
      refine hK.out _ _ (fun _ => ⟨kA4.alloc _, trivial⟩) ?_
      clear hK K
      refine wpSched_loud rfl (fun K hK => ?_)
      go_wp2_with fail
      refine (hrec.out _ _ (by simp)).mono ?_
      rintro e w5 ⟨rfl, hb5⟩
      have kA5 := (kA4.alloc _).call hb5
      have k65 := (k64.alloc _).call hb5
      go_wp2
      refine hK.out _ _ (fun _ => ⟨kA5, trivial⟩) ?_
      clear hK K
      have c5 := k65.cell
      have f5 := k65.frozen
      have l5 := k65.lt
      refine wpSched_loud rfl (fun K hK => ?_)
      go_wp2
      have hneA : w1.heap.size ≠ w.heap.size := by omega
      refine hK.out _ _ (fun _ => ⟨((kA5.other (p := ⟨w.heap.size, 0, none⟩) hneA _).other (p := ⟨w.heap.size, 1, none⟩) hneA _).other (p := ⟨w.heap.size, 2, none⟩) hneA _, trivial⟩) ?_
      clear hK K
      (repeat (refine wpSched_quiet (v := ?_) rfl rfl (fun w' hS => ?_) (fun K hK => ?_); rotate_left; (focus ((try have e1 := hS.1.cell); (try have e2 := hS.2.1.cell); (try have e3 := hS.2.2.1.cell); (try have e4 := hS.2.2.2.1.cell); (try have f1 := hS.1); (try have f2 := hS.2.1); (try have f3 := hS.2.2.1); (try have f4 := hS.2.2.2.1); (try have f5 := hS.2.2.2.2.1); clear hS; go_simp; (try with_reducible rfl))); (go_simp; refine hK _ ?_; clear hK K)))
      refine wpSched_nil ?_
      have rr := (((k65.set (o := 0) (.int .u64 p1)).set (o := 1) (.int .u64 p2)).set (o := 2) (.string (bs p3))).cell
      have hb35 : Below w3.heap.size w3 w5 := pb_trans (pb_alloc (pb_trans (pb_drew (Below.refl _ _)) hb4) _) hb5
      have hs5 : Step t ow w ow3 w5 := hs3w.out.trans (Step.of_below t ow3 hb35)
      go_wp2
      refine bodyPost_ret (v := .tuple #[.agg #[.int .u64 p1, .int .u64 p2, .string (bs p3)], .string (bs rc), .int .i64 0]) (by simp [results, Tryz.results37, go_sem, rr]) rfl ⟨rfl, ow3, ?_, ?_⟩
      · exact ((hs5.setNew ⟨w.heap.size, 0, none⟩ _ (Nat.le_refl _)).setNew ⟨w.heap.size, 1, none⟩ _ (Nat.le_refl _)).setNew ⟨w.heap.size, 2, none⟩ _ (Nat.le_refl _)
      · refine PaxAt.loc B _ t _ _ _ _ ((PaxAt.loc B _ t).below h3.out hb35) (by simp) (fun k hk hs => ⟨rfl, ?_⟩)
        have hkn : k ≠ w.heap.size := fun e => by subst e; rw [ho6] at hs; exact not_sub_nil ht hs
        exact (Below.heap_setCell _ _ _ _ hkn).trans ((Below.heap_setCell _ _ _ _ hkn).trans (Below.heap_setCell _ _ _ _ hkn))
    · rw [if_pos he] at hpp
      rw [hpp]
      replace hpp : Hid (_ = _) := hpp
      have t1 : (er != 0) = true := by simpa using he
      replace he : Hid (_ → _) := he
      unfold promE voteV
      go_enter Tryz.func37, Tryz.ntmps37
      go_wp2_with fail
      refine (hopen.out _ ((PaxAt.loc B p t).below h0.out (by (repeat (first | exact Below.refl _ _ | with_reducible assumption | refine pb_alloc ?_ _ | refine pb_drew ?_ | refine pb_drewN ?_ _ | refine pb_set ?_ (by simp; try omega) _ | refine pb_trans ?_ (by with_reducible assumption)))))).mono ?_
      rintro e w1 ⟨rfl, rfl⟩
      go_wp2_with fail
      refine (hvp.out _).mono ?_
      rintro e w1 ⟨rfl, hb1⟩
      have k6 : Blk w1 w.heap.size #[.int .u64 0, .int .u64 0, .string ⟨#[]⟩] 39 := Blk.call (by (repeat (first | with_reducible assumption | (refine Blk.new ?_; simp; done) | refine Blk.alloc ?_ _ | refine Blk.drew ?_ | refine Blk.drewN ?_ _ | refine Blk.call ?_ (by with_reducible assumption)))) hb1
      have c6 := k6.cell
      have f6 := k6.frozen
      have l6 := k6.lt
      have hbw : Below w.heap.size w w1 := by (repeat (first | exact Below.refl _ _ | with_reducible assumption | refine pb_alloc ?_ _ | refine pb_drew ?_ | refine pb_drewN ?_ _ | refine pb_set ?_ (by simp; try omega) _ | refine pb_trans ?_ (by with_reducible assumption)))
      have rr := ((((k6.set (o := 0) (.int .u64 0)).set (o := 1) (.int .u64 0)).set (o := 2) (.string ⟨#[]⟩)).alloc (.cells #[.int .u64 p1, .int .u64 p2, .string (bs p3)] 39)).cell
      have hbz : Below w.heap.size w ((((w1.setCell ⟨w.heap.size, 0, none⟩ (.int .u64 0)).setCell ⟨w.heap.size, 1, none⟩ (.int .u64 0)).setCell ⟨w.heap.size, 2, none⟩ (.string ⟨#[]⟩)).alloc (.cells #[.int .u64 p1, .int .u64 p2, .string (bs p3)] 39)) := pb_alloc (pb_set (pb_set (pb_set hbw (by simp) _) (by simp) _) (by simp) _) _
      go_wp2
      exact bodyPost_ret (v := .tuple #[.agg #[.int .u64 0, .int .u64 0, .string ⟨#[]⟩], .string ⟨#[]⟩, .int .i64 er]) (by simp [results, Tryz.results37, go_sem, rr]) rfl ⟨rfl, ow, Step.of_below t ow hbz, (PaxAt.loc B p t).below h0.out hbz⟩
end Go.Proofs.YtaopeioebpfdeaaGreatDoor
