/- PROVED HERE: WALKS: paxos' Cast, Learn. Condition: the node's part is one that calls have made. -/
import Derived.Test.YtaopeioebpfdeaaGreatDoorK25
namespace Go.Proofs.YtaopeioebpfdeaaGreatDoor
open Go Go.RowKit Go.Shelf Go.Extern.Stop Go.Stop Go.Extern
attribute [local go_sem] Oper.semAt_some wide_fn wide_depth

/-- What Cast, Learn come to. -/
def castE (r : List UInt8 × Int) : Value := .tuple #[.string (bs r.1), .int .i64 r.2]
set_option maxRecDepth 8000 in
set_option maxHeartbeats 1000000 in
theorem pxCast_any (B : Nat) (p : PaxS) (t : List Nat) (_ht : t ≠ []) (ow : Own) (i : Int) (b : Nat) (hb : b < 18446744073709551616) (x : List UInt8) (hx : x.length ≤ 1000000) (w : World) (h : PaxAt B p t ow w) :
    Calls Tryz.prog 45 #[.pointer (some ⟨B, 0, none⟩), .int .i64 i, .int .u64 b, .string (bs x)] w (PaxPost B (castP p i b x).1 t ow w (castE (castP p i b x).2)) := by
  have hopen := fun W hW => pxOpen_any B p t ow i W hW
  have hpp : castP p i b x = if isInstP i = false then (p, [], 2) else if (castV (voteAt p i) b x).2 ≠ 0 then (p, [], (castV (voteAt p i) b x).2) else ({ p with votes := put i (castV (voteAt p i) b x).1 p.votes }, recP 118 i (le8 b ++ x), 0) := rfl
  have h0 := h
  obtain ⟨hl, vb, kb, hB, hv, -⟩ := h
  unfold paxCells at hB
  cases hin : isInstP i
  · rw [hin] at hopen
    rw [if_pos hin] at hpp
    rw [hpp]
    replace hpp : Hid (_ = _) := hpp
    replace hopen : Hid (∀ _, _) := hopen
    replace h0 : Hid (PaxAt _ _ _ _ _) := h0
    replace hin : Hid (_ = _) := hin
    unfold castE
    clear hB hv
    go_enter Tryz.func45, Tryz.ntmps45
    go_wp2_with fail
    refine (hopen.out _ h0.out).mono ?_
    rintro e w1 ⟨rfl, hww⟩
    obtain rfl := hww.symm
    go_wp2
    go_ret2
    exact ⟨rfl, ow, Step.refl _ _ _, h0.out⟩
  · rw [hin] at hopen
    rw [if_neg (by simp [hin])] at hpp
    have hi0 : 0 ≤ i := by simp [isInstP] at hin; omega
    have hvp := fun W => vCast_any (voteAt p i) b x W
    have hlk : (Instr.lookup 134 (.map (some vb)) (.int .i64 i) false).run Tryz.prog w = .ok (voteV (voteAt p i)) w := by
      rw [← vote_look p i]
      exact hv.lookup intKey Tryz.underlying134 (vote_zero w) i
    obtain ⟨⟨⟨p1, p2, p3⟩, er⟩, hpv⟩ : ∃ r, castV (voteAt p i) b x = r := ⟨_, rfl⟩
    rw [hpv] at hvp hpp
    unfold voteE at hvp
    unfold voteV at hvp hlk
    simp only at hpp hvp
    have e0 := hB.cell
    have l0 := hB.lt
    replace hpv : Hid (_ = _) := hpv
    replace hvp : Hid (∀ _, _) := hvp
    replace hopen : Hid (∀ _, _) := hopen
    replace h0 : Hid (PaxAt _ _ _ _ _) := h0
    replace hin : Hid (_ = _) := hin
    clear hB hv
    by_cases he : er = 0
    · subst he
      rw [if_neg (by simp)] at hpp
      rw [hpp]
      replace hpp : Hid (_ = _) := hpp
      have hkeep := fun W hW => pxKeep_any B p t (ow.cut w) i (p1, p2, p3) W hW
      have hhal := fun W => halves_any b hb W
      unfold castE
      unfold voteV at hkeep
      simp only at hkeep ⊢
      replace hkeep : Hid (∀ _, _) := hkeep
      replace hhal : Hid (∀ _, _) := hhal
      obtain ⟨rc, hrc⟩ : ∃ rc, recP 118 i (le8 b ++ x) = rc := ⟨_, rfl⟩
      have hrec := fun g W hc hc1 => rec2_any 118 i hi0 (le8 b) x g W hc hc1 (by rw [le8_lenX]; omega) hx
      rw [hrc] at hrec ⊢
      replace hrc : Hid (_ = _) := hrc
      replace hrec : Hid (∀ _, _) := hrec
      go_enter Tryz.func45, Tryz.ntmps45
      go_wp2_with fail
      refine (hopen.out _ h0.out).mono ?_
      rintro e w1 ⟨rfl, hww⟩
      obtain rfl := hww.symm
      go_wp2_with fail
      refine (hvp.out _).mono ?_
      rintro e w1 ⟨rfl, hb1⟩
      clear hlk
      obtain ⟨W2, hW2⟩ : ∃ W2, W2 = w1.alloc (.cells #[.int .u64 p1, .int .u64 p2, .string (bs p3)] 39) := ⟨_, rfl⟩
      have hb2 : Below w.heap.size w W2 := by rw [hW2]; exact pb_alloc hb1 _
      go_wp2_with fail
      rw [← hW2]
      clear hW2
      refine (hkeep.out _ ((PaxAt.loc B p t).cut h0.out hb2)).mono ?_
      rintro e w3 ⟨rfl, ow3, hs3, h3⟩
      have hs3w := Step.wrap hb2 hs3
      clear hs3
      replace h3 : Hid (PaxAt _ _ _ _ _) := h3
      replace hs3w : Hid (Step _ _ _ _ _) := hs3w
      go_wp2_with fail
      refine (hhal.out _).mono ?_
      rintro e w4 ⟨rfl, hb4⟩
      go_wp2_with fail
      refine (hrec.out _ _ (by simp) (by simp)).mono ?_
      rintro e w5 ⟨rfl, hb5⟩
      go_wp2
      go_ret2
      have hb35 : Below w3.heap.size w3 w5 := pb_trans (pb_alloc hb4 _) hb5
      exact ⟨rfl, ow3, hs3w.out.trans (Step.of_below t ow3 hb35), (PaxAt.loc B _ t).below h3.out hb35⟩
    · rw [if_pos he] at hpp
      rw [hpp]
      replace hpp : Hid (_ = _) := hpp
      have t1 : (er != 0) = true := by simpa using he
      replace he : Hid (_ → _) := he
      unfold castE
      go_enter Tryz.func45, Tryz.ntmps45
      go_wp2_with fail
      refine (hopen.out _ h0.out).mono ?_
      rintro e w1 ⟨rfl, hww⟩
      obtain rfl := hww.symm
      go_wp2_with fail
      refine (hvp.out _).mono ?_
      rintro e w1 ⟨rfl, hb1⟩
      go_wp2
      go_ret2
      exact ⟨rfl, ow, Step.of_below t ow (pb_alloc hb1 _), (PaxAt.loc B p t).below h0.out (pb_alloc hb1 _)⟩

theorem reach_stop {K : List (Int × List UInt8)} {k : Nat} (h : look ((k : Int) + 1) K = none ∨ 10000 ≤ k) : ∀ n, reach K n k = k
  | 0 => rfl
  | n + 1 => by
    unfold reach
    rw [if_neg]
    rcases h with h | h
    · rw [h]; simp
    · omega
theorem reach_next {K : List (Int × List UInt8)} {k : Nat} (h : (look ((k : Int) + 1) K).isSome = true) (hk : k < 10000) (n : Nat) : reach K (n + 1) k = reach K n (k + 1) := by
  rw [reach, if_pos ⟨h, hk⟩]
theorem reach_le {K : List (Int × List UInt8)} : ∀ (n k : Nat), k ≤ 10000 → reach K n k ≤ 10000
  | 0, k, h => h
  | n + 1, k, h => by
    unfold reach
    split
    · rename_i hh; exact reach_le n (k + 1) (by omega)
    · exact h
/-- What Learn's loop keeps. -/
def LearnI (B vb kb : Nat) (K : List (Int × List UInt8)) (L : Nat) (W0 : World) (k : Nat) (X : Nat → Prop) (W : World) : Prop :=
  Fr (fun k => k = B) W0 X W ∧ k ≤ 10000 ∧ (∃ n, reach K n k = L ∧ 10000 ≤ n + k) ∧ Blk W B #[.map (some vb), .map (some kb), .int .i64 (k : Nat), .int .i64 0] 137
theorem LearnI.stab {B vb kb : Nat} {K : List (Int × List UInt8)} {L : Nat} {W0 : World} (hB : B < W0.heap.size) : Stab (LearnI B vb kb K L W0) :=
  fun _ _ _ _ _ h hm hx => ⟨h.1.step hm hx, h.2.1, h.2.2.1, h.2.2.2.kept (h.1.block hm hB)⟩
set_option maxRecDepth 8000 in
set_option maxHeartbeats 1000000 in
theorem pxLearn_any (B : Nat) (p : PaxS) (t : List Nat) (ow : Own) (i : Int) (x : List UInt8) (hx : x.length ≤ 1000000) (w : World) (h : PaxAt B p t ow w) :
    Calls Tryz.prog 38 #[.pointer (some ⟨B, 0, none⟩), .int .i64 i, .string (bs x)] w (PaxPost B (learnP p i x).1 t ow w (castE (learnP p i x).2)) := by
  have hinst := fun W => isInst_any i W
  have hsz := bs_size x
  have hlp : learnP p i x = if isInstP i = false ∨ 4000 < x.length then (p, [], 2) else (match look i p.known with
    | some y => if y ≠ x then (p, ([] : List UInt8), (91 : Int)) else (p, [], 0)
    | none => ({ p with known := put i x p.known, length := reach (put i x p.known) 10000 p.length }, recP 100 i x, 0)) := rfl
  have h0 := h
  obtain ⟨hl, vb, kb, hB, hv, hk, hne, o1, o2, o3⟩ := h
  unfold paxCells at hB
  have e0 := hB.cell
  have l0 := hB.lt
  by_cases hbad : isInstP i = false ∨ 4000 < x.length
  · rw [if_pos hbad] at hlp
    rw [hlp]
    replace hlp : Hid (_ = _) := hlp
    unfold castE
    cases hin : isInstP i
    · rw [hin] at hinst
      replace hinst : Hid (∀ _, _) := hinst
      replace h0 : Hid (PaxAt _ _ _ _ _) := h0
      replace hin : Hid (_ = _) := hin
      replace hsz : Hid (_ = _) := hsz
      clear hB hv hk hbad
      refine calls_of_wp_marks Tryz.func38 rfl ?_
      simp only [Tryz.ntmps38, List.size_toArray, List.length_cons, List.length_nil, Nat.reduceAdd, Nat.reduceSub, Array.replicate_succ, Array.replicate_zero, List.push_toArray, List.append_toArray, List.nil_append, List.cons_append]
      go_wp2
      go_step3
      go_wp2_with fail
      refine (hinst.out _).mono ?_
      rintro e w1 ⟨rfl, rfl⟩
      go_wp2
      rw [Exit.noGoto_ret]
      exact end_mark0 (v := .tuple #[.string ⟨#[]⟩, .int .i64 2]) (by simp [results, Tryz.results38, go_sem]) ⟨rfl, ow, Step.of_below t ow (by (repeat (first | exact Below.refl _ _ | with_reducible assumption | refine pb_alloc ?_ _ | refine pb_drew ?_ | refine pb_drewN ?_ _ | refine pb_set ?_ (by simp; try omega) _ | refine pb_trans ?_ (by with_reducible assumption)))), (PaxAt.loc B p t).below h0.out (by (repeat (first | exact Below.refl _ _ | with_reducible assumption | refine pb_alloc ?_ _ | refine pb_drew ?_ | refine pb_drewN ?_ _ | refine pb_set ?_ (by simp; try omega) _ | refine pb_trans ?_ (by with_reducible assumption))))⟩
    · have t0 : decide ((4000 : Int) < ((bs x).size : Int)) = true := by rw [hsz]; simp; rcases hbad with h | h; rw [hin] at h; cases h; omega
      rw [hin] at hinst
      replace hinst : Hid (∀ _, _) := hinst
      replace h0 : Hid (PaxAt _ _ _ _ _) := h0
      replace hin : Hid (_ = _) := hin
      replace hsz : Hid (_ = _) := hsz
      clear hB hv hk hbad
      refine calls_of_wp_marks Tryz.func38 rfl ?_
      simp only [Tryz.ntmps38, List.size_toArray, List.length_cons, List.length_nil, Nat.reduceAdd, Nat.reduceSub, Array.replicate_succ, Array.replicate_zero, List.push_toArray, List.append_toArray, List.nil_append, List.cons_append]
      go_wp2
      go_step3
      go_wp2_with fail
      refine (hinst.out _).mono ?_
      rintro e w1 ⟨rfl, rfl⟩
      go_wp2
      rw [Exit.noGoto_ret]
      exact end_mark0 (v := .tuple #[.string ⟨#[]⟩, .int .i64 2]) (by simp [results, Tryz.results38, go_sem]) ⟨rfl, ow, Step.of_below t ow (by (repeat (first | exact Below.refl _ _ | with_reducible assumption | refine pb_alloc ?_ _ | refine pb_drew ?_ | refine pb_drewN ?_ _ | refine pb_set ?_ (by simp; try omega) _ | refine pb_trans ?_ (by with_reducible assumption)))), (PaxAt.loc B p t).below h0.out (by (repeat (first | exact Below.refl _ _ | with_reducible assumption | refine pb_alloc ?_ _ | refine pb_drew ?_ | refine pb_drewN ?_ _ | refine pb_set ?_ (by simp; try omega) _ | refine pb_trans ?_ (by with_reducible assumption))))⟩
  · rw [if_neg hbad] at hlp
    have hin : isInstP i = true := by cases h : isInstP i; exact absurd (.inl h) hbad; rfl
    have hx4 : x.length ≤ 4000 := by have : ¬ 4000 < x.length := fun h => hbad (.inr h); omega
    have hi0 : 0 ≤ i := by simp [isInstP] at hin; omega
    have t0 : decide ((4000 : Int) < ((bs x).size : Int)) = false := by rw [hsz]; simp; omega
    rw [hin] at hinst
    have hlkz : ∀ W, Below w.heap.size w W → (Instr.lookup 135 (.map (some kb)) (.int .i64 i) true).run Tryz.prog W = .ok (.tuple #[learnedV ((look i p.known).getD []), .bool (look i p.known).isSome]) W := fun W hW => by
      have hlk := (hk.kept (hW.block kb hk.lt)).lookup_ok intKey Tryz.underlying135 (learned_zero W) i
      rw [look_map, Option.isSome_map, show ((look i p.known).map learnedV).getD (learnedV []) = learnedV ((look i p.known).getD []) by cases look i p.known <;> rfl] at hlk
      exact hlk
    have hlk := hlkz (w.alloc (.cells #[.pointer (some ⟨B, 0, none⟩)] 73)) (by (repeat (first | exact Below.refl _ _ | with_reducible assumption | refine pb_alloc ?_ _ | refine pb_drew ?_ | refine pb_drewN ?_ _ | refine pb_set ?_ (by simp; try omega) _ | refine pb_trans ?_ (by with_reducible assumption))))
    unfold learnedV at hlk
    clear hlkz
    replace hinst : Hid (∀ _, _) := hinst
    replace h0 : Hid (PaxAt _ _ _ _ _) := h0
    replace hin : Hid (_ = _) := hin
    replace hsz : Hid (_ = _) := hsz
    clear hbad
    cases hy : look i p.known with
    | some y =>
      rw [hy] at hlk hlp
      simp only [Option.getD_some, Option.isSome_some] at hlk hlp
      have hq := bs_beq y x
      clear hB hv hk
      by_cases hyx : y = x
      · rw [if_neg (by simpa using hyx)] at hlp
        rw [hlp]
        rw [show decide (y = x) = true by simpa using hyx] at hq
        replace hlp : Hid (_ = _) := hlp
        replace hyx : Hid (_ = _) := hyx
        replace hy : Hid (_ = _) := hy
        unfold castE
        refine calls_of_wp_marks Tryz.func38 rfl ?_
        simp only [Tryz.ntmps38, List.size_toArray, List.length_cons, List.length_nil, Nat.reduceAdd, Nat.reduceSub, Array.replicate_succ, Array.replicate_zero, List.push_toArray, List.append_toArray, List.nil_append, List.cons_append]
        go_wp2
        go_step3
        go_wp2_with fail
        refine (hinst.out _).mono ?_
        rintro e w1 ⟨rfl, rfl⟩
        go_wp2
        rw [Exit.noGoto_ret]
        exact end_mark0 (v := .tuple #[.string ⟨#[]⟩, .int .i64 0]) (by simp [results, Tryz.results38, go_sem]) ⟨rfl, ow, Step.of_below t ow (by (repeat (first | exact Below.refl _ _ | with_reducible assumption | refine pb_alloc ?_ _ | refine pb_drew ?_ | refine pb_drewN ?_ _ | refine pb_set ?_ (by simp; try omega) _ | refine pb_trans ?_ (by with_reducible assumption)))), (PaxAt.loc B p t).below h0.out (by (repeat (first | exact Below.refl _ _ | with_reducible assumption | refine pb_alloc ?_ _ | refine pb_drew ?_ | refine pb_drewN ?_ _ | refine pb_set ?_ (by simp; try omega) _ | refine pb_trans ?_ (by with_reducible assumption))))⟩
      · rw [if_pos (by simpa using hyx)] at hlp
        rw [hlp]
        rw [show decide (y = x) = false by simpa using hyx] at hq
        replace hlp : Hid (_ = _) := hlp
        replace hyx : Hid (_ → _) := hyx
        replace hy : Hid (_ = _) := hy
        unfold castE
        refine calls_of_wp_marks Tryz.func38 rfl ?_
        simp only [Tryz.ntmps38, List.size_toArray, List.length_cons, List.length_nil, Nat.reduceAdd, Nat.reduceSub, Array.replicate_succ, Array.replicate_zero, List.push_toArray, List.append_toArray, List.nil_append, List.cons_append]
        go_wp2
        go_step3
        go_wp2_with fail
        refine (hinst.out _).mono ?_
        rintro e w1 ⟨rfl, rfl⟩
        go_wp2
        rw [Exit.noGoto_ret]
        exact end_mark0 (v := .tuple #[.string ⟨#[]⟩, .int .i64 91]) (by simp [results, Tryz.results38, go_sem]) ⟨rfl, ow, Step.of_below t ow (by (repeat (first | exact Below.refl _ _ | with_reducible assumption | refine pb_alloc ?_ _ | refine pb_drew ?_ | refine pb_drewN ?_ _ | refine pb_set ?_ (by simp; try omega) _ | refine pb_trans ?_ (by with_reducible assumption)))), (PaxAt.loc B p t).below h0.out (by (repeat (first | exact Below.refl _ _ | with_reducible assumption | refine pb_alloc ?_ _ | refine pb_drew ?_ | refine pb_drewN ?_ _ | refine pb_set ?_ (by simp; try omega) _ | refine pb_trans ?_ (by with_reducible assumption))))⟩
    | none =>
      rw [hy] at hlk hlp
      simp only [Option.getD_none, Option.isSome_none] at hlk hlp
      obtain ⟨W1, hW1⟩ : ∃ W1, W1 = (w.alloc (.cells #[.pointer (some ⟨B, 0, none⟩)] 73)).alloc (.cells #[.string (bs [])] 142) := ⟨_, rfl⟩
      have hb1 : Below w.heap.size w W1 := by rw [hW1]; (repeat (first | exact Below.refl _ _ | with_reducible assumption | refine pb_alloc ?_ _ | refine pb_drew ?_ | refine pb_drewN ?_ _ | refine pb_set ?_ (by simp; try omega) _ | refine pb_trans ?_ (by with_reducible assumption)))
      obtain ⟨o, hu, hm⟩ := (hk.kept (hb1.block kb hk.lt)).update intKey Tryz.underlying135 i (learnedV x)
      rw [put_map] at hm
      unfold learnedV intV at hu
      have hkn := knownMap_nil_no kb
      replace hy : Hid (_ = _) := hy
      rw [hW1] at hu
      replace hm : Hid (MapAt _ _ _ _) := hm
      replace hv : Hid (MapAt _ _ _ _) := hv
      replace hk : Hid (MapAt _ _ _ _) := hk
      refine calls_of_wp_marks Tryz.func38 rfl ?_
      simp only [Tryz.ntmps38, List.size_toArray, List.length_cons, List.length_nil, Nat.reduceAdd, Nat.reduceSub, Array.replicate_succ, Array.replicate_zero, List.push_toArray, List.append_toArray, List.nil_append, List.cons_append]
      go_wp2
      go_step3
      go_wp2_with fail
      refine (hinst.out _).mono ?_
      rintro e w1 ⟨rfl, rfl⟩
      go_wp2
      obtain ⟨W2, hW2⟩ : ∃ W2, W2 = ((w.alloc (.cells #[.pointer (some ⟨B, 0, none⟩)] 73)).alloc (.cells #[.string (bs [])] 142)).putObj kb o := ⟨_, rfl⟩
      rw [← hW2]
      have hBk : B ≠ kb := hB.ne_map hk.out
      have hMw : Mod (fun k => k = kb) w W2 := by rw [hW2, ← hW1]; exact (Mod.of_below (fun k => k = kb) hb1).thenPut rfl o
      have kB2 : Blk W2 B #[.map (some vb), .map (some kb), .int .i64 (p.length : Nat), .int .i64 0] 137 := hB.mod hMw hBk
      have k02 : Blk W2 w.heap.size #[.pointer (some ⟨B, 0, none⟩)] 73 := by rw [hW2]; exact Blk.putObj (Blk.alloc (Blk.new rfl) _) (by have := hk.out.lt; omega) o
      have hm2 : MapAt W2 kb intV ((put i x p.known).map fun q => (q.1, learnedV q.2)) := by rw [hW2, ← hW1]; exact hm.out
      have hs2 : w.heap.size + 2 ≤ W2.heap.size := by rw [hW2]; simp
      clear hW2 hu hm hW1 hb1 e0 hlk
      obtain ⟨L, hL⟩ : ∃ L, reach (put i x p.known) 10000 p.length = L := ⟨_, rfl⟩
      have hL4 : L ≤ 10000 := by rw [← hL]; exact reach_le _ _ hl
      rw [hL] at hlp
      obtain ⟨rc, hrc⟩ : ∃ rc, recP 100 i x = rc := ⟨_, rfl⟩
      have hrec := fun g W hc => rec1_any 100 i hi0 x g W hc hx
      rw [hrc] at hrec hlp
      replace hrc : Hid (_ = _) := hrc
      replace hrec : Hid (∀ _, _) := hrec
      generalize put i x p.known = K at *
      go_step3
      have e2 := kB2.cell
      have c2 := k02.cell
      go_wp2_with fail
      refine (behind_any _ _).mono ?_
      rintro e w3 ⟨rfl, rfl⟩
      clear e2 c2
      go_wp2_with fail
      obtain ⟨W0, hW0⟩ : ∃ W0, W0 = W2.alloc (.cells #[.int .i64 (p.length : Nat)] 3) := ⟨_, rfl⟩
      have kB0 : Blk W0 B #[.map (some vb), .map (some kb), .int .i64 (p.length : Nat), .int .i64 0] 137 := by rw [hW0]; exact kB2.alloc _
      have k00 : Blk W0 w.heap.size #[.pointer (some ⟨B, 0, none⟩)] 73 := by rw [hW0]; exact k02.alloc _
      have kc0 : Blk W0 W2.heap.size #[.int .i64 (p.length : Nat)] 3 := by rw [hW0]; exact Blk.new rfl
      have hm0 : MapAt W0 kb intV (K.map fun q => (q.1, learnedV q.2)) := by rw [hW0]; exact hm2.kept (Below.heap_alloc _ _ _ hm2.lt)
      have hMw0 : Mod (fun k => k = kb) w W0 := by rw [hW0]; exact hMw.thenAlloc _
      rw [← hW0]
      clear hW0 kB2 k02 hm2 hMw
      have hsz0 : w.heap.size + 2 ≤ W0.heap.size := by have := kc0.lt; omega
      have hend : ∀ D X W, W0.heap.size ≤ D → Fr (fun k => k = B) W0 X W → Blk W B #[.map (some vb), .map (some kb), .int .i64 (L : Nat), .int .i64 0] 137 → ∀ w5, Below W.heap.size W w5 →
          PaxPost B (learnP p i x).1 t ow w (castE (learnP p i x).2) (.returned (.tuple #[.string (bs rc), .int .i64 0])) (w5.putObj D (.deferred none)) := by
        intro D X W hD hfr hBW w5 hb5
        rw [hlp]
        have hMW : Mod (fun k => k = B ∨ k = kb) w (w5.putObj D (.deferred none)) := by
          have h1 := (hMw0.trans hfr.2 (Z := fun k => k = B ∨ k = kb) (fun _ _ e => .inr e) (fun _ _ e => .inl e)).thenCall hb5
          exact ⟨h1.os, h1.tape, h1.output, by simpa using h1.size, fun k hk hn => (World.putObj_heap_other (by omega)).trans (h1.block k hk hn)⟩
        have hlw := hv.out.lt
        have hkw := hk.out.lt
        refine ⟨rfl, ow, ⟨hMW.mono (fun k _ e => by rcases e with e | e; subst e; rw [o1]; exact Sub.rfl' t; subst e; rw [o3]; exact Sub.rfl' t), fun _ _ => rfl⟩, hL4, vb, kb, ?_, ?_, ?_, hne, o1, o2, o3⟩
        · exact (hBW.call hb5).putObj (by omega) _
        · exact hv.out.kept (hMW.block vb hlw (fun e => by rcases e with e | e; exact hB.ne_map hv.out e.symm; exact hne e))
        · refine (hm0.kept (hfr.2.block kb hm0.lt (Ne.symm hBk))).kept ((World.putObj_heap_other (by omega)).trans (hb5.block kb ?_))
          have := hfr.2.size; omega
      replace hend : Hid (∀ _, _) := hend
      replace hlp : Hid (_ = _) := hlp
      refine wp_rangeVar (gf := 104) (lb := #[.pointer (some ⟨W2.heap.size, 0, none⟩)]) rfl (enters_of Tryz.func104 (by kernel_rfl) rfl)
        (behind_iter W2.heap.size p.length hl) (fun _ => rfl)
        (fun k X W => LearnI B vb kb K L W0 k X W)
        (fun c X W => c = .exit 0 ∧ Fr (fun k => k = B) W0 X W ∧ Blk W B #[.map (some vb), .map (some kb), .int .i64 (L : Nat), .int .i64 0] 137)
        (LearnI.stab kB0.lt)
        (fun c _ X X' W W' h hm hx => ⟨h.1, h.2.1.step hm hx, h.2.2.kept (h.2.1.block hm kB0.lt)⟩)
        (fun k X W h => kc0.mod h.1.2 (by omega))
        ⟨Fr.refl _ _, hl, ⟨10000, hL, by omega⟩, kB0⟩
        (fun k => [(10, .int .i64 (k : Nat))]) ?assign ?body ?done ?stop
      case assign =>
        intro l' y W K' hK
        rw [laidIn_one] at hK ⊢
        gi_wp2
        exact hK
      case body =>
        rintro l' k y X W ⟨hfr, hk4, ⟨n, hn, hnk⟩, hBW⟩ ⟨hk1, hyk⟩ hXl _
        rw [laidIn_one]
        have hmW := hm0.kept (hfr.2.block kb hm0.lt (Ne.symm hBk))
        have hlkW := hmW.lookup_ok intKey Tryz.underlying135 (learned_zero W) (y : Int)
        rw [look_map, Option.isSome_map, show ((look (y : Int) K).map learnedV).getD (learnedV []) = learnedV ((look (y : Int) K).getD []) by cases look (y : Int) K <;> rfl] at hlkW
        unfold learnedV intV at hlkW
        have k0W := k00.mod hfr.2 (by omega)
        have c0 := k0W.cell
        have l0W := k0W.lt
        have eW := hBW.cell
        have fW := hBW.frozen
        have lW := hBW.lt
        cases hlx : look (y : Int) K with
        | none =>
          rw [hlx] at hlkW
          simp only [Option.getD_none, Option.isSome_none] at hlkW
          have hst : k = L := by rw [← hn]; exact (reach_stop (.inl (by rw [hyk] at hlx; exact hlx)) n).symm
          subst hst
          replace hlx : Hid (_ = _) := hlx
          replace hyk : Hid (_ = _) := hyk
          replace hn : Hid (_ = _) := hn
          gi_wp2
          have hm' : Mod (fun _ => False) W (W.alloc (.cells #[.string (bs [])] 142)) := Mod.alloc _ _ _
          exact ⟨⟨rfl, hfr.mod hm' (fun _ _ h => h.elim), hBW.alloc _⟩, Saves.of_mod hm' (fun _ _ _ h => h)⟩
        | some z =>
          rw [hlx] at hlkW
          simp only [Option.getD_some, Option.isSome_some] at hlkW
          have hnx : reach K (n - 1) y = L := by
            obtain ⟨m, rfl⟩ : ∃ m, n = m + 1 := ⟨n - 1, by omega⟩
            rw [hyk] at hlx ⊢
            rw [← hn, reach_next (by rw [show ((k : Int) + 1) = ((k + 1 : Nat) : Int) by omega, hlx]; rfl) hk1]
            rfl
          replace hlx : Hid (_ = _) := hlx
          replace hyk : Hid (_ = _) := hyk
          replace hn : Hid (_ = _) := hn
          replace hnx : Hid (_ = _) := hnx
          gi_wp2
          have hm' : Mod (fun k => k = B) W ((W.setCell ⟨B, 2, none⟩ (.int .i64 (y : Nat))).alloc (.cells #[.string (bs z)] 142)) := ((Mod.refl (fun k => k = B) W).thenSet (p := ⟨B, 2, none⟩) rfl _).thenAlloc _
          obtain rfl := hyk.out
          exact ⟨⟨hfr.mod hm' (fun _ _ h => h), by omega, ⟨n - 1, hnx.out, by omega⟩, (hBW.set (o := 2) _).alloc _⟩, Saves.of_mod hm' (fun k hk hX e => by have := hfr.1 k hX; have := kB0.lt; omega)⟩
      case done =>
        rintro D k X W hD hXD hfin ⟨hfr, hk4, ⟨n, hn, hnk⟩, hBW⟩ hdef
        have hfin' : k = 10000 := hfin
        have hst : k = L := by rw [← hn]; exact (reach_stop (.inr (by omega)) n).symm
        subst hst
        replace hn : Hid (_ = _) := hn
        go_wp2_with fail
        refine (hrec.out _ _ (by simp)).mono ?_
        rintro e w5 ⟨rfl, hb5⟩
        go_wp2
        rw [Exit.noGoto_ret]
        have hb5' : Below W.heap.size W w5 := pb_trans (pb_alloc (Below.refl _ _) _) hb5
        have hdef5 : w5.heap[D]? = some (.deferred (some [])) := (hb5'.block D (Array.getElem?_eq_some_iff.1 hdef).1).trans hdef
        exact end_mark1 (D := D) (v := .tuple #[.string (bs rc), .int .i64 0]) hdef5 (by simp [results, Tryz.results38, go_sem]) (hend.out D X W hD hfr hBW w5 hb5')
      case stop =>
        rintro D c X W hD hXD ⟨rfl, hfr, hBW⟩ hdef
        go_wp2_with fail
        refine (hrec.out _ _ (by simp)).mono ?_
        rintro e w5 ⟨rfl, hb5⟩
        go_wp2
        rw [Exit.noGoto_ret]
        have hb5' : Below W.heap.size W w5 := pb_trans (pb_alloc (Below.refl _ _) _) hb5
        have hdef5 : w5.heap[D]? = some (.deferred (some [])) := (hb5'.block D (Array.getElem?_eq_some_iff.1 hdef).1).trans hdef
        exact end_mark1 (D := D) (v := .tuple #[.string (bs rc), .int .i64 0]) hdef5 (by simp [results, Tryz.results38, go_sem]) (hend.out D X W hD hfr hBW w5 hb5')
end Go.Proofs.YtaopeioebpfdeaaGreatDoor
