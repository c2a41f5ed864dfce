/- PROVED HERE: WALKS: crc's Step, each, More, Sum, Get, Seal, Open. Condition: the texts are no longer than Go lets them be. WALK: crc.Get. No condition. -/
import Derived.Laws.Concat
import Derived.Test.YtaopeioebpfdeaaGreatDoorK04
import Derived.Test.YtaopeioebpfdeaaGreatDoorK05
import Derived.Test.YtaopeioebpfdeaaGreatDoorK06
import Derived.Test.YtaopeioebpfdeaaGreatDoorK16
namespace Go.Proofs.YtaopeioebpfdeaaGreatDoor
open Go Go.RowKit Go.Shelf Go.Extern.Stop Go.Stop Go.Extern
attribute [local go_sem] Oper.semAt_some wide_fn wide_depth

set_option maxHeartbeats 400000 in
theorem step_any (s : Nat) (hs : s < 4294967296) (b : UInt8) (w : World) : Calls Tryz.prog 212 #[.int .u32 s, .int .u8 (b.toNat : Int)] w fun e w' => e = .returned (.int .u32 (crcStep s b : Nat)) ∧ w' = w := by
  have hb := b.toNat_lt
  have hx : s ^^^ b.toNat < 4294967296 := Nat.xor_lt_two_pow (n := 32) (by omega) (by omega)
  have h0 := bits_xor_u32 s b.toNat hs (by omega)
  have hwr : IntKind.u32.wrap (b.toNat : Int) = (b.toNat : Int) := by rw [IntKind.wrap_u32]; omega
  unfold crcStep
  generalize s ^^^ b.toNat = q at *
  generalize b.toNat = bn at *
  go_enter Tryz.func212, Tryz.ntmps212
  go_wp2
  go_loopw [0, 10] (fun p0 p10 W => ∃ k : Nat, k ≤ 8 ∧ p10 = .int .i64 k ∧ p0 = .int .u32 (crcBits k q : Nat) ∧ W = w) (fun _ p10 _ => 8 - (intOf p10).toNat)
  case atStart => exact ⟨0, by omega, rfl, by first | rfl | simp [crcBits], rfl⟩
  case round =>
    obtain ⟨k, hk, rfl, rfl, rfl⟩ := hrel
    have hlt := crcBits_lt k hx
    have hsucc := crcBits_succ k q
    have hrd := crc_round2 hlt
    by_cases h8 : k < 8
    · generalize crcBits k q = s' at *
      replace hsucc : Hid (_ = _) := hsucc
      replace h0 : Hid (_ = _) := h0
      replace hrd : Hid (_ = _) := hrd
      go_wp2
      go_roundw
      case rel => exact ⟨k + 1, by omega, by go_num, by rw [hrd.out, hsucc.out], by first | exact rfl | exact trivial⟩
      case measure => simp [intOf]; omega
    · have hk8 : k = 8 := by omega
      subst hk8
      go_wp2
      go_ret
      exact ⟨rfl, rfl⟩
theorem each_any (s : ByteArray) (w : World) : Calls Tryz.prog 130 #[.string s] w fun e w' =>
    e = .returned (.func (.func 157) #[] #[.pointer (some ⟨w.heap.size, 0, none⟩)]) ∧ w' = w.alloc (.cells #[.string s] 9) := by
  go_enter Tryz.func130, Tryz.ntmps130
  go_wp2
  go_ret
  exact ⟨rfl, rfl⟩
set_option maxHeartbeats 1000000 in
theorem each_iter (cb : Nat) (l : List UInt8) (hlen : l.length ≤ 1073741824) :
    Iter Fence.wide 2 Tryz.prog 157 #[.pointer (some ⟨cb, 0, none⟩)] (fun x : Nat × UInt8 => #[.int .i64 (x.1 : Nat), .int .u8 (x.2.toNat : Nat)])
      (fun (k : Nat) x => l[k]? = some x.2 ∧ x.1 = k) (fun k _ => k + 1) (fun k => k = l.length)
      (fun _ W => Blk W cb #[.string (bs l)] 9) 0 := by
  intro lp J Jx W hJ hJx hRd hY h0
  have r0 := hRd _ _ _ h0
  have e0 := r0.cell
  have hF : Fence.wide.fn 157 := trivial
  have hro : Fence.wide.round = none := rfl
  have hsz := bs_size l
  clear r0
  refine callsIn_of_wp Tryz.func157 rfl hF ?_ hro
  simp only [Tryz.ntmps157, List.size_toArray, List.length_cons, List.length_nil, Nat.reduceAdd, Nat.reduceSub, Array.replicate_succ, Array.replicate_zero, List.push_toArray, List.append_toArray, List.nil_append, List.cons_append]
  gi_wp2
  gi_loopw [6] (fun p wr => ∃ (k : Nat) (X : Nat → Prop), p = .int .i64 (k : Int) ∧ k ≤ l.length ∧ J k X wr) (fun p _ => l.length - (intOf p).toNat)
  case atStart => exact ⟨0, _, rfl, Nat.zero_le _, h0⟩
  case round =>
    obtain ⟨k, X, rfl, hk, hJs⟩ := hrel
    clear e0
    by_cases hlt : k < l.length
    · have hks : k < (bs l).size := by rw [hsz]; exact hlt
      have hx : l[k]? = some ((bs l)[k]) := by
        rw [List.getElem?_eq_getElem hlt]
        congr 1
      have e1 := (hRd _ _ _ hJs).cell
      obtain ⟨fn, tmps, assign, body, hy, hR⟩ := hY k (k, (bs l)[k]) X wr hJs ⟨hx, rfl⟩
      simp only at hy
      clear hx
      gi_wp2
      refine hR.mono ?_
      rintro e W' (⟨rfl, hJ', -⟩ | ⟨rfl, hx'⟩)
      · clear e1 hR hy
        gi_wp2
        go_roundw
        case rel => exact ⟨k + 1, _, by go_num, by omega, hJ'⟩
        case measure => simp [intOf]; omega
      · gi_wp2
        refine bodyPost_ret (results_none rfl _ _ _) rfl ?_
        exact ⟨⟨_, rfl⟩, .inr ⟨_, hx'⟩⟩
    · obtain rfl : k = l.length := by omega
      gi_wp2
      go_end0
      exact ⟨⟨_, rfl⟩, .inl ⟨l.length, X, rfl, hJs⟩⟩

/-- What More's loop keeps. -/
def MoreAt (l : List UInt8) (s0 : Nat) (pb : Nat) (W0 : World) (k : Nat) (X : Nat → Prop) (W : World) : Prop :=
  Fr (fun k => k = pb) W0 X W ∧ Blk W pb #[.int .u32 ((l.take k).foldl crcStep s0 : Nat)] 30
set_option maxHeartbeats 1000000 in
theorem more_any (s : Nat) (hs : s < 4294967296) (l : List UInt8) (hl : l.length ≤ 1073741824) (w : World) : Calls Tryz.prog 203 #[.int .u32 s, .string (bs l)] w fun e w' =>
    e = .returned (.int .u32 (4294967295 - l.foldl crcStep (4294967295 - s) : Nat)) ∧ Below w.heap.size w w' := by
  have hx := not_u32 s hs
  obtain ⟨s0, hs0⟩ : ∃ s0, 4294967295 - s = s0 := ⟨_, rfl⟩
  rw [hs0] at hx ⊢
  have hs0' : s0 < 4294967296 := by omega
  replace hs0 : Hid (_ = _) := hs0
  refine calls_of_wp_marks Tryz.func203 rfl ?_
  simp only [Tryz.ntmps203, List.size_toArray, List.length_cons, List.length_nil, Nat.reduceAdd, Nat.reduceSub, Array.replicate_succ, Array.replicate_zero, List.push_toArray, List.append_toArray, List.nil_append, List.cons_append]
  go_wp2_with fail
  refine (each_any _ _).mono ?_
  rintro e w1 ⟨rfl, rfl⟩
  go_wp2_with fail
  obtain ⟨W0, hW0⟩ : ∃ W0, W0 = ((w.alloc (.cells #[.int .u32 (s0 : Int)] 30)).alloc (.cells #[.string (bs l)] 9)) := ⟨_, rfl⟩
  have hb0 : Below w.heap.size w W0 := by rw [hW0]; (repeat (first | exact Below.refl _ _ | with_reducible assumption | refine pb_alloc ?_ _ | refine pb_drew ?_ | refine pb_drewN ?_ _ | refine pb_set ?_ (by simp; try omega) _ | refine pb_trans ?_ (by with_reducible assumption)))
  have hsz : W0.heap.size = w.heap.size + 2 := by rw [hW0]; simp
  have kp : Blk W0 w.heap.size #[.int .u32 (s0 : Int)] 30 := by rw [hW0]; (repeat (first | with_reducible assumption | (refine Blk.new ?_; simp; done) | refine Blk.alloc ?_ _ | refine Blk.drew ?_ | refine Blk.drewN ?_ _ | refine Blk.call ?_ (by with_reducible assumption)))
  have kc : Blk W0 (w.heap.size + 1) #[.string (bs l)] 9 := by rw [hW0]; exact Blk.new (by simp)
  rw [← hW0]
  clear hW0 hx
  refine wp_rangeVar (gf := 157) (lb := #[.pointer (some ⟨w.heap.size + 1, 0, none⟩)]) rfl (enters_of Tryz.func157 (by kernel_rfl) rfl)
      (each_iter (w.heap.size + 1) l hl) (fun _ => rfl)
      (fun k X W => MoreAt l s0 w.heap.size W0 k X W) (fun c X W => False)
      (fun k X X' W W' h hm hx => ⟨h.1.step hm hx, h.2.kept (h.1.block hm (by omega))⟩)
      (fun c s X X' W W' h hm hx => h)
      (fun k X W h => kc.mod h.1.2 (by omega))
      ⟨Fr.refl _ _, kp⟩
      (fun x => [(6, .int .u8 (x.2.toNat : Int))]) ?assign ?body ?done ?stop
  case assign =>
    intro l' x W K hK
    rw [laidIn_two] at hK ⊢
    gi_wp2
    exact hK
  case body =>
    rintro l' k ⟨q, x⟩ X W ⟨hfr, kb⟩ ⟨hx, rfl⟩ hXl _
    rw [laidIn_two]
    have hkl := (List.getElem?_eq_some_iff.1 hx).1
    have hlt := crcFold_lt (l.take q) hs0'
    have htk : (l.take (q + 1)).foldl crcStep s0 = crcStep ((l.take q).foldl crcStep s0) x := by rw [List.take_add_one, hx]; simp [List.foldl_append]
    have e0 := kb.cell
    have f0 := kb.frozen
    have l0 := kb.lt
    generalize (l.take q).foldl crcStep s0 = s' at *
    replace htk : Hid (_ = _) := htk
    replace hx : Hid (_ = _) := hx
    gi_wp2_with (gi_at_call 212; refine (inRound _ _ (step_any s' hlt x _)).mono ?_; rintro e w1 ⟨rfl, rfl⟩)
    have hm : Mod (fun k => k = w.heap.size) w1 (w1.setCell ⟨w.heap.size, 0, none⟩ (.int .u32 (crcStep s' x : Nat))) := Mod.setCell w1 _ _ rfl
    exact ⟨⟨hfr.mod hm (fun k _ h => h), by rw [htk.out]; exact kb.set _⟩, Saves.of_mod hm (fun k _ hX he => by have := hfr.1 k hX; omega)⟩
  case done =>
    rintro D k X W hD hXD hfin ⟨hfr, kb⟩ hdef
    obtain rfl : k = l.length := hfin
    rw [List.take_length] at kb
    have hlt := crcFold_lt l hs0'
    have hn := not_u32 _ hlt
    have e0 := kb.cell
    have hbW : Below w.heap.size w W := hb0.trans (hfr.below (by omega) (fun k h => by omega))
    obtain ⟨s', hs'⟩ : ∃ s', l.foldl crcStep s0 = s' := ⟨_, rfl⟩
    rw [hs'] at e0 hn
    replace hs' : Hid (_ = _) := hs'
    go_wp2
    exact end_mark1 (D := D) (v := .int .u32 (4294967295 - s' : Nat)) hdef (by simp [results, Tryz.results203, go_sem]) ⟨by rw [hs'.out], below_putObj hbW (by omega) _⟩
  case stop => rintro D c X W hD hXD h; exact h.elim
theorem sum_any (l : List UInt8) (hl : l.length ≤ 1073741824) (w : World) : Calls Tryz.prog 185 #[.string (bs l)] w fun e w' => e = .returned (.int .u32 (crcP l : Nat)) ∧ Below w.heap.size w w' := by
  have hm := fun W => more_any 0 (by omega) l hl W
  have hc : 4294967295 - l.foldl crcStep (4294967295 - 0) = crcP l := rfl
  rw [hc] at hm
  replace hm : Hid (∀ _, _) := hm
  clear hc
  go_enter Tryz.func185, Tryz.ntmps185
  go_wp2_with fail
  refine (hm.out _).mono ?_
  rintro e w1 ⟨rfl, hb1⟩
  go_wp2
  go_ret
  exact ⟨rfl, hb1⟩
theorem bs_add (a b : List UInt8) (h : a.length + b.length ≤ 9223372036854775807) (w : World) : (Op.stringOp .add (bs a) (bs b)).run Tryz.prog w = .ok (.string (bs (a ++ b))) w := by
  rw [run_string_add_sum w (bs a) (bs b) (by rw [bs_size, bs_size]; exact h), bs_cat]
theorem seal_any (l : List UInt8) (hl : l.length ≤ 1073741823) (w : World) : Calls Tryz.prog 153 #[.string (bs l)] w fun e w' => e = .returned (.string (bs (sealP l))) ∧ Below w.heap.size w w' := by
  have hadd := bs_add l (le4 (crcP l)) (by rw [le4_length]; omega)
  go_enter Tryz.func153, Tryz.ntmps153
  go_wp2_with fail
  refine (sum_any l (by omega) _).mono ?_
  rintro e w1 ⟨rfl, hb1⟩
  go_wp2_with fail
  refine (put_any _ _).mono ?_
  rintro e w2 ⟨rfl, hb2⟩
  go_wp2
  go_ret
  exact ⟨rfl, pb_trans hb1 hb2⟩
theorem bs_beq (a b : List UInt8) : ((bs a).toList == (bs b).toList) = decide (a = b) := by
  rw [bs_toList, bs_toList]
  by_cases h : a = b
  · simp [h]
  · simp [h]
/-- What Open comes to. -/
def openV (r : Option (List UInt8)) : Value := match r with | none => .tuple #[.string ⟨#[]⟩, .bool false] | some b => .tuple #[.string (bs b), .bool true]
set_option maxHeartbeats 1000000 in
theorem open_any (l : List UInt8) (hl : l.length ≤ 1073741824) (w : World) : Calls Tryz.prog 172 #[.string (bs l)] w fun e w' => e = .returned (openV (openP l)) ∧ Below w.heap.size w w' := by
  have hsz := bs_size l
  by_cases h4 : l.length < 4
  · have ho : openP l = none := by unfold openP; rw [if_pos h4]
    rw [ho]
    have t0 : decide (((bs l).size : Int) < 4) = true := by rw [hsz]; simp; omega
    replace hsz : Hid (_ = _) := hsz
    go_enter Tryz.func172, Tryz.ntmps172
    go_wp2
    go_ret2
    exact ⟨rfl, Below.refl _ _⟩
  · have t0 : decide (((bs l).size : Int) < 4) = false := by rw [hsz]; simp; omega
    have ho : openP l = if l.drop (l.length - 4) = le4 (crcP (l.take (l.length - 4))) then some (l.take (l.length - 4)) else none := by unfold openP; rw [if_neg h4]
    have hex := extract_take l (l.length - 4)
    have hdx : (bs l).extract (l.length - 4) l.length = bs (l.drop (l.length - 4)) := by have := extract_drop l (l.length - 4); rwa [hsz] at this
    have htl : (l.take (l.length - 4)).length = l.length - 4 := by simp
    have hsz2 := bs_size (l.take (l.length - 4))
    rw [htl] at hsz2
    have hwr : (((l.length : Int) - 4).toNat) = l.length - 4 := by omega
    have y0 : (4 : Int) ≤ (l.length : Int) := by omega
    have y1 : (l.length : Int) ≤ 1073741824 := by omega
    generalize l.take (l.length - 4) = body at *
    generalize l.drop (l.length - 4) = tail at *
    have hsum := fun W => sum_any body (by omega) W
    replace hsum : Hid (∀ _, _) := hsum
    have hq := bs_beq tail (le4 (crcP body))
    by_cases heq : tail = le4 (crcP body)
    · rw [show openV (openP l) = .tuple #[.string (bs body), .bool true] by rw [ho, if_pos heq]; rfl]
      rw [show decide (tail = le4 (crcP body)) = true by simpa using heq] at hq
      replace ho : Hid (_ = _) := ho
      replace heq : Hid (_ = _) := heq
      rw [← hsz] at *
      go_enter Tryz.func172, Tryz.ntmps172
      go_wp2_with fail
      refine wp_region_sched [(0, true), (1, true), (2, true), (3, true), (4, true), (5, false), (6, false), (7, true)] none (fun w' => True) (by kernel_rfl) (by kernel_rfl) trivial ?_
      (repeat (refine wpSched_quiet (v := ?_) rfl rfl (fun w' hS => ?_) (fun K hK => ?_); rotate_left; (focus ((try have e1 := hS.1.cell); (try have e2 := hS.2.1.cell); (try have e3 := hS.2.2.1.cell); (try have e4 := hS.2.2.2.1.cell); (try have f1 := hS.1); (try have f2 := hS.2.1); (try have f3 := hS.2.2.1); (try have f4 := hS.2.2.2.1); (try have f5 := hS.2.2.2.2.1); clear hS; go_simp; (try with_reducible rfl))); (go_simp; refine hK _ ?_; clear hK K)))
      refine wpSched_loud rfl (fun K hK => ?_)
      go_wp2_with fail
      refine (hsum.out _).mono ?_
      rintro e w1 ⟨rfl, hb1⟩
      go_wp2
      refine hK.out _ _ (fun _ => trivial) ?_
      clear hK K
      refine wpSched_loud rfl (fun K hK => ?_)
      go_wp2_with fail
      refine (put_any _ _).mono ?_
      rintro e w2 ⟨rfl, hb2⟩
      go_wp2
      refine hK.out _ _ (fun _ => trivial) ?_
      clear hK K
      have hbw : Below w.heap.size w w2 := pb_trans (pb_trans (pb_drew (Below.refl _ _)) hb1) hb2
      (repeat (refine wpSched_quiet (v := ?_) rfl rfl (fun w' hS => ?_) (fun K hK => ?_); rotate_left; (focus ((try have e1 := hS.1.cell); (try have e2 := hS.2.1.cell); (try have e3 := hS.2.2.1.cell); (try have e4 := hS.2.2.2.1.cell); (try have f1 := hS.1); (try have f2 := hS.2.1); (try have f3 := hS.2.2.1); (try have f4 := hS.2.2.2.1); (try have f5 := hS.2.2.2.2.1); clear hS; go_simp; (try with_reducible rfl))); (go_simp; refine hK _ ?_; clear hK K)))
      refine wpSched_nil ?_
      go_wp2
      go_ret2
      exact ⟨rfl, hbw⟩
    · rw [show openV (openP l) = .tuple #[.string ⟨#[]⟩, .bool false] by rw [ho, if_neg heq]; rfl]
      rw [show decide (tail = le4 (crcP body)) = false by simpa using heq] at hq
      replace ho : Hid (_ = _) := ho
      replace heq : Hid (_ → _) := heq
      rw [← hsz] at *
      go_enter Tryz.func172, Tryz.ntmps172
      go_wp2_with fail
      refine wp_region_sched [(0, true), (1, true), (2, true), (3, true), (4, true), (5, false), (6, false), (7, true)] none (fun w' => True) (by kernel_rfl) (by kernel_rfl) trivial ?_
      (repeat (refine wpSched_quiet (v := ?_) rfl rfl (fun w' hS => ?_) (fun K hK => ?_); rotate_left; (focus ((try have e1 := hS.1.cell); (try have e2 := hS.2.1.cell); (try have e3 := hS.2.2.1.cell); (try have e4 := hS.2.2.2.1.cell); (try have f1 := hS.1); (try have f2 := hS.2.1); (try have f3 := hS.2.2.1); (try have f4 := hS.2.2.2.1); (try have f5 := hS.2.2.2.2.1); clear hS; go_simp; (try with_reducible rfl))); (go_simp; refine hK _ ?_; clear hK K)))
      refine wpSched_loud rfl (fun K hK => ?_)
      go_wp2_with fail
      refine (hsum.out _).mono ?_
      rintro e w1 ⟨rfl, hb1⟩
      go_wp2
      refine hK.out _ _ (fun _ => trivial) ?_
      clear hK K
      refine wpSched_loud rfl (fun K hK => ?_)
      go_wp2_with fail
      refine (put_any _ _).mono ?_
      rintro e w2 ⟨rfl, hb2⟩
      go_wp2
      refine hK.out _ _ (fun _ => trivial) ?_
      clear hK K
      have hbw : Below w.heap.size w w2 := pb_trans (pb_trans (pb_drew (Below.refl _ _)) hb1) hb2
      (repeat (refine wpSched_quiet (v := ?_) rfl rfl (fun w' hS => ?_) (fun K hK => ?_); rotate_left; (focus ((try have e1 := hS.1.cell); (try have e2 := hS.2.1.cell); (try have e3 := hS.2.2.1.cell); (try have e4 := hS.2.2.2.1.cell); (try have f1 := hS.1); (try have f2 := hS.2.1); (try have f3 := hS.2.2.1); (try have f4 := hS.2.2.2.1); (try have f5 := hS.2.2.2.2.1); clear hS; go_simp; (try with_reducible rfl))); (go_simp; refine hK _ ?_; clear hK K)))
      refine wpSched_nil ?_
      go_wp2
      go_ret2
      exact ⟨rfl, hbw⟩

end Go.Proofs.YtaopeioebpfdeaaGreatDoor
namespace Go.Proofs.YtaopeioebpfdeaaGreatDoor
open Go Go.RowKit Go.Shelf Go.Extern.Stop Go.Stop Go.Extern
attribute [local go_sem] Oper.semAt_some wide_fn wide_depth

/-- What Get comes to. -/
def getV (l : List UInt8) : Value := .tuple #[.int .u32 (getP l : Nat), .int .i64 (if l.length = 4 then 0 else 2)]
/-- The number of the bytes so far. -/
def getN (l : List UInt8) : Nat := l.foldr (fun b n => b.toNat + 256 * n) 0
theorem getN_snoc (l : List UInt8) (b : UInt8) : getN (l ++ [b]) = getN l + 256 ^ l.length * b.toNat := by
  induction l with
  | nil => simp [getN]
  | cons x l ih =>
    have h1 : getN (x :: l ++ [b]) = x.toNat + 256 * getN (l ++ [b]) := rfl
    have h2 : getN (x :: l) = x.toNat + 256 * getN l := rfl
    rw [h1, h2, ih, List.length_cons, Nat.pow_succ, Nat.mul_add]
    rw [Nat.add_assoc, Nat.mul_comm (256 ^ l.length) 256, Nat.mul_assoc]
theorem getN_lt (l : List UInt8) : getN l < 256 ^ l.length := by
  induction l with
  | nil => simp [getN]
  | cons x l ih =>
    have h2 : getN (x :: l) = x.toNat + 256 * getN l := rfl
    have := x.toNat_lt
    rw [h2, List.length_cons, Nat.pow_succ]
    omega

theorem get_or (s x i : Nat) (hs : s < 2 ^ i) (hx : x < 256) (hi : i ≤ 24) : bits .or .u32 (s : Int) (IntKind.u32.wrap ((x : Int) * ((2 ^ i : Nat) : Int))) = ((s + 2 ^ i * x : Nat) : Int) := by
  have h1 : 2 ^ i ≤ 2 ^ 24 := Nat.pow_le_pow_right (by decide) hi
  have h2 : x * 2 ^ i ≤ 255 * 2 ^ 24 := Nat.mul_le_mul (by omega) h1
  have h3 : IntKind.u32.wrap ((x : Int) * ((2 ^ i : Nat) : Int)) = ((x * 2 ^ i : Nat) : Int) := by
    rw [IntKind.wrap_u32, ← Int.natCast_mul]; omega
  have h4 := Nat.two_pow_add_eq_or_of_lt hs x
  rw [h3, bits_or_u32 s _ (by omega) (by omega), Nat.mul_comm x, Nat.add_comm, h4, Nat.or_comm]

/-- What Get's loop keeps. -/
def GetAt (l : List UInt8) (pb : Nat) (W0 : World) (k : Nat) (X : Nat → Prop) (W : World) : Prop :=
  Fr (fun k => k = pb) W0 X W ∧ Blk W pb #[.int .u32 (getN (l.take k) : Nat)] 30
set_option maxHeartbeats 1000000 in
theorem get_any (l : List UInt8) (hl : l.length ≤ 1073741824) (w : World) : Calls Tryz.prog 105 #[.string (bs l)] w fun e w' => e = .returned (getV l) ∧ Below w.heap.size w w' := by
  have hsz := bs_size l
  unfold getV getP
  by_cases h4 : l.length = 4
  · rw [if_pos h4, if_pos h4]
    have t0 : (((bs l).size : Int) != 4) = false := by rw [hsz, h4]; rfl
    replace hsz : Hid (_ = _) := hsz
    replace h4 : Hid (_ = _) := h4
    refine calls_of_wp_marks Tryz.func105 rfl ?_
    simp only [Tryz.ntmps105, List.size_toArray, List.length_cons, List.length_nil, Nat.reduceAdd, Nat.reduceSub, Array.replicate_succ, Array.replicate_zero, List.push_toArray, List.append_toArray, List.nil_append, List.cons_append]
    go_wp2_with fail
    refine (each_any _ _).mono ?_
    rintro e w1 ⟨rfl, rfl⟩
    go_wp2_with fail
    obtain ⟨W0, hW0⟩ : ∃ W0, W0 = ((w.alloc (.cells #[.int .u32 0] 30)).alloc (.cells #[.string (bs l)] 9)) := ⟨_, rfl⟩
    have hb0 : Below w.heap.size w W0 := by rw [hW0]; (repeat (first | exact Below.refl _ _ | with_reducible assumption | refine pb_alloc ?_ _ | refine pb_drew ?_ | refine pb_drewN ?_ _ | refine pb_set ?_ (by simp; try omega) _ | refine pb_trans ?_ (by with_reducible assumption)))
    have hsz0 : W0.heap.size = w.heap.size + 2 := by rw [hW0]; simp
    have kp : Blk W0 w.heap.size #[.int .u32 0] 30 := by rw [hW0]; (repeat (first | with_reducible assumption | (refine Blk.new ?_; simp; done) | refine Blk.alloc ?_ _ | refine Blk.drew ?_ | refine Blk.drewN ?_ _ | refine Blk.call ?_ (by with_reducible assumption)))
    have kc : Blk W0 (w.heap.size + 1) #[.string (bs l)] 9 := by rw [hW0]; exact Blk.new (by simp)
    rw [← hW0]
    clear hW0
    refine wp_rangeVar (gf := 157) (lb := #[.pointer (some ⟨w.heap.size + 1, 0, none⟩)]) rfl (enters_of Tryz.func157 (by kernel_rfl) rfl)
        (each_iter (w.heap.size + 1) l hl) (fun _ => rfl)
        (fun k X W => GetAt l w.heap.size W0 k X W) (fun c X W => False)
        (fun k X X' W W' h hm hx => ⟨h.1.step hm hx, h.2.kept (h.1.block hm (by omega))⟩)
        (fun c s X X' W W' h hm hx => h)
        (fun k X W h => kc.mod h.1.2 (by omega))
        ⟨Fr.refl _ _, kp⟩
        (fun x => [(5, .int .i64 (x.1 : Int)), (6, .int .u8 (x.2.toNat : Int))]) ?assign ?body ?done ?stop
    case assign =>
      intro l' x W K hK
      rw [laidIn_two] at hK ⊢
      gi_wp2
      exact hK
    case body =>
      rintro l' k ⟨q, x⟩ X W ⟨hfr, kb⟩ ⟨hx, rfl⟩ hXl _
      rw [laidIn_two]
      have hkl := (List.getElem?_eq_some_iff.1 hx).1
      have hlt := getN_lt (l.take q)
      have htk : getN (l.take (q + 1)) = getN (l.take q) + 256 ^ q * x.toNat := by
        rw [List.take_add_one, hx]
        show getN (l.take q ++ [x]) = _
        rw [getN_snoc, List.length_take, Nat.min_eq_left (by omega)]
      have hq4 : q < 4 := by have := h4.out; omega
      have e0 := kb.cell
      rcases (by omega : q = 0 ∨ q = 1 ∨ q = 2 ∨ q = 3) with rfl | rfl | rfl | rfl
      ·
        generalize getN (l.take 0) = s' at *
        replace htk : Hid (_ = _) := htk
        replace hx : Hid (_ = _) := hx
        have hxl := x.toNat_lt
        have hw1 : IntKind.u32.wrap (x.toNat : Int) = (x.toNat : Int) := by rw [IntKind.wrap_u32]; omega
        gi_wp2_with fail
        refine wpIn_region_sched [(0, true), (1, true), (2, true), (3, true), (4, true), (5, true), (6, true), (7, false)] (some 7) (fun w' => Blk w' w.heap.size #[.int .u32 s'] 30 ∧ True) (by kernel_rfl) (by kernel_rfl) ⟨kb.drew, trivial⟩ ?_
        clear e0
        have hs2 : s' < 2 ^ 0 := by rw [List.length_take, h4.out] at hlt; exact Nat.lt_of_lt_of_le hlt (by decide)
        have hor0 := get_or s' x.toNat 0 hs2 (by omega) (by omega)
        clear hs2
        have hor : bits .or .u32 (s' : Int) (x.toNat:Int) = ((s' + 2 ^ 0 * x.toNat : Nat) : Int) := by
          have hp : ((2 ^ 0 : Nat) : Int) = 1 := by decide
          rw [hp] at hor0
          first
          | exact hor0
          | (rw [Int.mul_one, hw1] at hor0; exact hor0)
        clear hor0
        replace hor : Hid (_ = _) := hor
        have hw2 : IntKind.i64.wrap 0 = 0 := by decide
        (repeat (refine wpSched_quiet (v := ?_) rfl rfl (fun w' hS => ?_) (fun K hK => ?_); rotate_left; (focus ((try have e1 := hS.1.cell); (try have e2 := hS.2.1.cell); (try have e3 := hS.2.2.1.cell); (try have e4 := hS.2.2.2.1.cell); (try have f1 := hS.1); (try have f2 := hS.2.1); (try have f3 := hS.2.2.1); (try have f4 := hS.2.2.2.1); (try have f5 := hS.2.2.2.2.1); clear hS; go_simp; (try with_reducible rfl))); (go_simp; refine hK _ ?_; clear hK K)))
        rw [hor.out]
        refine wpSched_loud rfl (fun K hK => ?_)
        have e1 := kb.drew.cell
        have f1 := kb.drew.frozen
        have l1 := kb.drew.lt
        go_wp2
        refine hK.out _ _ (fun hh => absurd rfl hh) ?_
        clear hK
        refine wpSched_nil ?_
        have hv : ((s' : Nat) : Int) + (x.toNat:Int) = ((getN (l.take (0 + 1)) : Nat) : Int) := by rw [htk.out, (by decide : 256 ^ 0 = 1)]; omega
        rw [hv]
        have hm : Mod (fun k => k = w.heap.size) W (W.setCell ⟨w.heap.size, 0, none⟩ (.int .u32 (getN (l.take (0 + 1)) : Nat))).drew := (Mod.setCell (X := fun k => k = w.heap.size) W _ _ rfl).trans (Mod.drew (fun _ => False) _) (fun _ _ h => h) (fun _ _ h => h.elim)
        exact ⟨⟨hfr.mod hm (fun k _ h => h), (kb.set _).drew⟩, Saves.of_mod hm (fun k _ hX he => by have := hfr.1 k hX; omega)⟩
      ·
        generalize getN (l.take 1) = s' at *
        replace htk : Hid (_ = _) := htk
        replace hx : Hid (_ = _) := hx
        have hxl := x.toNat_lt
        have hw1 : IntKind.u32.wrap (x.toNat : Int) = (x.toNat : Int) := by rw [IntKind.wrap_u32]; omega
        gi_wp2_with fail
        refine wpIn_region_sched [(0, true), (1, true), (2, true), (3, true), (4, true), (5, true), (6, true), (7, false)] (some 7) (fun w' => Blk w' w.heap.size #[.int .u32 s'] 30 ∧ True) (by kernel_rfl) (by kernel_rfl) ⟨kb.drew, trivial⟩ ?_
        clear e0
        have hs2 : s' < 2 ^ 8 := by rw [List.length_take, h4.out] at hlt; exact Nat.lt_of_lt_of_le hlt (by decide)
        have hor0 := get_or s' x.toNat 8 hs2 (by omega) (by omega)
        clear hs2
        have hor : bits .or .u32 (s' : Int) (IntKind.u32.wrap<|(x.toNat:Int)*256) = ((s' + 2 ^ 8 * x.toNat : Nat) : Int) := by
          have hp : ((2 ^ 8 : Nat) : Int) = 256 := by decide
          rw [hp] at hor0
          first
          | exact hor0
          | (rw [Int.mul_one, hw1] at hor0; exact hor0)
        clear hor0
        replace hor : Hid (_ = _) := hor
        have hw2 : IntKind.i64.wrap 8 = 8 := by decide
        (repeat (refine wpSched_quiet (v := ?_) rfl rfl (fun w' hS => ?_) (fun K hK => ?_); rotate_left; (focus ((try have e1 := hS.1.cell); (try have e2 := hS.2.1.cell); (try have e3 := hS.2.2.1.cell); (try have e4 := hS.2.2.2.1.cell); (try have f1 := hS.1); (try have f2 := hS.2.1); (try have f3 := hS.2.2.1); (try have f4 := hS.2.2.2.1); (try have f5 := hS.2.2.2.2.1); clear hS; go_simp; (try with_reducible rfl))); (go_simp; refine hK _ ?_; clear hK K)))
        rw [hor.out]
        refine wpSched_loud rfl (fun K hK => ?_)
        have e1 := kb.drew.cell
        have f1 := kb.drew.frozen
        have l1 := kb.drew.lt
        go_wp2
        refine hK.out _ _ (fun hh => absurd rfl hh) ?_
        clear hK
        refine wpSched_nil ?_
        have hv : ((s' : Nat) : Int) + 256*(x.toNat:Int) = ((getN (l.take (1 + 1)) : Nat) : Int) := by rw [htk.out, (by decide : 256 ^ 1 = 256)]; omega
        rw [hv]
        have hm : Mod (fun k => k = w.heap.size) W (W.setCell ⟨w.heap.size, 0, none⟩ (.int .u32 (getN (l.take (1 + 1)) : Nat))).drew := (Mod.setCell (X := fun k => k = w.heap.size) W _ _ rfl).trans (Mod.drew (fun _ => False) _) (fun _ _ h => h) (fun _ _ h => h.elim)
        exact ⟨⟨hfr.mod hm (fun k _ h => h), (kb.set _).drew⟩, Saves.of_mod hm (fun k _ hX he => by have := hfr.1 k hX; omega)⟩
      ·
        generalize getN (l.take 2) = s' at *
        replace htk : Hid (_ = _) := htk
        replace hx : Hid (_ = _) := hx
        have hxl := x.toNat_lt
        have hw1 : IntKind.u32.wrap (x.toNat : Int) = (x.toNat : Int) := by rw [IntKind.wrap_u32]; omega
        gi_wp2_with fail
        refine wpIn_region_sched [(0, true), (1, true), (2, true), (3, true), (4, true), (5, true), (6, true), (7, false)] (some 7) (fun w' => Blk w' w.heap.size #[.int .u32 s'] 30 ∧ True) (by kernel_rfl) (by kernel_rfl) ⟨kb.drew, trivial⟩ ?_
        clear e0
        have hs2 : s' < 2 ^ 16 := by rw [List.length_take, h4.out] at hlt; exact Nat.lt_of_lt_of_le hlt (by decide)
        have hor0 := get_or s' x.toNat 16 hs2 (by omega) (by omega)
        clear hs2
        have hor : bits .or .u32 (s' : Int) (IntKind.u32.wrap<|(x.toNat:Int)*65536) = ((s' + 2 ^ 16 * x.toNat : Nat) : Int) := by
          have hp : ((2 ^ 16 : Nat) : Int) = 65536 := by decide
          rw [hp] at hor0
          first
          | exact hor0
          | (rw [Int.mul_one, hw1] at hor0; exact hor0)
        clear hor0
        replace hor : Hid (_ = _) := hor
        have hw2 : IntKind.i64.wrap 16 = 16 := by decide
        (repeat (refine wpSched_quiet (v := ?_) rfl rfl (fun w' hS => ?_) (fun K hK => ?_); rotate_left; (focus ((try have e1 := hS.1.cell); (try have e2 := hS.2.1.cell); (try have e3 := hS.2.2.1.cell); (try have e4 := hS.2.2.2.1.cell); (try have f1 := hS.1); (try have f2 := hS.2.1); (try have f3 := hS.2.2.1); (try have f4 := hS.2.2.2.1); (try have f5 := hS.2.2.2.2.1); clear hS; go_simp; (try with_reducible rfl))); (go_simp; refine hK _ ?_; clear hK K)))
        rw [hor.out]
        refine wpSched_loud rfl (fun K hK => ?_)
        have e1 := kb.drew.cell
        have f1 := kb.drew.frozen
        have l1 := kb.drew.lt
        go_wp2
        refine hK.out _ _ (fun hh => absurd rfl hh) ?_
        clear hK
        refine wpSched_nil ?_
        have hv : ((s' : Nat) : Int) + 65536*(x.toNat:Int) = ((getN (l.take (2 + 1)) : Nat) : Int) := by rw [htk.out, (by decide : 256 ^ 2 = 65536)]; omega
        rw [hv]
        have hm : Mod (fun k => k = w.heap.size) W (W.setCell ⟨w.heap.size, 0, none⟩ (.int .u32 (getN (l.take (2 + 1)) : Nat))).drew := (Mod.setCell (X := fun k => k = w.heap.size) W _ _ rfl).trans (Mod.drew (fun _ => False) _) (fun _ _ h => h) (fun _ _ h => h.elim)
        exact ⟨⟨hfr.mod hm (fun k _ h => h), (kb.set _).drew⟩, Saves.of_mod hm (fun k _ hX he => by have := hfr.1 k hX; omega)⟩
      ·
        generalize getN (l.take 3) = s' at *
        replace htk : Hid (_ = _) := htk
        replace hx : Hid (_ = _) := hx
        have hxl := x.toNat_lt
        have hw1 : IntKind.u32.wrap (x.toNat : Int) = (x.toNat : Int) := by rw [IntKind.wrap_u32]; omega
        gi_wp2_with fail
        refine wpIn_region_sched [(0, true), (1, true), (2, true), (3, true), (4, true), (5, true), (6, true), (7, false)] (some 7) (fun w' => Blk w' w.heap.size #[.int .u32 s'] 30 ∧ True) (by kernel_rfl) (by kernel_rfl) ⟨kb.drew, trivial⟩ ?_
        clear e0
        have hs2 : s' < 2 ^ 24 := by rw [List.length_take, h4.out] at hlt; exact Nat.lt_of_lt_of_le hlt (by decide)
        have hor0 := get_or s' x.toNat 24 hs2 (by omega) (by omega)
        clear hs2
        have hor : bits .or .u32 (s' : Int) (IntKind.u32.wrap<|(x.toNat:Int)*16777216) = ((s' + 2 ^ 24 * x.toNat : Nat) : Int) := by
          have hp : ((2 ^ 24 : Nat) : Int) = 16777216 := by decide
          rw [hp] at hor0
          first
          | exact hor0
          | (rw [Int.mul_one, hw1] at hor0; exact hor0)
        clear hor0
        replace hor : Hid (_ = _) := hor
        have hw2 : IntKind.i64.wrap 24 = 24 := by decide
        (repeat (refine wpSched_quiet (v := ?_) rfl rfl (fun w' hS => ?_) (fun K hK => ?_); rotate_left; (focus ((try have e1 := hS.1.cell); (try have e2 := hS.2.1.cell); (try have e3 := hS.2.2.1.cell); (try have e4 := hS.2.2.2.1.cell); (try have f1 := hS.1); (try have f2 := hS.2.1); (try have f3 := hS.2.2.1); (try have f4 := hS.2.2.2.1); (try have f5 := hS.2.2.2.2.1); clear hS; go_simp; (try with_reducible rfl))); (go_simp; refine hK _ ?_; clear hK K)))
        rw [hor.out]
        refine wpSched_loud rfl (fun K hK => ?_)
        have e1 := kb.drew.cell
        have f1 := kb.drew.frozen
        have l1 := kb.drew.lt
        go_wp2
        refine hK.out _ _ (fun hh => absurd rfl hh) ?_
        clear hK
        refine wpSched_nil ?_
        have hv : ((s' : Nat) : Int) + 16777216*(x.toNat:Int) = ((getN (l.take (3 + 1)) : Nat) : Int) := by rw [htk.out, (by decide : 256 ^ 3 = 16777216)]; omega
        rw [hv]
        have hm : Mod (fun k => k = w.heap.size) W (W.setCell ⟨w.heap.size, 0, none⟩ (.int .u32 (getN (l.take (3 + 1)) : Nat))).drew := (Mod.setCell (X := fun k => k = w.heap.size) W _ _ rfl).trans (Mod.drew (fun _ => False) _) (fun _ _ h => h) (fun _ _ h => h.elim)
        exact ⟨⟨hfr.mod hm (fun k _ h => h), (kb.set _).drew⟩, Saves.of_mod hm (fun k _ hX he => by have := hfr.1 k hX; omega)⟩
    case done =>
      rintro D k X W hD hXD hfin ⟨hfr, kb⟩ hdef
      obtain rfl : k = l.length := hfin
      rw [List.take_length] at kb
      have e0 := kb.cell
      have hbW : Below w.heap.size w W := hb0.trans (hfr.below (by omega) (fun k h => by omega))
      go_wp2
      exact end_mark1 (D := D) (v := .tuple #[.int .u32 (getN l : Nat), .int .i64 0]) hdef (by simp [results, Tryz.results105, go_sem]) ⟨rfl, below_putObj hbW (by omega) _⟩
    case stop => rintro D c X W hD hXD h; exact h.elim
  · rw [if_neg h4, if_neg h4]
    have t0 : (((bs l).size : Int) != 4) = true := by rw [hsz]; simp; omega
    replace hsz : Hid (_ = _) := hsz
    refine calls_of_wp_marks Tryz.func105 rfl ?_
    simp only [Tryz.ntmps105, List.size_toArray, List.length_cons, List.length_nil, Nat.reduceAdd, Nat.reduceSub, Array.replicate_succ, Array.replicate_zero, List.push_toArray, List.append_toArray, List.nil_append, List.cons_append]
    go_wp2
    exact end_mark0 (v := .tuple #[.int .u32 0, .int .i64 2]) (by simp [results, Tryz.results105, go_sem]) ⟨rfl, Below.refl _ _⟩
end Go.Proofs.YtaopeioebpfdeaaGreatDoor
