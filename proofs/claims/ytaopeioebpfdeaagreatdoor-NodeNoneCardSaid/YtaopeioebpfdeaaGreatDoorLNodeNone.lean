/- PROVED HERE: rostrumlaw17.NodeNone returns true for every input, and its arguments read afterwards as they did; the listed variable holds what the program's text lays (the card ties it). No further condition. -/
import Derived.Test.YtaopeioebpfdeaaGreatDoorK03
import Derived.Test.YtaopeioebpfdeaaGreatDoorK08
import Derived.Test.YtaopeioebpfdeaaGreatDoorK42
import Derived.Test.YtaopeioebpfdeaaGreatDoorK43
namespace Go.Proofs.YtaopeioebpfdeaaGreatDoor
open Go Go.RowKit Go.Shelf Go.Extern.Stop Go.Stop Go.Extern
attribute [local go_sem] Oper.semAt_some wide_fn wide_depth

set_option maxRecDepth 8000 in
theorem nBroadcast_none (d : ByteArray) (w : World) : Calls Tryz.prog 10 #[.pointer none, .string d] w fun e w' => e = .returned (.tuple #[.agg #[.int .i64 0, .int .u32 0, .string ⟨#[]⟩], .int .i64 1]) ∧ Below w.heap.size w w' := by
  go_enter Tryz.func10, Tryz.ntmps10
  go_wp2_with (go_at_call 32; refine (nReady_none _).mono ?_; rintro e w1 ⟨rfl, hw1⟩; obtain rfl := hw1.symm)
  exact bodyPost_ret (v := .tuple #[.agg #[.int .i64 0, .int .u32 0, .string ⟨#[]⟩], .int .i64 1]) (by simp [results, Tryz.results10, go_sem]) rfl ⟨rfl, by (repeat (first | exact Below.refl _ _ | with_reducible assumption | refine pb_alloc ?_ _ | refine pb_drew ?_ | refine pb_drewN ?_ _ | refine pb_set ?_ (by simp; try omega) _ | refine pb_trans ?_ (by with_reducible assumption)))⟩
set_option maxRecDepth 8000 in
theorem nPromise_none (i : Int) (b : Int) (w : World) : Calls Tryz.prog 12 #[.pointer none, .int .i64 i, .int .u64 b] w fun e w' => e = .returned (.tuple #[.agg #[.int .u64 0, .int .u64 0, .string ⟨#[]⟩], .int .i64 1]) ∧ Below w.heap.size w w' := by
  go_enter Tryz.func12, Tryz.ntmps12
  go_wp2_with (go_at_call 32; refine (nReady_none _).mono ?_; rintro e w1 ⟨rfl, hw1⟩; obtain rfl := hw1.symm)
  exact bodyPost_ret (v := .tuple #[.agg #[.int .u64 0, .int .u64 0, .string ⟨#[]⟩], .int .i64 1]) (by simp [results, Tryz.results12, go_sem]) rfl ⟨rfl, by (repeat (first | exact Below.refl _ _ | with_reducible assumption | refine pb_alloc ?_ _ | refine pb_drew ?_ | refine pb_drewN ?_ _ | refine pb_set ?_ (by simp; try omega) _ | refine pb_trans ?_ (by with_reducible assumption)))⟩
set_option maxRecDepth 8000 in
theorem nCast_none (i : Int) (b : Int) (d : ByteArray) (w : World) : Calls Tryz.prog 16 #[.pointer none, .int .i64 i, .int .u64 b, .string d] w fun e w' => e = .returned (.int .i64 1) ∧ Below w.heap.size w w' := by
  go_enter Tryz.func16, Tryz.ntmps16
  go_wp2_with (go_at_call 32; refine (nReady_none _).mono ?_; rintro e w1 ⟨rfl, hw1⟩; obtain rfl := hw1.symm)
  exact bodyPost_ret (v := .int .i64 1) (by simp [results, Tryz.results16, go_sem]) rfl ⟨rfl, by (repeat (first | exact Below.refl _ _ | with_reducible assumption | refine pb_alloc ?_ _ | refine pb_drew ?_ | refine pb_drewN ?_ _ | refine pb_set ?_ (by simp; try omega) _ | refine pb_trans ?_ (by with_reducible assumption)))⟩
set_option maxRecDepth 8000 in
theorem nLearn_none (i : Int) (d : ByteArray) (w : World) : Calls Tryz.prog 13 #[.pointer none, .int .i64 i, .string d] w fun e w' => e = .returned (.tuple #[.slice none 0 0, .int .i64 1]) ∧ Below w.heap.size w w' := by
  go_enter Tryz.func13, Tryz.ntmps13
  go_wp2_with (go_at_call 32; refine (nReady_none _).mono ?_; rintro e w1 ⟨rfl, hw1⟩; obtain rfl := hw1.symm)
  exact bodyPost_ret (v := .tuple #[.slice none 0 0, .int .i64 1]) (by simp [results, Tryz.results13, go_sem]) rfl ⟨rfl, by (repeat (first | exact Below.refl _ _ | with_reducible assumption | refine pb_alloc ?_ _ | refine pb_drew ?_ | refine pb_drewN ?_ _ | refine pb_set ?_ (by simp; try omega) _ | refine pb_trans ?_ (by with_reducible assumption)))⟩
set_option maxRecDepth 8000 in
theorem nWant_none (i : Int) (w : World) : Calls Tryz.prog 17 #[.pointer none, .int .i64 i] w fun e w' => e = .returned (.int .i64 1) ∧ Below w.heap.size w w' := by
  go_enter Tryz.func17, Tryz.ntmps17
  go_wp2_with (go_at_call 32; refine (nReady_none _).mono ?_; rintro e w1 ⟨rfl, hw1⟩; obtain rfl := hw1.symm)
  exact bodyPost_ret (v := .int .i64 1) (by simp [results, Tryz.results17, go_sem]) rfl ⟨rfl, by (repeat (first | exact Below.refl _ _ | with_reducible assumption | refine pb_alloc ?_ _ | refine pb_drew ?_ | refine pb_drewN ?_ _ | refine pb_set ?_ (by simp; try omega) _ | refine pb_trans ?_ (by with_reducible assumption)))⟩
set_option maxRecDepth 8000 in
theorem nCut_none (i : Int) (w : World) : Calls Tryz.prog 25 #[.pointer none, .int .i64 i] w fun e w' => e = .returned (.int .i64 1) ∧ Below w.heap.size w w' := by
  go_enter Tryz.func25, Tryz.ntmps25
  go_wp2_with (go_at_call 32; refine (nReady_none _).mono ?_; rintro e w1 ⟨rfl, hw1⟩; obtain rfl := hw1.symm)
  exact bodyPost_ret (v := .int .i64 1) (by simp [results, Tryz.results25, go_sem]) rfl ⟨rfl, by (repeat (first | exact Below.refl _ _ | with_reducible assumption | refine pb_alloc ?_ _ | refine pb_drew ?_ | refine pb_drewN ?_ _ | refine pb_set ?_ (by simp; try omega) _ | refine pb_trans ?_ (by with_reducible assumption)))⟩
set_option maxRecDepth 8000 in
theorem nCrash_none (w : World) : Calls Tryz.prog 11 #[.pointer none] w fun e w' => e = .returned (.int .i64 1) ∧ Below w.heap.size w w' := by
  go_enter Tryz.func11, Tryz.ntmps11
  go_wp2_with (go_at_call 32; refine (nReady_none _).mono ?_; rintro e w1 ⟨rfl, hw1⟩; obtain rfl := hw1.symm)
  exact bodyPost_ret (v := .int .i64 1) (by simp [results, Tryz.results11, go_sem]) rfl ⟨rfl, by (repeat (first | exact Below.refl _ _ | with_reducible assumption | refine pb_alloc ?_ _ | refine pb_drew ?_ | refine pb_drewN ?_ _ | refine pb_set ?_ (by simp; try omega) _ | refine pb_trans ?_ (by with_reducible assumption)))⟩
set_option maxRecDepth 8000 in
theorem nRecover_none (w : World) : Calls Tryz.prog 18 #[.pointer none] w fun e w' => e = .returned (.int .i64 1) ∧ Below w.heap.size w w' := by
  go_enter Tryz.func18, Tryz.ntmps18
  go_wp2_with (go_at_call 46; refine (nNil_none _).mono ?_; rintro e w1 ⟨rfl, hw1⟩; obtain rfl := hw1.symm)
  exact bodyPost_ret (v := .int .i64 1) (by simp [results, Tryz.results18, go_sem]) rfl ⟨rfl, by (repeat (first | exact Below.refl _ _ | with_reducible assumption | refine pb_alloc ?_ _ | refine pb_drew ?_ | refine pb_drewN ?_ _ | refine pb_set ?_ (by simp; try omega) _ | refine pb_trans ?_ (by with_reducible assumption)))⟩
set_option maxRecDepth 8000 in
theorem nProposal_none (w : World) : Calls Tryz.prog 15 #[.pointer none] w fun e w' => e = .returned (.tuple #[.string ⟨#[]⟩, .bool false]) ∧ Below w.heap.size w w' := by
  go_enter Tryz.func15, Tryz.ntmps15
  go_wp2_with (go_at_call 32; refine (nReady_none _).mono ?_; rintro e w1 ⟨rfl, hw1⟩; obtain rfl := hw1.symm)
  exact bodyPost_ret (v := .tuple #[.string ⟨#[]⟩, .bool false]) (by simp [results, Tryz.results15, go_sem]) rfl ⟨rfl, by (repeat (first | exact Below.refl _ _ | with_reducible assumption | refine pb_alloc ?_ _ | refine pb_drew ?_ | refine pb_drewN ?_ _ | refine pb_set ?_ (by simp; try omega) _ | refine pb_trans ?_ (by with_reducible assumption)))⟩
set_option maxRecDepth 8000 in
theorem nNext_none (w : World) : Calls Tryz.prog 27 #[.pointer none] w fun e w' => e = .returned (.int .i64 0) ∧ Below w.heap.size w w' := by
  go_enter Tryz.func27, Tryz.ntmps27
  go_wp2_with (go_at_call 46; refine (nNil_none _).mono ?_; rintro e w1 ⟨rfl, hw1⟩; obtain rfl := hw1.symm)
  exact bodyPost_ret (v := .int .i64 0) (by simp [results, Tryz.results27, go_sem]) rfl ⟨rfl, by (repeat (first | exact Below.refl _ _ | with_reducible assumption | refine pb_alloc ?_ _ | refine pb_drew ?_ | refine pb_drewN ?_ _ | refine pb_set ?_ (by simp; try omega) _ | refine pb_trans ?_ (by with_reducible assumption)))⟩
end Go.Proofs.YtaopeioebpfdeaaGreatDoor
namespace Go.Proofs.YtaopeioebpfdeaaGreatDoor
open Go Go.RowKit Go.Shelf Go.Extern.Stop Go.Stop Go.Extern
attribute [local go_sem] Oper.semAt_some wide_fn wide_depth

def OBJ1 : Obj := .cells #[.int .i64 0, .int .u32 0, .string ⟨#[]⟩] 34
def OBJ2 : Obj := .cells #[.int .u64 0, .int .u64 0, .string ⟨#[]⟩] 39
set_option maxRecDepth 8000 in
set_option maxHeartbeats 4000000 in
theorem nodeNone_true (a : Addr) (x : ActD) (w : World) (he : ErrAt w a) : Calls Tryz.prog 7 #[actV x] w fun r w' => r = .returned (.bool true) ∧ Below w.heap.size w w' := by
  have heW := fun W (hW : Below w.heap.size w W) => he.below hW he.lt
  unfold actV
  replace heW : Hid (∀ _, _) := heW
  clear he
  go_enter Tryz.func7, Tryz.ntmps7
  go_wp2_with fail
  refine (shown17_any a _ (heW.out _ (by (repeat (first | exact Below.refl _ _ | with_reducible assumption | refine pb_alloc ?_ _ | refine pb_drew ?_ | refine pb_drewN ?_ _ | refine pb_set ?_ (by simp; try omega) _ | refine pb_trans ?_ (by with_reducible assumption)))))).mono ?_
  rintro r w1 ⟨rfl, hb1⟩
  have kx1 : Blk w1 w.heap.size #[.int .i64 x.what, .int .i64 x.inst, .int .u64 (x.b : Nat), .string (bs x.s)] 24 := Blk.call (Blk.new rfl) hb1
  have cx1 := kx1.cell
  have lx1 := kx1.lt
  have hbw1 : Below w.heap.size w w1 := by (repeat (first | exact Below.refl _ _ | with_reducible assumption | refine pb_alloc ?_ _ | refine pb_drew ?_ | refine pb_drewN ?_ _ | refine pb_set ?_ (by simp; try omega) _ | refine pb_trans ?_ (by with_reducible assumption)))
  go_wp2_with fail
  refine (nBroadcast_none _ _).mono ?_
  rintro r w2 ⟨rfl, hb2⟩
  have hbw2 : Below w.heap.size w w2 := pb_trans hbw1 hb2
  have kx2 := kx1.call hb2
  have cx2 := kx2.cell
  have lx2 := kx2.lt
  clear cx1 lx1
  go_wp2_with fail
  refine (nPromise_none _ _ _).mono ?_
  rintro r w3 ⟨rfl, hb3⟩
  have hbw3 : Below w.heap.size w w3 := pb_trans (pb_alloc hbw2 OBJ1) hb3
  have kx3 := (kx2.alloc OBJ1).call hb3
  have cx3 := kx3.cell
  have lx3 := kx3.lt
  clear cx2 lx2
  go_wp2_with fail
  refine (nLearn_none _ _ _).mono ?_
  rintro r w4 ⟨rfl, hb4⟩
  have hbw4 : Below w.heap.size w w4 := pb_trans (pb_alloc hbw3 OBJ2) hb4
  have kx4 := (kx3.alloc OBJ2).call hb4
  have cx4 := kx4.cell
  have lx4 := kx4.lt
  clear cx3 lx3
  go_wp2_with fail
  refine (nProposal_none _).mono ?_
  rintro r w5 ⟨rfl, hb5⟩
  have hbw5 : Below w.heap.size w w5 := pb_trans hbw4 hb5
  have kx5 := kx4.call hb5
  have cx5 := kx5.cell
  have lx5 := kx5.lt
  clear cx4 lx4
  go_wp2_with fail
  refine (nDecided_none _ _).mono ?_
  rintro r w6 ⟨rfl, hw6⟩
  obtain rfl := hw6.symm
  go_wp2_with fail
  refine (nCast_none _ _ _ _).mono ?_
  rintro r w7 ⟨rfl, hb7⟩
  have hbw7 : Below w.heap.size w w7 := pb_trans hbw5 hb7
  have kx7 := kx5.call hb7
  have cx7 := kx7.cell
  have lx7 := kx7.lt
  clear cx5 lx5
  go_wp2_with fail
  refine (nWant_none _ _).mono ?_
  rintro r w8 ⟨rfl, hb8⟩
  have hbw8 : Below w.heap.size w w8 := pb_trans hbw7 hb8
  have kx8 := kx7.call hb8
  have cx8 := kx8.cell
  have lx8 := kx8.lt
  clear cx7 lx7
  go_wp2_with fail
  refine (nCut_none _ _).mono ?_
  rintro r w9 ⟨rfl, hb9⟩
  have hbw9 : Below w.heap.size w w9 := pb_trans hbw8 hb9
  have kx9 := kx8.call hb9
  have cx9 := kx9.cell
  have lx9 := kx9.lt
  clear cx8 lx8
  go_wp2_with fail
  refine (nCrash_none _).mono ?_
  rintro r w10 ⟨rfl, hb10⟩
  have hbw10 : Below w.heap.size w w10 := pb_trans hbw9 hb10
  have kx10 := kx9.call hb10
  have cx10 := kx10.cell
  have lx10 := kx10.lt
  clear cx9 lx9
  go_wp2_with fail
  refine (nRecover_none _).mono ?_
  rintro r w11 ⟨rfl, hb11⟩
  have hbw11 : Below w.heap.size w w11 := pb_trans hbw10 hb11
  have kx11 := kx10.call hb11
  have cx11 := kx11.cell
  have lx11 := kx11.lt
  clear cx10 lx10
  go_wp2_with fail
  refine (nIsDown_none _).mono ?_
  rintro r w20 ⟨rfl, hw20⟩
  obtain rfl := hw20.symm
  go_wp2_with fail
  refine (nNext_none _).mono ?_
  rintro r w12 ⟨rfl, hb12⟩
  have hbw12 : Below w.heap.size w w12 := pb_trans hbw11 hb12
  have kx12 := kx11.call hb12
  have cx12 := kx12.cell
  have lx12 := kx12.lt
  clear cx11 lx11
  go_wp2_with fail
  refine (nAccepted_none _).mono ?_
  rintro r w21 ⟨rfl, hw21⟩
  obtain rfl := hw21.symm
  go_wp2_with fail
  refine (nLocal_none _).mono ?_
  rintro r w22 ⟨rfl, hw22⟩
  obtain rfl := hw22.symm
  go_wp2
  go_ret
  exact ⟨rfl, hbw12⟩
end Go.Proofs.YtaopeioebpfdeaaGreatDoor
namespace Go.Proofs.YtaopeioebpfdeaaGreatDoor.nodeNone
open Go Go.RowKit Go.ChangeShapes Go.WideShapes Go.ChangeAt

set_option maxRecDepth 100000 in
theorem contract (H : Type) (enc : TypeId × Value → H) (W : World) (base : Nat) (args : Array Value) (ds gs : List (DataW H)) (before : List MemPlace)
    (hval : ∀ (j : Nat) t v, Tryz.f7.params[j]? = some t → args[j]? = some v → Value.okWide Tryz.prog W .any base t v)
    (hW : DataW.Whole enc Tryz.prog Tryz.f7.params.toList Rows.nodeNoneSpec.vars false W args.toList ds gs before) (hL : laidMetH Tryz.prog Rows.nodeNoneRow.laid W) :
    Calls Tryz.prog 7 args W fun e W' => ∃ v, e = .returned v ∧ Rows.nodeNoneSpec.post enc Tryz.prog Tryz.f7 false true false false W args v W' := by
  obtain ⟨a, he⟩ := err_of_laid hL
  have hW' := hW
  obtain ⟨p, q, hA0, hV, rfl, _, _⟩ := hW
  have hA : DataW.TrodAll enc Tryz.prog W 0 (fun _ => true) true Tryz.f7.params.toList args.toList ds p := hA0
  rw [Tryz.params7] at hA hval
  obtain ⟨v0, vs0, d0, ds0, p0, q0, hargs, rfl, rfl, h0, r0⟩ := trodAll_cons hA
  obtain ⟨rfl, rfl, rfl⟩ := trodAll_nil r0
  obtain rfl : args = #[v0] := by cases args; simp_all
  obtain ⟨rfl, rfl⟩ := trodVars_none hV
  obtain ⟨x, rfl, hx0⟩ := open_actV (hval 0 24 v0 rfl rfl) h0
  have walk := nodeNone_true a x W he
  clear hA0
  refine walk.mono fun e W' ⟨he, hg⟩ => ?_
  subst he
  exact ⟨_, rfl, law_post laidOut (by kernel_rfl) (by kernel_rfl) rfl Tryz.underlying4 rfl hW' hg⟩

theorem reads (os : Os) {H : Type} (enc : TypeId × Value → H) : ∃ places, DataW.whole enc Tryz.prog ((laidWorld os).forCall (fun _ _ => 0) ⟨#[], #[.agg #[.int .i64 0, .int .i64 0, .int .u64 0, .string ⟨#[]⟩]], []⟩).memory Tryz.f7.params.toList Rows.nodeNoneSpec.vars false (#[.agg #[.int .i64 0, .int .i64 0, .int .u64 0, .string ⟨#[]⟩]] : Array Value).toList 8 = some ([.agg [.lit (.int .i64 0), .lit (.int .i64 0), .lit (.int .u64 0), .lit (.string [])]], [], places) :=
  ⟨[], by kernel_rfl⟩

set_option maxRecDepth 100000 in
theorem lifted (os : Os) (started : os.Started) (H : Type) (enc : TypeId × Value → H) (F : Stop.Interp) :
    ReturnsInHanded {} Tryz.checked os 7 .any ((OpenSpec.ofChange Rows.nodeNoneSpec).preRow enc Tryz.prog Tryz.f7 Rows.nodeNoneRow.domain false Rows.nodeNoneRow.laid) (((OpenSpec.ofChange Rows.nodeNoneSpec).at F).post enc Tryz.prog Tryz.f7 false true false false) := by
  obtain ⟨places, hx⟩ := reads os enc
  refine returnsInHanded_of_row (C := Tryz.checked) (s := OpenSpec.ofChange Rows.nodeNoneSpec) own started (by kernel_rfl) Tryz.func7
    (witness_row_atRef (enc := enc) (C := Tryz.checked) false (laidWorld os) #[.agg #[.int .i64 0, .int .i64 0, .int .u64 0, .string ⟨#[]⟩]] rfl (by kernel_rfl) (by kernel_rfl) (by kernel_rfl)
      (OpenSpec.preRow_of_cond 8 hx (by kernel_rfl) (fun k hk => by cases hk) (by kernel_rfl) (laid_met os _))) ?_
  intro W base args ds gs before hval hW _ _ _ hL _ _
  exact contract H enc W base args ds gs before hval hW hL

theorem said : Rows.NodeNoneSaid :=
  OpenClaim.holds_of_cond 7 Tryz.f7 rfl rfl rfl rfl rfl rfl rfl ⟨rfl, rfl, rfl, rfl, rfl⟩ rfl rfl rfl rfl rfl (by kernel_rfl) Tryz.func7 (by kernel_rfl)
    (of_decide_eq_true (by kernel_rfl)) (by unfold Func.isWrapper; first | (rw [if_pos (by decide +kernel)]; kernel_rfl) | (rw [if_neg (by decide +kernel)]; exact ⟨rfl, rfl⟩))
    (fun os started H enc _ F => by rw [OpenClaim.pre_eq_preRow]; exact lifted os started H enc F)

theorem plain (f : FuncId) (fn : Func) (hf : Tryz.pinned.checked.prog.funcNamed "rostrum/rostrumlaw17.NodeNone" = some f) (hfn : Tryz.pinned.checked.prog.funcs[f]? = some fn) :
    true = Tryz.pinned.checked.prog.looks [] ∧ ∀ (j : Nat) t, fn.params[j]? = some t → Tryz.pinned.checked.prog.wantsStandIn t = false := by
  obtain rfl : f = 7 := Option.some.inj ((show Tryz.prog.funcNamed "rostrum/rostrumlaw17.NodeNone" = some 7 by kernel_rfl).symm.trans hf) |>.symm
  obtain rfl : fn = Tryz.f7 := (Option.some.inj (Tryz.func7.symm.trans hfn)).symm
  refine ⟨by kernel_rfl, fun j t ht => ?_⟩
  rw [Tryz.params7] at ht
  have : t = 24 := by
    match j, ht with
    | 0, h => simpa using h.symm
    | n + 1, h => simp at h
  subst this
  exact (show Tryz.prog.wantsStandIn 24 = false by kernel_rfl)

theorem card : Rows.NodeNoneCardSaid :=
  Claim7.holds_tied_plain_at .later [] _ _ _ _ said (fun _ h => by cases h) (by kernel_rfl) (fun _ h => by cases h) nodeNone_row_tie rfl ⟨rfl, rfl⟩ (by kernel_rfl) rfl plain (by kernel_rfl)
end Go.Proofs.YtaopeioebpfdeaaGreatDoor.nodeNone
