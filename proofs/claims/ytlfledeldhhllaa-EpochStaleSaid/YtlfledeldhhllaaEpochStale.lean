/- PROVED HERE: rostrumlaw14.EpochStale returns true for every input, and its arguments read afterwards as they did. No condition. -/
import Derived.Test.YtlfledeldhhllaaRows
import Derived.Test.YtlfledeldhhllaaOpenM
import Derived.Test.YtlfledeldhhllaaEStale
import Derived.OpenShut
import Derived.Deep.DeepHandedRow
import Derived.Deep.DeepWitnessRowRef
import Derived.Stop.LaidErr
import Derived.Lib.SmallJoins
namespace Go.Proofs.Ytlfledeldhhllaa.epochStale
open Go Go.RowKit Go.ChangeShapes Go.WideShapes Go.ChangeAt

theorem own : ownKnob Try.prog.godebug = none := by kernel_rfl
theorem laidOut : laidOutB Try.prog = true := by kernel_rfl

set_option maxRecDepth 100000 in
theorem contract (H : Type) (enc : TypeId × Value → H) (W : World) (base : Nat) (args : Array Value) (ds gs : List (DataW H)) (before : List MemPlace)
    (hval : ∀ (j : Nat) t v, Try.f7.params[j]? = some t → args[j]? = some v → Value.okWide Try.prog W .any base t v)
    (hW : DataW.Whole enc Try.prog Try.f7.params.toList Rows.epochStaleSpec.vars false W args.toList ds gs before) :
    Calls Try.prog 7 args W fun e W' => ∃ v, e = .returned v ∧ Rows.epochStaleSpec.post enc Try.prog Try.f7 false true false false W args v W' := by
  have hW' := hW
  obtain ⟨p, q, hA0, hV, rfl, _, _⟩ := hW
  have hA : DataW.TrodAll enc Try.prog W 0 (fun _ => true) true Try.f7.params.toList args.toList ds p := hA0
  rw [Try.params7] at hA hval
  obtain ⟨v0, vs0, d0, ds0, p0, q0, hargs, rfl, rfl, h0, r0⟩ := trodAll_cons hA
  obtain ⟨v1, vs1, d1, ds1, p1, q1, rfl, rfl, rfl, h1, r1⟩ := trodAll_cons r0
  obtain ⟨v2, vs2, d2, ds2, p2, q2, rfl, rfl, rfl, h2, r2⟩ := trodAll_cons r1
  obtain ⟨rfl, rfl, rfl⟩ := trodAll_nil r2
  obtain rfl : args = #[v0, v1, v2] := by cases args; simp_all
  obtain ⟨rfl, rfl⟩ := trodVars_none hV
  obtain ⟨x, rfl, _, _, _⟩ := open_int Try.underlying3 (hval 0 3 v0 rfl rfl) h0
  obtain ⟨es, hes, hlen⟩ := open_entsV (hval 1 22 v1 rfl rfl) h1
  obtain ⟨e, mv, rfl, hm, hok⟩ := open_entV (hval 2 33 v2 rfl rfl) h2
  have walk := epochStale_true x v1 es e mv W hes hlen hm hok
  clear hA0
  refine walk.mono fun e W' ⟨he, hg⟩ => ?_
  subst he
  exact ⟨_, rfl, law_post laidOut (by kernel_rfl) (by kernel_rfl) rfl Try.underlying4 rfl hW' hg⟩

noncomputable def low (os : Os) : World := World.holding Try.prog os ⟨#[], #[], []⟩
theorem reads (os : Os) {H : Type} (enc : TypeId × Value → H) : ∃ places, DataW.whole enc Try.prog ((low os).forCall (fun _ _ => 0) ⟨#[], #[.int .i64 0, .slice none 0 0, .agg #[.int .i64 0, .int .u32 0, .int .i64 0, .slice none 0 0]], []⟩).memory Try.f7.params.toList Rows.epochStaleSpec.vars false (#[.int .i64 0, .slice none 0 0, .agg #[.int .i64 0, .int .u32 0, .int .i64 0, .slice none 0 0]] : Array Value).toList 8 = some ([.lit (.int .i64 0), .nil, .agg [.lit (.int .i64 0), .lit (.int .u32 0), .lit (.int .i64 0), .nil]], [], places) :=
  ⟨[], by kernel_rfl⟩

set_option maxRecDepth 100000 in
theorem lifted (os : Os) (started : os.Started) (H : Type) (enc : TypeId × Value → H) (F : Stop.Interp) :
    ReturnsInHanded {} Try.checked os 7 .any ((OpenSpec.ofChange Rows.epochStaleSpec).preRow enc Try.prog Try.f7 Rows.epochStaleRow.domain false Rows.epochStaleRow.laid) (((OpenSpec.ofChange Rows.epochStaleSpec).at F).post enc Try.prog Try.f7 false true false false) := by
  obtain ⟨places, hx⟩ := reads os enc
  refine returnsInHanded_of_row (C := Try.checked) (s := OpenSpec.ofChange Rows.epochStaleSpec) own started (by kernel_rfl) Try.func7
    (witness_row_atRef (enc := enc) (C := Try.checked) false (low os) #[.int .i64 0, .slice none 0 0, .agg #[.int .i64 0, .int .u32 0, .int .i64 0, .slice none 0 0]] rfl (by kernel_rfl) (by kernel_rfl) (by kernel_rfl)
      (OpenSpec.preRow_of_cond 8 hx (by kernel_rfl) (fun k hk => by cases hk) (by kernel_rfl) (laidMet_of_run' 8 (by kernel_rfl) (by kernel_rfl)))) ?_
  intro W base args ds gs before hval hW _ _ _ hL _ _
  exact contract H enc W base args ds gs before hval hW

theorem said : Rows.EpochStaleSaid :=
  OpenClaim.holds_of_cond 7 Try.f7 rfl rfl rfl rfl rfl rfl rfl ⟨rfl, rfl, rfl, rfl, rfl⟩ rfl rfl rfl rfl rfl (by kernel_rfl) Try.func7 (by kernel_rfl)
    (of_decide_eq_true (by kernel_rfl)) (by unfold Func.isWrapper; first | (rw [if_pos (by decide +kernel)]; kernel_rfl) | (rw [if_neg (by decide +kernel)]; exact ⟨rfl, rfl⟩))
    (fun os started H enc _ F => by rw [OpenClaim.pre_eq_preRow]; exact lifted os started H enc F)
end Go.Proofs.Ytlfledeldhhllaa.epochStale
