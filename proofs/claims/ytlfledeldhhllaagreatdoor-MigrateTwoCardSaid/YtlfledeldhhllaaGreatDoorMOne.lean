/- ONE LOCAL in the statements' texts: what holds of it between calls; rostrumlaw15.shown answers true. Condition: the registry's error variable holds its error. -/
import Derived.Test.YtlfledeldhhllaaGreatDoorMgB
import Derived.Test.YtlfledeldhhllaaGreatDoorMgP
import Derived.Test.YtlfledeldhhllaaGreatDoorCut15
namespace Go.Proofs.YtlfledeldhhllaaGreatDoor
open Go Go.RowKit Go.Shelf Go.Extern.Stop Go.Stop Go.Extern
attribute [local go_sem] Oper.semAt_some wide_fn wide_depth

/-- What holds of the local. -/
def OneL (w : World) (B : Nat) (L : LocalS) (W : World) : Prop :=
  ∃ ow, Below w.heap.size w W ∧ (∀ k, k < w.heap.size → ow k = []) ∧ LocalAt B L [1] ow W
theorem OneL.bel {w W : World} {B : Nat} {L : LocalS} (h : OneL w B L W) : Below w.heap.size w W := h.choose_spec.1
theorem OneL.below {w W W' : World} {B : Nat} {L : LocalS} (h : OneL w B L W) (hb : Below W.heap.size W W') : OneL w B L W' := by
  obtain ⟨ow, h1, h2, h3⟩ := h
  exact ⟨ow, h1.trans (hb.mono h1.size), h2, (LocalAt.loc _ _ _).below h3 hb⟩
theorem OneL.new {w W W' : World} {B : Nat} {L : LocalS} {ow : Own} (hb : Below w.heap.size w W) (hs : Step [1] (fun _ => []) W ow W') (hF : LocalAt B L [1] ow W') : OneL w B L W' := by
  have h5 := hs.belowW (by simp) hb (fun _ _ => rfl)
  exact ⟨ow, h5.1, h5.2, hF⟩
/-- What an Apply comes to. -/
def OneLPost (w : World) (B : Nat) (R : LocalS × List MsgD × Int) (W W' : World) (r : Ending) (w' : World) : Prop :=
  ∃ v, r = .returned (.tuple #[v, .int .i64 R.2.2]) ∧ OneL w B R.1 w' ∧ Row w' 54 3 v R.2.1.length (R.2.1.flatMap msgCells) ∧ (∀ j, W.heap.size ≤ j → j < W'.heap.size → w'.heap[j]? = W'.heap[j]?) ∧ (∀ g, v.ownBlock = some g → W'.heap.size ≤ g)
theorem OneL.apply {a : Addr} {w W W' : World} {B : Nat} {L : LocalS} {k : Nat} {R : LocalS × List MsgD × Int} (he : ErrAt w a) (h : OneL w B L W) {e : EntryD} {mv : Value} {fails : Bool} (hb : Below W.heap.size W W') (hm : MsgsAt W' mv e.msgs) (hl : e.msgs.length ≤ 1073741824)
    (hfr : ∀ b l c, mv = .slice (some b) l c → W.heap.size ≤ b.block) (hB : LocalB L k) (hk : k ≤ 1000) (hR : applyL L e fails = R) :
    Calls Tryz.prog 8 #[.pointer (some ⟨B, 0, none⟩), entV e mv, .bool fails] W' (OneLPost w B R W W') := by
  subst hR
  obtain ⟨ow, h1, h2, h3⟩ := h
  have hf := hB.fold
  have hn := hB.len
  have ha := apply_len hf e
  have heras := (apply_b hf e).eras
  have hg := he.lt
  refine (lApply_any a B L [1] (by simp) (ow.cut W) e mv fails W' (he.below (h1.trans (hb.mono h1.size)) hg) (by rw [Own.cut_old (by have := h1.size; omega)]; exact h2 _ hg) ((LocalAt.loc B L [1]).cut h3 hb) hm (fun b l c h hs => ?_)
    (by have := hf.few; omega) (by have := hf.eras; omega) hl ⟨hf.low, by have := hf.high; omega⟩ (by omega) (by omega)).mono ?_
  · rw [Own.cut_new (hfr b l c h)] at hs
    exact not_sub_nil (by simp) hs
  · rintro r w2 ⟨v, ow2, rfl, hs0, hF, hR2, hn2⟩
    have hs := Step.wrap hb hs0
    have hq := hs.belowW (by simp) h1 h2
    exact ⟨v, rfl, ⟨ow2, hq.1, hq.2, hF⟩, hR2, fun j hj hj2 => hs0.block hj2 (by rw [Own.cut_new hj]; exact not_sub_nil (by simp)), fun g hg => (hn2 g hg).1⟩
theorem OneL.log {w W : World} {B : Nat} {L : LocalS} (h : OneL w B L W) (hl : L.log.length ≤ 1073741824) : Calls Tryz.prog 11 #[.pointer (some ⟨B, 0, none⟩)] W fun e w' =>
    ∃ v', e = .returned v' ∧ Row w' 54 3 v' L.log.length (L.log.flatMap msgCells) ∧ Below W.heap.size W w' ∧ (∀ g, v'.ownBlock = some g → W.heap.size ≤ g) := by
  obtain ⟨ow, h1, h2, h3⟩ := h
  exact lLog_any B L [1] ow W h3 hl
theorem OneL.blocked {w W : World} {B : Nat} {L : LocalS} {b : Bool} (h : OneL w B L W) (hb : L.blk = b) : Calls Tryz.prog 10 #[.pointer (some ⟨B, 0, none⟩)] W fun e w' => e = .returned (.bool b) ∧ w' = w' ∧ w' = W := by
  subst hb
  obtain ⟨ow, h1, h2, h3⟩ := h
  exact (lBlocked_any B L [1] ow W h3).mono (fun e w' h => ⟨h.1, rfl, h.2⟩)
theorem OneL.asks {w W : World} {B : Nat} {L : LocalS} {n : Nat} (h : OneL w B L W) (hb : L.blk = true) (hl : L.fold.eras.length ≤ 536870912) (hn : (nowP L.fold.eras).1 = n) : Calls Tryz.prog 14 #[.pointer (some ⟨B, 0, none⟩)] W fun e w' => e = .returned (.tuple #[.agg #[.int .i64 3, .int .u32 n, .int .i64 0, .slice none 0 0], .bool true]) ∧ Below W.heap.size W w' := by
  subst hn
  obtain ⟨ow, h1, h2, h3⟩ := h
  exact lAsks_yes B L [1] ow W h3 hb hl

/-- An Apply of an entry without messages. -/
theorem OneL.applyNil {a : Addr} {w W : World} {B : Nat} {L : LocalS} {k : Nat} (he : ErrAt w a) (h : OneL w B L W) {e : EntryD} {fails : Bool} (hm : e.msgs = []) (hB : LocalB L k) (hk : k ≤ 1000) :
    Calls Tryz.prog 8 #[.pointer (some ⟨B, 0, none⟩), .agg #[.int .i64 e.kind, .int .u32 e.epoch, .int .i64 e.ver, .slice none 0 0], .bool fails] W (OneLPost w B (applyL L e fails) W W) :=
  h.apply (e := e) (mv := .slice none 0 0) (k := k) he (Below.refl _ _) (by rw [hm]; exact msgs_nil W) (by rw [hm]; simp) (fun b l c h => by cases h) hB hk rfl

set_option maxRecDepth 8000 in
theorem msg15_any (i : Int) (c : Nat) (w : World) : Calls Tryz.prog 17 #[.int .i64 i, .int .u32 c] w fun e w' => e = .returned (.agg #[.int .i64 i, .int .u32 c, .string ⟨#[109]⟩]) ∧ Below w.heap.size w w' := by
  go_enter Tryz.func17, Tryz.ntmps17
  go_wp2
  exact bodyPost_ret (v := .agg #[.int .i64 i, .int .u32 c, .string ⟨#[109]⟩]) (by simp [results, Tryz.results17, go_sem]) rfl ⟨rfl, by (repeat (first | exact Below.refl _ _ | with_reducible assumption | refine pb_alloc ?_ _ | refine pb_drew ?_ | refine pb_drewN ?_ _ | refine pb_set ?_ (by simp; try omega) _ | refine pb_trans ?_ (by with_reducible assumption)))⟩

def sL0 : LocalS := newL 1 (stBegin 1)
def sE1 : EntryD := ⟨2, 1, 2, []⟩
def sL1 : LocalS := (applyL sL0 sE1 true).1
def sM : MsgD := ((1, 1), [109])
def sE2 : EntryD := ⟨1, 2, 0, [sM]⟩
def sL2 : LocalS := (applyL sL1 sE2 false).1
def sE3 : EntryD := ⟨3, 2, 0, []⟩
def sL3 : LocalS := (applyL sL2 sE3 false).1
theorem sF1 : (applyL sL0 sE1 true).2 = ([], 0) ∧ sL1.blk = true := by constructor <;> kernel_rfl
theorem sF2 : (applyL sL1 sE2 false).2 = ([], 0) ∧ sL2.blk = true ∧ (nowP sL2.fold.eras).1 = 2 := by refine ⟨?_, ?_, ?_⟩ <;> kernel_rfl
theorem sF3 : (applyL sL2 sE3 false).2 = ([sM], 0) ∧ sL3.blk = false := by constructor <;> kernel_rfl
theorem sB0 : LocalB sL0 0 := newL_b _ _
theorem sB1 : LocalB sL1 1 := applyL_b sB0 _ _
theorem sB2 : LocalB sL2 2 := applyL_b sB1 _ _
theorem sB3 : LocalB sL3 3 := applyL_b sB2 _ _
theorem OneLPost.of {w W W' : World} {B : Nat} {R : LocalS × List MsgD × Int} {ms : List MsgD} {er : Int} {n : Nat} {r : Ending} {w' : World} (h : OneLPost w B R W W' r w') (hR : R.2 = (ms, er)) (hn : ms.length = n) :
    ∃ va vc, r = .returned (.tuple #[.slice va n vc, .int .i64 er]) ∧ OneL w B R.1 w' ∧ Row w' 54 3 (.slice va n vc) n (ms.flatMap msgCells) ∧ (∀ j, W.heap.size ≤ j → j < W'.heap.size → w'.heap[j]? = W'.heap[j]?) ∧ (∀ g, (Value.slice va n vc).ownBlock = some g → W'.heap.size ≤ g) := by
  obtain ⟨L, q⟩ := R
  cases hR
  subst hn
  obtain ⟨v, rfl, h1, h2, h3, h4⟩ := h
  obtain ⟨va, vc, rfl⟩ := h2.src.shape
  exact ⟨va, vc, rfl, h1, h2, h3, h4⟩

set_option maxRecDepth 8000 in
set_option maxHeartbeats 1000000 in
theorem shown15_any (a : Addr) (w : World) (he : ErrAt w a) : Calls Tryz.prog 6 #[] w fun e w' => e = .returned (.bool true) ∧ Below w.heap.size w w' := by
  have hnew0 := lNew_no 0 (by decide)
  have hnew := lNew_any a 1 (by decide) [1] (fun _ => []) w he
  replace hnew0 : Hid (∀ _, _) := hnew0
  replace hnew : Hid (Calls _ _ _ _ _) := hnew
  go_enter Tryz.func6, Tryz.ntmps6
  go_wp2_with fail
  refine hnew.out.mono ?_
  rintro r w1 ⟨B, ow1, rfl, hs1, -, hF1⟩
  have h1 : OneL w B sL0 w1 := OneL.new (Below.refl _ _) hs1 hF1
  clear hs1 hF1
  have q1 := h1.applyNil he (e := sE1) (fails := true) rfl sB0 (by omega)
  replace h1 : Hid (OneL _ _ _ _) := h1
  replace q1 : Hid (Calls _ _ _ _ _) := q1
  go_wp2_with fail
  refine q1.out.mono ?_
  intro r w2 hq
  obtain ⟨v2, c2, rfl, h2, -, -, -⟩ := hq.of sF1.1 (n := 0) rfl
  replace h2 : Hid (OneL w B sL1 w2) := h2
  go_wp2_with fail
  refine (h2.out.blocked sF1.2).mono ?_
  rintro r w3 ⟨rfl, -, rfl⟩
  go_wp2_with fail
  refine (msg15_any _ _ _).mono ?_
  rintro r w4 ⟨rfl, hb4⟩
  have h4 := h2.out.below hb4
  replace h4 : Hid (OneL _ _ _ _) := h4
  go_wp2_with fail
  have km := Blk.new (w := w4) (b := w4.heap.size) (cs := #[.int .i64 1, .int .u32 1, .string ⟨#[109]⟩]) (t := 54) rfl
  have q5 := h4.out.apply he (e := sE2) (mv := .slice (some ⟨w4.heap.size, 0, none⟩) 1 1) (fails := false) (k := 1) (W' := w4.alloc (.cells #[.int .i64 1, .int .u32 1, .string ⟨#[109]⟩] 54)) (pb_alloc (Below.refl _ _) _) (src_blk (n := 1) (size := 3) (cap := 1) km rfl (Nat.le_refl 1)) (by decide) (fun b l c h => by cases h; exact Nat.le_refl _) sB1 (by omega) rfl
  unfold entV at q5
  replace q5 : Hid (Calls _ _ _ _ _) := q5
  replace km : Hid (Blk _ _ _ _) := km
  refine q5.out.mono ?_
  intro r w6 hq
  obtain ⟨v6, c6, rfl, h6, -, -, -⟩ := hq.of sF2.1 (n := 0) rfl
  replace h6 : Hid (OneL w B sL2 w6) := h6
  go_wp2_with fail
  refine (h6.out.asks sF2.2.1 (by have := sB2.fold.eras; omega) sF2.2.2).mono ?_
  rintro r w7 ⟨rfl, hb7⟩
  have h7 := h6.out.below (pb_alloc hb7 (.cells #[.int .i64 3, .int .u32 2, .int .i64 0, .slice none 0 0] 32))
  have q7 := h7.applyNil he (e := sE3) (fails := false) rfl sB2 (by omega)
  replace h7 : Hid (OneL _ _ _ _) := h7
  replace q7 : Hid (Calls _ _ _ _ _) := q7
  go_wp2_with fail
  refine q7.out.mono ?_
  intro r w8 hq
  obtain ⟨v8, c8, rfl, h8, hR8, -, -⟩ := hq.of sF3.1 (n := 1) rfl
  replace h8 : Hid (OneL w B sL3 w8) := h8
  go_wp2_with fail
  refine (hnew0.out _).mono ?_
  rintro r w9 ⟨rfl, hb9⟩
  go_wp2_with fail
  refine (msg15_any _ _ _).mono ?_
  rintro r w10 ⟨rfl, hb10⟩
  have hb11 := pb_trans hb9 (pb_alloc hb10 (.cells #[.int .i64 1, .int .u32 1, .string ⟨#[109]⟩] 54))
  have hsame := sameMsg_any (.slice v8 1 c8) (.slice (some ⟨w10.heap.size, 0, none⟩) 1 1) [sM] [sM] (w10.alloc (.cells #[.int .i64 1, .int .u32 1, .string ⟨#[109]⟩] 54)) (hR8.src.below hb11) (src_blk (n := 1) (size := 3) (cap := 1) (Blk.new rfl) rfl (Nat.le_refl 1)) (by decide) (by decide)
  rw [show decide ([sM] = [sM]) = true by simp] at hsame
  have h11 := h8.out.below hb11
  replace hsame : Hid (Calls _ _ _ _ _) := hsame
  replace h11 : Hid (OneL _ _ _ _) := h11
  clear hR8
  go_wp2_with fail
  refine hsame.out.mono ?_
  rintro r w12 ⟨rfl, hb12⟩
  have h12 := h11.out.below hb12
  replace h12 : Hid (OneL _ _ _ _) := h12
  go_wp2_with fail
  refine (h12.out.blocked sF3.2).mono ?_
  rintro r w13 ⟨rfl, -, rfl⟩
  go_wp2
  go_ret
  exact ⟨rfl, h12.out.bel⟩
end Go.Proofs.YtlfledeldhhllaaGreatDoor
