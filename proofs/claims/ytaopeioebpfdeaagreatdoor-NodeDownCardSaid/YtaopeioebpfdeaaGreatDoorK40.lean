/- PROVED HERE: WALKS: the reference's Put, Get, Right, Unpack, Pack, Decode at the bytes that the node's statements show first. No condition. A REGION THAT DRAWS ITS ORDER, WITH CALLS AMONG WHAT IS QUIET: an operation is quiet if it comes to the same value in each later world, and leads to a later one; each other one is walked at a later world, for each that may come up. No condition. -/
import Derived.Test.YtaopeioebpfdeaaGreatDoorK05
import Derived.Test.YtaopeioebpfdeaaGreatDoorK39
namespace Go.Proofs.YtaopeioebpfdeaaGreatDoor
open Go Go.RowKit Go.Shelf Go.Extern.Stop Go.Stop Go.Extern
attribute [local go_sem] Oper.semAt_some wide_fn wide_depth

/-- Bytes, made to a text. -/
theorem refConv (b : Nat) (xs : List Int) (w : World) (hk : Blk w b (xs.map fun x => Value.int .u8 x).toArray 5) :
    (convert 87 9 (.slice (some ⟨b, 0, none⟩) xs.length xs.length)).run Tryz.prog w = .ok (.string (strOfNums xs)) w := by
  refine run_convert_bytes_arg (P := Tryz.prog) w 87 5 Tryz.underlying87 Tryz.underlying5 b 0 xs.length xs.length xs rfl (fun i hi => ?_) 9 Tryz.underlying9
  rw [hk.cell]
  simp only [List.getElem?_toArray, List.getElem?_map, Nat.zero_add, List.getElem?_eq_getElem hi, Option.map_some, List.getD_eq_getElem?_getD, Option.getD_some]
set_option maxRecDepth 8000 in
theorem refPut1 (w : World) : Calls Tryz.prog 123 #[.int .u32 1] w fun e w' => e = .returned (.string (bs [1, 0, 0, 0])) ∧ Below w.heap.size w w' := by
  have hc := refConv w.heap.size [1, 0, 0, 0] (w.alloc (.cells #[.int .u8 1, .int .u8 0, .int .u8 0, .int .u8 0] 5)) (Blk.new rfl)
  rw [show strOfNums [1, 0, 0, 0] = bs [1, 0, 0, 0] from rfl] at hc
  simp only [List.length_cons, List.length_nil] at hc
  go_enter Tryz.func123, Tryz.ntmps123
  go_wp2
  go_ret
  exact ⟨rfl, by (repeat (first | exact Below.refl _ _ | with_reducible assumption | refine pb_alloc ?_ _ | refine pb_drew ?_ | refine pb_drewN ?_ _ | refine pb_set ?_ (by simp; try omega) _ | refine pb_trans ?_ (by with_reducible assumption)))⟩
set_option maxRecDepth 8000 in
theorem refGet1 (w : World) : Calls Tryz.prog 54 #[.string (bs [1, 0, 0, 0])] w fun e w' => e = .returned (.tuple #[.int .u32 1, .int .i64 0]) ∧ Below w.heap.size w w' := by
  have hsz : (bs [1, 0, 0, 0]).size = 4 := rfl
  go_enter Tryz.func54, Tryz.ntmps54
  go_wp2_with fail
  refine wp_region_sched [(0, true), (1, true), (2, true), (3, true), (4, true), (5, true), (6, true), (7, true), (8, true), (9, true), (10, true), (11, true), (12, true), (13, true), (14, true), (15, true), (16, true), (17, true), (18, true), (19, true)] none (fun w' => True) (by kernel_rfl) (by kernel_rfl) trivial ?_
  (repeat (refine wpSched_quiet (v := ?_) rfl rfl (fun w' hS => ?_) (fun K hK => ?_); rotate_left; (focus ((try have e1 := hS.1.cell); (try have e2 := hS.2.1.cell); (try have e3 := hS.2.2.1.cell); (try have e4 := hS.2.2.2.1.cell); (try have f1 := hS.1); (try have f2 := hS.2.1); (try have f3 := hS.2.2.1); (try have f4 := hS.2.2.2.1); (try have f5 := hS.2.2.2.2.1); clear hS; go_simp; (try with_reducible rfl))); (go_simp; refine hK _ ?_; clear hK K)))
  refine wpSched_nil ?_
  go_wp2
  go_ret2
  exact ⟨by kernel_rfl, Below.drew (Below.refl _ _)⟩
theorem refRight1 (w : World) : Calls Tryz.prog 89 #[.agg #[.int .i64 3, .int .u32 1, .string (bs [120])]] w fun e w' => e = .returned (.bool true) ∧ Below w.heap.size w w' := by
  have hsz : (bs [120]).size = 1 := rfl
  go_enter Tryz.func89, Tryz.ntmps89
  go_wp2
  go_ret
  exact ⟨rfl, by (repeat (first | exact Below.refl _ _ | with_reducible assumption | refine pb_alloc ?_ _ | refine pb_drew ?_ | refine pb_drewN ?_ _ | refine pb_set ?_ (by simp; try omega) _ | refine pb_trans ?_ (by with_reducible assumption)))⟩
/-- What Unpack of the one message's bytes comes to. -/
def RefUnpackPost (w : World) (e : Ending) (w' : World) : Prop :=
  ∃ v, e = .returned (.tuple #[v, .int .i64 0]) ∧ Below w.heap.size w w' ∧ Row w' 34 3 v 1 [.int .i64 3, .int .u32 1, .string (bs [120])] ∧ ∀ g, v.ownBlock = some g → w.heap.size ≤ g
set_option maxRecDepth 8000 in
set_option maxHeartbeats 1000000 in
theorem refUnpack1 (w : World) : Calls Tryz.prog 55 #[.string (bs [1, 3, 1, 0, 0, 0, 1, 0, 0, 0, 120])] w (RefUnpackPost w) := by
  obtain ⟨s, hs⟩ : ∃ s, s = bs [1, 3, 1, 0, 0, 0, 1, 0, 0, 0, 120] := ⟨_, rfl⟩
  have hsz : s.size = 11 := by rw [hs]; rfl
  have w10 : IntKind.i64.wrap 10 = 10 := rfl
  have w11 : IntKind.i64.wrap 11 = 11 := rfl
  have w1 : IntKind.i64.wrap 1 = 1 := rfl
  have x0 : ∀ h : 0 < s.size, s[0] = 1 := by rw [hs]; intro h; rfl
  have x1 : ∀ h : 1 < s.size, s[1] = 3 := by rw [hs]; intro h; rfl
  have e1 : s.extract 2 6 = bs [1, 0, 0, 0] := by rw [hs]; rfl
  have e2 : s.extract 6 10 = bs [1, 0, 0, 0] := by rw [hs]; rfl
  have e3 : s.extract 10 11 = bs [120] := by rw [hs]; rfl
  rw [← hs]
  clear hs
  go_enter Tryz.func55, Tryz.ntmps55
  go_wp2_with fail
  go_loopw [4, 5, 6] (fun p4 p5 p6 wr => Below w.heap.size w wr ∧ ((p6 = .int .i64 0 ∧ p5 = .int .i64 1 ∧ p4 = .slice none 0 0) ∨ (p6 = .int .i64 1 ∧ p5 = .int .i64 11 ∧ Row wr 34 3 p4 1 [.int .i64 3, .int .u32 1, .string (bs [120])] ∧ ∀ g, p4.ownBlock = some g → w.heap.size ≤ g))) (fun _ _ p6 _ => 1 - (intOf p6).toNat)
  case atStart => exact ⟨Below.refl _ _, .inl ⟨rfl, rfl, rfl⟩⟩
  case round =>
    obtain ⟨hb, ⟨rfl, rfl, rfl⟩ | ⟨rfl, rfl, hrow, hnew⟩⟩ := hrel
    · go_wp2_with fail
      refine (refGet1 _).mono ?_
      rintro e w1 ⟨rfl, hb1⟩
      go_wp2_with fail
      refine (refGet1 _).mono ?_
      rintro e w2 ⟨rfl, hb2⟩
      have hb2w : Below w.heap.size w w2 := by (repeat (first | exact Below.refl _ _ | with_reducible assumption | refine pb_alloc ?_ _ | refine pb_drew ?_ | refine pb_drewN ?_ _ | refine pb_set ?_ (by simp; try omega) _ | refine pb_trans ?_ (by with_reducible assumption)))
      go_wp2_with fail
      apply wp_one (Wp := fun w' => Below w2.heap.size w2 w' ∧ Blk w' w2.heap.size #[.int .i64 3, .int .u32 1, .string (bs [120])] 34)
      case h =>
        go_region_with fail
        all_goals go_simp
        all_goals exact sameAt ⟨by (repeat (first | exact Below.refl _ _ | with_reducible assumption | refine pb_alloc ?_ _ | refine pb_drew ?_ | refine pb_drewN ?_ _ | refine pb_set ?_ (by simp; try omega) _ | refine pb_trans ?_ (by with_reducible assumption))), by (repeat (first | with_reducible assumption | (refine Blk.new ?_; simp; done) | refine Blk.alloc ?_ _ | refine Blk.drew ?_ | refine Blk.drewN ?_ _ | refine Blk.call ?_ (by with_reducible assumption)))⟩
      case' h2 =>
      rintro w3 ⟨hb3, k3⟩
      have c3 := k3.cell
      have hb3w := pb_trans hb2w hb3
      go_wp2_with fail
      refine (refRight1 _).mono ?_
      rintro e w4 ⟨rfl, hb4⟩
      have k4 := k3.call hb4
      have c4 := k4.cell
      clear c3
      have hb4w := pb_trans hb3w hb4
      obtain ⟨v', W5, hrun, hrow5, hgr, hown⟩ := row_append msgT (w := w4.alloc (.cells #[.int .i64 3, .int .u32 1, .string (bs [120])] 34)) (row_nil _ _ _) (src_blk (n := 1) (size := 3) (cap := 1) (Blk.new (w := w4) (cs := #[.int .i64 3, .int .u32 1, .string (bs [120])]) (t := 34) rfl) rfl (Nat.le_refl 1)) (msgCells_one [((3, 1), [120])]) (by omega) 42
      obtain ⟨na, nn, nc, rfl⟩ := hrow5.shape
      have hb5w : Below w.heap.size w W5 := by
        exact (pb_alloc hb4w (.cells #[.int .i64 3, .int .u32 1, .string (bs [120])] 34)).trans ⟨hgr.os, hgr.tape, hgr.output, hgr.size, fun k hk => hgr.block k (by have := hb4w.size; simp; omega) (by simp [Value.ownBlock])⟩
      have hnew5 : ∀ g, (Value.slice na nn nc).ownBlock = some g → w.heap.size ≤ g := fun g hg => by
        rw [hg] at hown
        rcases hown with h | h
        · simp [Value.ownBlock] at h
        · have := hb4w.size; simp at h; omega
      replace hrow5 : Hid (Row _ _ _ _ _ _) := hrow5
      replace hnew5 : Hid (∀ _, _) := hnew5
      replace hown : Hid (_ ∨ _) := hown
      replace hrun : Hid (_ = _) := hrun
      go_wp2_with (at_builtin
                   refine wpList_append_by rfl _ _ _ rfl rfl rfl hrun.out ?_)
      go_roundw
      case rel => exact ⟨hb5w, .inr ⟨rfl, rfl, hrow5.out, hnew5.out⟩⟩
      case measure => simp [intOf]
    · obtain ⟨va, vn, vc, rfl⟩ := hrow.shape
      replace hrow : Hid (Row _ _ _ _ _ _) := hrow
      replace hnew : Hid (∀ _, _) := hnew
      go_wp2
      go_ret2
      exact ⟨_, rfl, hb, hrow.out, hnew.out⟩
end Go.Proofs.YtaopeioebpfdeaaGreatDoor
namespace Go.Proofs.YtaopeioebpfdeaaGreatDoor
open Go Go.RowKit
variable {P : Program} {ops : Array Oper} {T : World → World → Prop} {Q : Exit → Act → World → Prop}

/-- What an operation that runs comes to: such a value, in a later world. -/
def RunsTo (P : Program) (T : World → World → Prop) (v : Value) (w : World) : Result Next → Prop
  | .ok (.value u) w' => u = v ∧ T w w'
  | .ok (.enter f args) w' => Calls P f args w' fun e w'' => e = .returned v ∧ T w w''
  | _ => False
def YieldsT (P : Program) (ops : Array Oper) (T : World → World → Prop) (o : Oper) (v : Value) (a : Act) (w : World) : Prop :=
  (Region.wanted o (yielded ops a.tmps) = true ∧ ∀ w', T w w' → RunsTo P T v w' ((execOp a.eval o).run P w')) ∨ (Region.wanted o (yielded ops a.tmps) = false ∧ v = undef)
theorem YieldsT.wpOp {i : Nat} {o : Oper} {v : Value} {a : Act} {w w' : World} (hi : ops[i]? = some o) (hy : YieldsT P ops T o v a w) (hr : ∀ w, T w w) (hT : T w w') {K : Act → World → Prop} (h : ∀ w'', T w' w'' → K (a.put o.dst v) w'') : wpOp P ops Q i K a w' := by
  unfold Go.wpOp
  rw [hi]
  simp only
  rcases hy with ⟨hw, hv⟩ | ⟨hw, rfl⟩
  · rw [if_pos hw]
    refine .inl ?_
    have H := hv w' hT
    unfold Oper.wp
    generalize (execOp a.eval o).run P w' = r at *
    cases r with
    | ok n w1 =>
      cases n <;> simp only [RunsTo] at H <;> simp only [Oper.upon]
      case value u => obtain ⟨rfl, ht⟩ := H; exact h _ ht
      case enter f args => exact Calls.mono H (fun e w'' ⟨he, ht⟩ => by subst he; exact h _ ht)
    | halt x w1 => exact H.elim
  · rw [if_neg (by rw [hw]; simp)]
    exact h _ (hr w')
theorem YieldsT.of_same {o : Oper} {v : Value} {a a' : Act} {w : World} (hy : YieldsT P ops T o v a w) (he : execOp a'.eval o = execOp a.eval o)
    (hw : Region.wanted o (yielded ops a'.tmps) = Region.wanted o (yielded ops a.tmps)) : YieldsT P ops T o v a' w := by
  unfold YieldsT at *
  rw [he, hw]
  exact hy
theorem YieldsT.later {o : Oper} {v : Value} {a : Act} {w w' : World} (hy : YieldsT P ops T o v a w) (htr : ∀ x y z, T x y → T y z → T x z) (hT : T w w') : YieldsT P ops T o v a w' :=
  hy.imp (fun ⟨h1, h2⟩ => ⟨h1, fun w2 h => h2 w2 (htr _ _ _ hT h)⟩) id
/-- An operation that is apart from another one runs behind it as ahead of it. -/
theorem wpOp_putT {j : Nat} {oi oj : Oper} {v : Value} (hj : ops[j]? = some oj) (hap : oi.apart ops oj = true) (hsi : ∀ cs b, oi.op ≠ .select cs b) (hsj : ∀ cs b, oj.op ≠ .select cs b)
    (hQ : ∀ c a w, Q (.panic c) (a.put oi.dst v) w → Q (.panic c) a w) {K : Act → World → Prop} {a : Act} {w : World} (h : wpOp P ops Q j K (a.put oi.dst v) w) :
    wpOp P ops Q j (fun a' w' => (∀ w0, YieldsT P ops T oi v a w0 → YieldsT P ops T oi v a' w0) ∧ K (a'.put oi.dst v) w') a w := by
  obtain ⟨q1, q2, q3⟩ := Oper.apart_spec hap
  have same : ∀ (b : Act), (∀ w0, YieldsT P ops T oi v a w0 → YieldsT P ops T oi v b w0) → ∀ u w0, YieldsT P ops T oi v a w0 → YieldsT P ops T oi v (b.put oj.dst u) w0 := fun b hb u w0 hy =>
    (hb w0 hy).of_same (execOp_put oi hsi b oj.dst u q3) (wanted_put oi b oj.dst u q3)
  have sa := same a (fun _ h => h)
  have sd : ∀ d, ∀ w0, YieldsT P ops T oi v a w0 → YieldsT P ops T oi v { a with defers := d :: a.defers } w0 := fun d w0 hy => hy.of_same rfl rfl
  unfold wpOp at *
  rw [hj] at h ⊢
  simp only at h ⊢
  rw [wanted_put oj a oi.dst v q1] at h
  split
  · rename_i hw
    rw [if_pos hw] at h
    rcases h with h | ⟨h, hl⟩
    · refine .inl ?_
      unfold Oper.wp at *
      rw [execOp_put oj hsj a oi.dst v q1] at h
      generalize (execOp a.eval oj).run P w = r at *
      cases r with
      | halt x w' =>
        cases x <;> simp only [Oper.upon] at h ⊢
        exact hQ _ _ _ h
      | ok n w' =>
        cases n <;> simp only [Oper.upon] at h ⊢
        case value u => rw [Act.put_comm a v u q2] at h; exact ⟨sa u, h⟩
        case skip => rw [Act.put_comm a v undef q2] at h; exact ⟨sa undef, h⟩
        case defer d =>
          refine ⟨same _ (sd d) _, ?_⟩
          rw [← Act.put_comm _ v undef q2, ← Act.put_defers]
          exact h
        case enter f args =>
          refine Calls.mono h fun e w'' he => ?_
          cases e with
          | returned u =>
            have he' : K ((a.put oi.dst v).put oj.dst u) w'' := he
            rw [Act.put_comm a v u q2] at he'
            exact ⟨sa u, he'⟩
          | panicked c => exact hQ _ _ _ he
          | outgrown => exact he
        case row row args =>
          refine Rows.mono h fun u w'' he => ?_
          have he' : K ((a.put oi.dst v).put oj.dst u) w'' := he
          rw [Act.put_comm a v u q2] at he'
          exact ⟨sa u, he'⟩
    · refine .inr ⟨?_, hl⟩
      unfold Oper.asks at *
      rw [execOp_put oj hsj a oi.dst v q1] at h
      exact h
  · rename_i hw
    rw [if_neg hw] at h
    rw [Act.put_comm a v undef q2] at h
    exact ⟨sa undef, h⟩

/-- Whatever order is picked, from any later world on. -/
def wpAnyT (P : Program) (ops : Array Oper) (Q : Exit → Act → World → Prop) (T : World → World → Prop) : Nat → Array Bool → Act → World → Prop
  | 0, listed, a, w => ∀ w', T w w' → Region.ready .any ops listed = [] ∧ Q .normal a w'
  | fuel + 1, listed, a, w => ∀ w', T w w' →
    (Region.ready .any ops listed = [] → Q .normal a w') ∧
    ∀ i ∈ Region.ready .any ops listed, wpOp P ops Q i (fun a' w'' => T w' w'' ∧ wpAnyT P ops Q T fuel (listed.setIfInBounds i true) a' w'') a w'
theorem wpAny_of_T (hr : ∀ w, T w w) : ∀ (fuel : Nat) (listed : Array Bool) (a : Act) (w : World), wpAnyT P ops Q T fuel listed a w → wpAny P .any ops Q fuel listed a w
  | 0, _, _, w, h => h w (hr w)
  | fuel + 1, _, _, w, h => ⟨(h w (hr w)).1, fun i hi => wpOp_mono (fun a' w' h' => wpAny_of_T hr fuel _ a' w' h'.2) ((h w (hr w)).2 i hi)⟩
theorem wpAnyT.later (htr : ∀ x y z, T x y → T y z → T x z) {fuel : Nat} {listed : Array Bool} {a : Act} {w w' : World} (h : wpAnyT P ops Q T fuel listed a w) (hT : T w w') : wpAnyT P ops Q T fuel listed a w' := by
  cases fuel with
  | zero => exact fun w2 h2 => h w2 (htr _ _ _ hT h2)
  | succ n => exact fun w2 h2 => h w2 (htr _ _ _ hT h2)
theorem wpAnyT_first {i : Nat} {oi : Oper} {v : Value} (hr : ∀ w, T w w) (htr : ∀ x y z, T x y → T y z → T x z) (hi : ops[i]? = some oi) (hsel : ∀ (j : Nat) (o : Oper) cs b, ops[j]? = some o → o.op ≠ .select cs b)
    (hQ : ∀ c a w, Q (.panic c) (a.put oi.dst v) w → Q (.panic c) a w) :
    ∀ (fuel : Nat) (listed : Array Bool) (a : Act) (w : World),
      (∀ j oj, ops[j]? = some oj → j ≠ i → listed.getD j true = false → (∀ e ∈ oj.after, Region.binds .any e = true → e.on ≠ i) → oi.apart ops oj = true) →
      i ∈ Region.ready .any ops listed → YieldsT P ops T oi v a w →
      wpAnyT P ops Q T fuel (listed.setIfInBounds i true) (a.put oi.dst v) w → wpAnyT P ops Q T (fuel + 1) listed a w := by
  intro fuel
  induction fuel with
  | zero =>
    intro listed a w _ hrd hy H w' hT
    refine ⟨fun h => (by rw [h] at hrd; cases hrd), fun j hj => ?_⟩
    by_cases hji : j = i
    · subst hji; exact hy.wpOp hi hr hT (fun w'' h'' => ⟨h'', H.later htr (htr _ _ _ hT h'')⟩)
    · have h1 := ready_mono hj hji
      rw [(H w' hT).1] at h1
      cases h1
  | succ fuel ih =>
    intro listed a w hfree hrd hy H w' hT
    refine ⟨fun h => (by rw [h] at hrd; cases hrd), fun j hj => ?_⟩
    by_cases hji : j = i
    · subst hji; exact hy.wpOp hi hr hT (fun w'' h'' => ⟨h'', H.later htr (htr _ _ _ hT h'')⟩)
    · have h1 := (H w' hT).2 j (ready_mono hj hji)
      obtain ⟨hjun, oj, hoj, hall⟩ := mem_ready.1 hj
      have hi0 := (mem_ready.1 hrd).1
      have hif : listed.getD i false = false := by
        rcases Nat.lt_or_ge i listed.size with h' | h'
        · simp [h'] at hi0 ⊢; exact hi0
        · simp [Array.getElem?_eq_none h']
      have hnot : ∀ e ∈ oj.after, Region.binds .any e = true → e.on ≠ i := fun e he hb heq => by
        have h1 := hall e he hb
        rw [heq, hif] at h1
        cases h1
      have h2 := wpOp_putT (T := T) hoj (hfree j oj hoj hji hjun hnot) (fun cs b => hsel i oi cs b hi) (fun cs b => hsel j oj cs b hoj) hQ h1
      have hfree' : ∀ k ok, ops[k]? = some ok → k ≠ i → (listed.setIfInBounds j true).getD k true = false →
          (∀ e ∈ ok.after, Region.binds .any e = true → e.on ≠ i) → oi.apart ops ok = true := fun k ok hk hki hun hno => by
        refine hfree k ok hk hki ?_ hno
        by_cases hjk : j = k
        · subst hjk; exact hjun
        · rw [getD_set_ne true hjk] at hun; exact hun
      refine wpOp_mono (fun a' w'' h3 => ⟨h3.2.1, ih (listed.setIfInBounds j true) a' w'' hfree' (ready_mono hrd (Ne.symm hji)) (h3.1 _ ((hy.later htr hT).later htr h3.2.1)) ?_⟩) h2
      rw [Array.setIfInBounds_comm _ _ hji]
      exact h3.2.2
/-- A REGION OUTSIDE A ROUND. -/
theorem wp_region_tree {id : Nat} {a : Act} {w : World} {l : List Oper} (T : World → World → Prop) (hr : ∀ w, T w w) (hm : P.follows .mixedOrders = true)
    (h : wpAnyT P l.toArray (NoPanicQ Q) T l.length (Array.replicate l.length false) a w.drew) : (Code.region id l.toArray true).wp P Q a w :=
  wp_mono (wp_region_any (Q := NoPanicQ Q) hm (by simpa using wpAny_of_T hr _ _ _ _ h)) (fun e a w h => NoPanicQ.imp e a w h)
/-- A quiet operation. -/
theorem tree_quiet (hr : ∀ w, T w w) (htr : ∀ x y z, T x y → T y z → T x z) {i fuel : Nat} {listed : Array Bool} {o : Oper} {a : Act} {w : World} {v : Value}
    (hk : (Region.noSelect ops && (Region.ready .any ops listed).contains i && Region.free .any ops listed i) = true) (ho : ops[i]? = some o) (hg : Region.wanted o (yielded ops a.tmps) = true)
    (h1 : ∀ w', T w w' → (execOp a.eval o).run P w' = .ok (.value v) w') (h2 : ∀ K : Act → Prop, (∀ a', wpAnyT P ops (NoPanicQ Q) T fuel (listed.setIfInBounds i true) a' w → K a') → K (a.put o.dst v)) : wpAnyT P ops (NoPanicQ Q) T (fuel + 1) listed a w := by
  simp only [Bool.and_eq_true] at hk
  obtain ⟨⟨hs, hrd⟩, hf⟩ := hk
  exact wpAnyT_first hr htr ho (Region.noSelect_spec hs) (fun _ _ _ h => h) fuel listed a w (Region.free_spec ho hf) (by simpa using hrd) (.inl ⟨hg, fun w' hT => by rw [h1 w' hT]; exact ⟨rfl, hr w'⟩⟩) (h2 _ (fun _ h => h))
/-- A quiet call. -/
theorem tree_call (hr : ∀ w, T w w) (htr : ∀ x y z, T x y → T y z → T x z) {i fuel : Nat} {listed : Array Bool} {o : Oper} {a : Act} {w : World} (v : Value)
    (hk : (Region.noSelect ops && (Region.ready .any ops listed).contains i && Region.free .any ops listed i) = true) (ho : ops[i]? = some o) (hg : Region.wanted o (yielded ops a.tmps) = true)
    (h1 : ∀ w', T w w' → ∃ f args, (execOp a.eval o).run P w' = .ok (.enter f args) w' ∧ Calls P f args w' fun e w'' => e = .returned v ∧ T w' w'') (h2 : ∀ K : Act → Prop, (∀ a', wpAnyT P ops (NoPanicQ Q) T fuel (listed.setIfInBounds i true) a' w → K a') → K (a.put o.dst v)) : wpAnyT P ops (NoPanicQ Q) T (fuel + 1) listed a w := by
  simp only [Bool.and_eq_true] at hk
  obtain ⟨⟨hs, hrd⟩, hf⟩ := hk
  exact wpAnyT_first hr htr ho (Region.noSelect_spec hs) (fun _ _ _ h => h) fuel listed a w (Region.free_spec ho hf) (by simpa using hrd) (.inl ⟨hg, fun w' hT => by obtain ⟨f, args, e, hc⟩ := h1 w' hT; rw [e]; exact hc⟩) (h2 _ (fun _ h => h))
theorem tree_done {fuel : Nat} {listed : Array Bool} {a : Act} {w : World} (hk : Region.ready .any ops listed = []) (h : ∀ w', T w w' → Q .normal a w') : wpAnyT P ops (NoPanicQ Q) T fuel listed a w := by
  cases fuel with
  | zero => exact fun w' hT => ⟨hk, h w' hT⟩
  | succ n => exact fun w' hT => ⟨fun _ => h w' hT, fun i hi => (by rw [hk] at hi; cases hi)⟩
/-- One that is not quiet. -/
def TreeLoud (P : Program) (ops : Array Oper) (Q : Exit → Act → World → Prop) (T : World → World → Prop) (fuel : Nat) (listed : Array Bool) (a : Act) (w : World) (i : Nat) : Prop :=
  wpOp P ops (fun _ _ _ => False) i (fun a' w'' => T w w'' ∧ wpAnyT P ops (NoPanicQ Q) T fuel (listed.setIfInBounds i true) a' w'') a w
theorem tree_one {i fuel : Nat} {listed : Array Bool} {a : Act} {w : World} (hk : Region.ready .any ops listed = [i]) (h : ∀ w', T w w' → TreeLoud P ops Q T fuel listed a w' i) : wpAnyT P ops (NoPanicQ Q) T (fuel + 1) listed a w :=
  fun w' hT => ⟨fun h0 => (by rw [h0] at hk; cases hk), fun j hj => by
    have : j = i := by rw [hk] at hj; simpa using hj
    subst this
    exact wpOp_false (h w' hT)⟩
theorem tree_two {i k fuel : Nat} {listed : Array Bool} {a : Act} {w : World} (hk : Region.ready .any ops listed = [i, k]) (h : ∀ w', T w w' → TreeLoud P ops Q T fuel listed a w' i) (h2 : ∀ w', T w w' → TreeLoud P ops Q T fuel listed a w' k) : wpAnyT P ops (NoPanicQ Q) T (fuel + 1) listed a w :=
  fun w' hT => ⟨fun h0 => (by rw [h0] at hk; cases hk), fun j hj => by
    rw [hk] at hj
    have : j = i ∨ j = k := by simpa using hj
    rcases this with rfl | rfl
    · exact wpOp_false (h w' hT)
    · exact wpOp_false (h2 w' hT)⟩
theorem tree_loud {i fuel : Nat} {listed : Array Bool} {o : Oper} {a : Act} {w : World} (ho : ops[i]? = some o)
    (h : ∀ K : Act → World → Prop, Shut (∀ a' w', T w w' → wpAnyT P ops (NoPanicQ Q) T fuel (listed.setIfInBounds i true) a' w' → K a' w') → wpList P ops (Exit.then K (fun _ _ _ => False)) [o] a w) : TreeLoud P ops Q T fuel listed a w i := by
  have H := h (fun a' w' => T w w' ∧ wpAnyT P ops (NoPanicQ Q) T fuel (listed.setIfInBounds i true) a' w') (fun a' w' h1 h2 => ⟨h1, h2⟩)
  show wpOp P ops _ i _ a w
  unfold wpOp
  rw [ho]
  unfold wpList at H
  simp only
  split
  · rename_i hw
    rw [if_pos hw] at H
    rcases H with H | ⟨_, _, _, H⟩
    · refine .inl ?_
      unfold Oper.wp at *
      generalize (execOp a.eval o).run P w = x at *
      cases x with
      | ok n w' =>
        cases n <;> simp only [Oper.upon] at H ⊢ <;>
          first
            | exact H
            | exact Calls.mono H (fun e w'' he => by cases e <;> first | exact he | exact he.elim | (obtain ⟨_, _, h0⟩ := he; exact h0.elim))
            | exact Rows.mono H (fun _ _ he => he)
      | halt x w' => cases x <;> simp only [Oper.upon] at H ⊢ <;> first | exact H | exact H.elim
    · exact H.elim
  · rename_i hw
    rw [if_neg hw] at H
    exact H
end Go.Proofs.YtaopeioebpfdeaaGreatDoor
