/- PROVED HERE: WALKS of the small functions of ids: isNode, Right, New, Next, Has; what a book is in memory. No condition beyond what each says. A REGION THAT DRAWS ITS ORDER, INSIDE A ROUND OF A LOOP OVER A FUNCTION: what holds of it outside holds of it there, where it defers nothing. No condition. A REGION THAT DRAWS ITS ORDER, BY A SCHEDULE: the quiet operations (whose value is the same in each world that meets S) are taken as soon as they may come up, each other one when it alone is left. Outside a round and inside one. No condition. -/
import Derived.StillTail
import Derived.StillTactics
import Derived.OrdersIn
import Derived.TacticsIn
import Derived.Deep.RegionHeld
import Derived.Test.YtaopeioebpfdeaaGreatDoorK01
import Derived.Test.YtaopeioebpfdeaaGreatDoorK04
namespace Go.Proofs.YtaopeioebpfdeaaGreatDoor
open Go Go.RowKit Go.Shelf Go.Extern.Stop Go.Stop Go.Extern
attribute [local go_sem] Oper.semAt_some wide_fn wide_depth

def idV (k : MId) : Value := .agg #[.int .i64 k.1, .int .u32 k.2]
def msgV (m : MsgD) : Value := .agg #[.int .i64 m.1.1, .int .u32 m.1.2, .string (bs m.2)]
def msgCells (m : MsgD) : List Value := [.int .i64 m.1.1, .int .u32 m.1.2, .string (bs m.2)]

theorem isNode_any (i : Int) (w : World) : Calls Tryz.prog 60 #[.int .i64 i] w fun e w' => e = .returned (.bool (isNodeP i)) ∧ w' = w := by
  by_cases h : i < 0
  · have t0 : decide (0 ≤ i) = false := by simp; omega
    go_enter Tryz.func60, Tryz.ntmps60
    go_wp2
    go_ret
    exact ⟨by simp [isNodeP, t0], rfl⟩
  · have t0 : decide (0 ≤ i) = true := by simp; omega
    go_enter Tryz.func60, Tryz.ntmps60
    go_wp2
    go_ret
    exact ⟨by simp [isNodeP, t0], rfl⟩

set_option maxHeartbeats 1000000 in
theorem right_any (i : Int) (c : Nat) (d : List UInt8) (w : World) : Calls Tryz.prog 33 #[.agg #[.int .i64 i, .int .u32 c, .string (bs d)]] w fun e w' =>
    e = .returned (.bool (rightM ((i, c), d))) ∧ Below w.heap.size w w' := by
  have hs := bs_size d
  cases hn : isNodeP i
  · have hr : rightM ((i, c), d) = false := by simp only [isNodeP] at hn; simp [rightM, hn]
    go_enter Tryz.func33, Tryz.ntmps33
    go_wp2_with (go_at_call 60; refine (isNode_any _ _).mono ?_; rintro e w1 ⟨rfl, rfl⟩)
    go_ret
    exact ⟨by rw [hr]; rfl, by (repeat (first | exact Below.refl _ _ | with_reducible assumption | refine pb_alloc ?_ _ | refine pb_drew ?_ | refine pb_drewN ?_ _ | refine pb_set ?_ (by simp; try omega) _ | refine pb_trans ?_ (by with_reducible assumption)))⟩
  · have hn' : decide (0 ≤ i) = true ∧ decide (i < 16) = true := by simpa [isNodeP] using hn
    by_cases hl : d.length ≤ 1000
    · have t1 : decide ((1000 : Int) < ((bs d).size : Int)) = false := by rw [hs]; simp; omega
      by_cases h1 : 1 ≤ c
      · have t2 : decide (1 ≤ (c : Int)) = true := by simp; omega
        by_cases h2 : c ≤ 4294967294
        · have t3 : decide ((c : Int) ≤ 4294967294) = true := by simp; omega
          have hr : rightM ((i, c), d) = true := by simp only [rightM, hn'.1, hn'.2]; simp [hl, h1, h2]
          clear hs hl h1 h2
          go_enter Tryz.func33, Tryz.ntmps33
          go_wp2_with (go_at_call 60; refine (isNode_any _ _).mono ?_; rintro e w1 ⟨rfl, rfl⟩)
          go_ret
          exact ⟨by rw [hr]; rfl, by (repeat (first | exact Below.refl _ _ | with_reducible assumption | refine pb_alloc ?_ _ | refine pb_drew ?_ | refine pb_drewN ?_ _ | refine pb_set ?_ (by simp; try omega) _ | refine pb_trans ?_ (by with_reducible assumption)))⟩
        · have t3 : decide ((c : Int) ≤ 4294967294) = false := by simp; omega
          have hr : rightM ((i, c), d) = false := by simp [rightM, h2]
          clear hs hl h1 h2
          go_enter Tryz.func33, Tryz.ntmps33
          go_wp2_with (go_at_call 60; refine (isNode_any _ _).mono ?_; rintro e w1 ⟨rfl, rfl⟩)
          go_ret
          exact ⟨by rw [hr]; rfl, by (repeat (first | exact Below.refl _ _ | with_reducible assumption | refine pb_alloc ?_ _ | refine pb_drew ?_ | refine pb_drewN ?_ _ | refine pb_set ?_ (by simp; try omega) _ | refine pb_trans ?_ (by with_reducible assumption)))⟩
      · have t2 : decide (1 ≤ (c : Int)) = false := by simp; omega
        have hr : rightM ((i, c), d) = false := by simp [rightM, h1]
        clear hs hl h1
        go_enter Tryz.func33, Tryz.ntmps33
        go_wp2_with (go_at_call 60; refine (isNode_any _ _).mono ?_; rintro e w1 ⟨rfl, rfl⟩)
        go_ret
        exact ⟨by rw [hr]; rfl, by (repeat (first | exact Below.refl _ _ | with_reducible assumption | refine pb_alloc ?_ _ | refine pb_drew ?_ | refine pb_drewN ?_ _ | refine pb_set ?_ (by simp; try omega) _ | refine pb_trans ?_ (by with_reducible assumption)))⟩
    · have t1 : decide ((1000 : Int) < ((bs d).size : Int)) = true := by rw [hs]; simp; omega
      have hr : rightM ((i, c), d) = false := by simp [rightM, hl]
      clear hs hl
      go_enter Tryz.func33, Tryz.ntmps33
      go_wp2_with (go_at_call 60; refine (isNode_any _ _).mono ?_; rintro e w1 ⟨rfl, rfl⟩)
      go_ret
      exact ⟨by rw [hr]; rfl, by (repeat (first | exact Below.refl _ _ | with_reducible assumption | refine pb_alloc ?_ _ | refine pb_drew ?_ | refine pb_drewN ?_ _ | refine pb_set ?_ (by simp; try omega) _ | refine pb_trans ?_ (by with_reducible assumption)))⟩

/-- A book's cells; what a book is in memory: its own block, its log's row, its map; all of these are owned. -/
def bookCells (tk : List Nat) (lv : Value) (mb : Nat) : Array Value := ((tk.map fun n : Nat => Value.int .u32 (n : Int)) ++ [lv, .map (some mb)]).toArray
def BookAt (B : Nat) (b : BookS) (t : List Nat) (ow : Own) (W : World) : Prop :=
  BookOk b ∧ ∃ lv mb, Blk W B (bookCells b.tk lv mb) 241 ∧ Row W 34 3 lv b.log.length (b.log.flatMap msgCells) ∧ MapAt W mb idV (b.ws.map fun p => (p.1, msgV p.2)) ∧
    ow B = t ∧ ow mb = t ∧ ∀ g, lv.ownBlock = some g → ow g = t
theorem bookCells_tk (tk : List Nat) (lv : Value) (mb : Nat) (i : Nat) (h : tk.length = 16) (hi : i < 16) : (bookCells tk lv mb)[i]? = some (.int .u32 (tk[i]?.getD 0 : Nat)) := by
  have : i < tk.length := by omega
  simp [bookCells, List.getElem?_append_left, this]
theorem bookCells_log (tk : List Nat) (lv : Value) (mb : Nat) (h : tk.length = 16) : (bookCells tk lv mb)[16]? = some lv := by
  simp [bookCells, h]
theorem bookCells_map (tk : List Nat) (lv : Value) (mb : Nat) (h : tk.length = 16) : (bookCells tk lv mb)[17]? = some (.map (some mb)) := by
  simp [bookCells, h]
theorem BookAt.loc (B : Nat) (b : BookS) (t : List Nat) : Local t (BookAt B b t) := by
  rintro ow ow' W W' ⟨hok, lv, mb, hB, hR, hM, o1, o2, o3⟩ hs hk
  have kB := hk B hB.lt (by rw [o1]; exact Sub.rfl' t)
  have kM := hk mb hM.lt (by rw [o2]; exact Sub.rfl' t)
  refine ⟨hok, lv, mb, hB.kept kB.2, hR.kept (fun g hg => (hk g (hR.lt hg) (by rw [o3 g hg]; exact Sub.rfl' t)).2), hM.kept kM.2, kB.1.trans o1, kM.1.trans o2, fun g hg => ?_⟩
  exact ((hk g (hR.lt hg) (by rw [o3 g hg]; exact Sub.rfl' t)).1).trans (o3 g hg)

theorem new_any (t : List Nat) (ow : Own) (w : World) : Calls Tryz.prog 124 #[] w fun e w' =>
    ∃ B ow', e = .returned (.pointer (some ⟨B, 0, none⟩)) ∧ Step t ow w ow' w' ∧ Below w.heap.size w w' ∧ BookAt B newBook t ow' w' := by
  have hmm := @run_makeMap Tryz.prog
  go_enter Tryz.func124, Tryz.ntmps124
  go_wp2
  go_ret
  refine ⟨w.heap.size + 1, ow.ext w.heap.size (fun _ => True) t, rfl, (Step.of_below t ow (by (repeat (first | exact Below.refl _ _ | with_reducible assumption | refine pb_alloc ?_ _ | refine pb_drew ?_ | refine pb_drewN ?_ _ | refine pb_set ?_ (by simp; try omega) _ | refine pb_trans ?_ (by with_reducible assumption))))).own (fun k hk => Own.ext_old hk), by (repeat (first | exact Below.refl _ _ | with_reducible assumption | refine pb_alloc ?_ _ | refine pb_drew ?_ | refine pb_drewN ?_ _ | refine pb_set ?_ (by simp; try omega) _ | refine pb_trans ?_ (by with_reducible assumption))), ⟨rfl, by simp [newBook], by simp [newBook]⟩, .slice none 0 0, w.heap.size, Blk.new (by simp), row_nil _ _ _, ?_, Own.ext_new (by omega) trivial, Own.ext_new (by omega) trivial, by simp [Value.ownBlock]⟩
  exact (MapAt.made w idV).kept (Below.heap_alloc _ _ _ (by simp))

theorem next_any (B : Nat) (b : BookS) (t : List Nat) (ow : Own) (i : Int) (w : World) (hb : BookAt B b t ow w) : Calls Tryz.prog 213 #[.pointer (some ⟨B, 0, none⟩), .int .i64 i] w fun e w' =>
    e = .returned (.int .u32 (nextP b i : Nat)) ∧ w' = w := by
  obtain ⟨hok, lv, mb, hB, -⟩ := hb
  cases hn : isNodeP i
  · have hr : nextP b i = 0 := by simp [nextP, hn]
    go_enter Tryz.func213, Tryz.ntmps213
    go_wp2_with (go_at_call 60; refine (isNode_any _ _).mono ?_; rintro e w1 ⟨rfl, rfl⟩)
    go_ret
    exact ⟨by rw [hr]; rfl, rfl⟩
  · obtain ⟨k, rfl, hk⟩ : ∃ k : Nat, i = k ∧ k < 16 := ⟨i.toNat, by simp [isNodeP] at hn; omega, by simp [isNodeP] at hn; omega⟩
    have hr : nextP b k = ((b.tk[k]?.getD 0) + 1) % 4294967296 := by simp [nextP, hn]
    have hc : w.cell? ⟨B, k, none⟩ = some (.int .u32 (b.tk[k]?.getD 0 : Nat)) := (hB.cell k).trans (bookCells_tk b.tk lv mb k hok.sixteen hk)
    clear hB
    go_enter Tryz.func213, Tryz.ntmps213
    go_wp2_with (go_at_call 60; refine (isNode_any _ _).mono ?_; rintro e w1 ⟨rfl, rfl⟩)
    go_ret
    exact ⟨congrArg (fun z => Ending.returned (Value.int .u32 z)) (by rw [hr]; omega), rfl⟩

theorem id_chk (n : Nat) (b : Bool) (x : Int) (y : Nat) (w : World) : (Instr.checkKey b (n + 1 + 1) 32 (.agg #[.int .i64 x, .int .u32 y])).run Tryz.prog w = .ok () w := by
  simp [Instr.checkKey, go_sem]
theorem idKey : KeyLaw Tryz.prog 32 idV where
  eq := fun k k' w => by
    obtain ⟨a, b⟩ := k
    obtain ⟨c, d⟩ := k'
    have h : (Op.equal 32 (idV (a, b)) (idV (c, d))).run Tryz.prog w = (Op.equalIn 10000 32 (.agg #[.int .i64 a, .int .u32 b]) (.agg #[.int .i64 c, .int .u32 d])).run Tryz.prog w := rfl
    rw [h]
    simp [go_sem]
    by_cases h1 : a = c <;> by_cases h2 : b = d <;> simp [h1, h2] <;> omega
  chk := fun b k w => id_chk 9998 b k.1 k.2 w
  bits := fun k => by simp [idV, Instr.sameBits]
  now := ⟨_, Tryz.underlying32, fun k k' => by left; rfl⟩
theorem msg_zero (w : World) : (zeroValue 34).run Tryz.prog w = .ok (.agg #[.int .i64 0, .int .u32 0, .string ⟨#[]⟩]) w := by
  kernel_rfl

theorem has_any (B : Nat) (b : BookS) (t : List Nat) (ow : Own) (i : Int) (c : Nat) (w : World) (hb : BookAt B b t ow w) : Calls Tryz.prog 217 #[.pointer (some ⟨B, 0, none⟩), .agg #[.int .i64 i, .int .u32 c]] w fun e w' =>
    e = .returned (.bool (hasP b (i, c))) ∧ Below w.heap.size w w' := by
  obtain ⟨hok, lv, mb, hB, -, hM, -⟩ := hb
  cases hn : isNodeP i
  · have hr : hasP b (i, c) = false := by simp [hasP, hn]
    go_enter Tryz.func217, Tryz.ntmps217
    go_wp2_with (go_at_call 60; refine (isNode_any _ _).mono ?_; rintro e w1 ⟨rfl, rfl⟩)
    go_ret
    exact ⟨by rw [hr]; rfl, by (repeat (first | exact Below.refl _ _ | with_reducible assumption | refine pb_alloc ?_ _ | refine pb_drew ?_ | refine pb_drewN ?_ _ | refine pb_set ?_ (by simp; try omega) _ | refine pb_trans ?_ (by with_reducible assumption)))⟩
  · obtain ⟨k, rfl, hk⟩ : ∃ k : Nat, i = k ∧ k < 16 := ⟨i.toNat, by simp [isNodeP] at hn; omega, by simp [isNodeP] at hn; omega⟩
    by_cases hc1 : c < 1
    · have t1 : decide ((c : Int) < 1) = true := by simp; omega
      have hr : hasP b (k, c) = false := by simp [hasP]; omega
      clear hc1
      go_enter Tryz.func217, Tryz.ntmps217
      go_wp2_with (go_at_call 60; refine (isNode_any _ _).mono ?_; rintro e w1 ⟨rfl, rfl⟩)
      go_ret
      exact ⟨by rw [hr]; rfl, by (repeat (first | exact Below.refl _ _ | with_reducible assumption | refine pb_alloc ?_ _ | refine pb_drew ?_ | refine pb_drewN ?_ _ | refine pb_set ?_ (by simp; try omega) _ | refine pb_trans ?_ (by with_reducible assumption)))⟩
    · have t1 : decide ((c : Int) < 1) = false := by simp; omega
      have hc2 : decide (1 ≤ c) = true := by simp; omega
      obtain ⟨W1, hW1⟩ : ∃ W1, w.alloc (.cells #[.int .i64 k, .int .u32 c] 32) = W1 := ⟨_, rfl⟩
      have hM1 : MapAt W1 mb idV (b.ws.map fun p => (p.1, msgV p.2)) := hM.kept (by rw [← hW1]; exact Below.heap_alloc _ _ _ hM.lt)
      have hlk0 : ∀ W' : World, W'.heap[mb]? = W1.heap[mb]? → (Instr.lookup 238 (.map (some mb)) (.agg #[.int .i64 k, .int .u32 c]) true).run Tryz.prog W' = .ok (.tuple #[((look ((k : Int), c) b.ws).map msgV).getD (.agg #[.int .i64 0, .int .u32 0, .string ⟨#[]⟩]), .bool (look ((k : Int), c) b.ws).isSome]) W' := fun W' hW' => by
        have := (hM1.kept (w' := W') hW').lookup_ok idKey Tryz.underlying238 (msg_zero W') ((k : Int), c)
        rw [look_map, Option.isSome_map] at this
        exact this
      have hlk := hlk0 W1.drew rfl
      have hlk2 : ∀ o, _ := fun o => hlk0 (W1.alloc o).drew (Below.heap_alloc _ _ _ hM1.lt)
      clear hlk0
      have ht : W1.cell? ⟨B, k, none⟩ = some (.int .u32 (b.tk[k]?.getD 0 : Nat)) := by
        rw [← hW1]; exact ((hB.alloc _).cell k).trans (bookCells_tk b.tk lv mb k hok.sixteen hk)
      have hm : W1.cell? ⟨B, 17, none⟩ = some (.map (some mb)) := by
        rw [← hW1]; exact ((hB.alloc _).cell 17).trans (bookCells_map b.tk lv mb hok.sixteen)
      have ci : W1.cell? ⟨w.heap.size, 0, none⟩ = some (.int .i64 k) := by rw [← hW1]; simp
      have cc : W1.cell? ⟨w.heap.size, 1, none⟩ = some (.int .u32 c) := by rw [← hW1]; simp
      have hB1 : Below w.heap.size w W1 := by rw [← hW1]; exact (Below.refl _ _).alloc (Nat.le_refl _) _
      have hlt : B < W1.heap.size := by rw [← hW1]; exact (hB.alloc _).lt
      have hlt0 : w.heap.size < W1.heap.size := by rw [← hW1]; simp
      clear hM hM1 hB hc1
      have hr : hasP b (k, c) = ((look ((k : Int), c) b.ws).isSome || decide (c ≤ b.tk[k]?.getD 0)) := by
        simp only [hasP, hn, hc2, Int.toNat_natCast]; simp
      obtain ⟨mv, hmv⟩ : ∃ mv, ((look ((k : Int), c) b.ws).map msgV).getD (.agg #[.int .i64 0, .int .u32 0, .string ⟨#[]⟩]) = mv := ⟨_, rfl⟩
      cases hl : (look ((k : Int), c) b.ws).isSome
      all_goals
        rw [hl] at hr
        simp only [hl, hmv] at hlk hlk2
        obtain ⟨m0, hm0⟩ : ∃ m0 : MsgD, mv = msgV m0 := by
          rw [← hmv]; cases look ((k : Int), c) b.ws with
          | none => exact ⟨((0, 0), []), rfl⟩
          | some m => exact ⟨m, rfl⟩
        rw [hm0] at hlk hlk2
        unfold msgV at hlk hlk2
        clear hl hmv
        rw [hr]
        go_enter Tryz.func217, Tryz.ntmps217
        go_wp2_with (first
          | (rw [hW1])
          | (go_at_call 60; refine (isNode_any _ _).mono ?_; rintro e w1 ⟨rfl, rfl⟩))
        apply wp_one (Wp := fun w' => Below w1.heap.size w1 w')
        case h =>
          go_region
          all_goals exact sameAt (by (repeat (first | exact Below.refl _ _ | with_reducible assumption | refine pb_alloc ?_ _ | refine pb_drew ?_ | refine pb_drewN ?_ _ | refine pb_set ?_ (by simp; try omega) _ | refine pb_trans ?_ (by with_reducible assumption))))
        case h2 =>
          rintro w5 hb5
          replace ht := (hb5.cell (p := ⟨B, k, none⟩) hlt).trans ht
          replace ci := (hb5.cell (p := ⟨w.heap.size, 0, none⟩) hlt0).trans ci
          replace cc := (hb5.cell (p := ⟨w.heap.size, 1, none⟩) hlt0).trans cc
          go_wp2
          go_quiet (fail)
          go_wp2
          go_ret
          exact ⟨rfl, below_drewN (pb_trans hB1 hb5) _⟩
end Go.Proofs.YtaopeioebpfdeaaGreatDoor
namespace Go.Proofs.YtaopeioebpfdeaaGreatDoor
open Go Go.RowKit

theorem opIn_of_wp {P : Program} {o : Oper} {a : Act} {w : World} {K : Act → World → Prop} {Q : Exit → Act → World → Prop} (l n : Nat) (hd : ∀ c, o.op ≠ .defer c) (h : o.wp P a w K Q) : o.wpIn (Fence.wide.inRound l) n P a w K Q := by
  unfold Oper.wpIn
  refine ⟨fun _ _ => trivial, ?_⟩
  have hs : o.semAt (Fence.wide.inRound l).round a.eval = execOp a.eval o := Oper.semAt_some l _ _ hd
  rw [hs]
  unfold Oper.wp at h
  revert h
  generalize (execOp a.eval o).run P w = r
  intro h
  cases r with
  | ok nx w' =>
    cases nx with
    | value v => exact h
    | skip => exact h
    | defer d => exact h
    | enter f args => exact ⟨(fun e => by cases e), CallsIn.inRound l (callsIn_wide.2 h)⟩
    | row row args => exact ⟨(fun e => by cases e), fun c cs _ => by obtain ⟨v, w'', r, s⟩ := h c cs; exact ⟨v, w'', r, stepsIn_wide.2 s⟩⟩
    | _ => exact h.elim
  | halt x w' => cases x <;> first | exact h | exact h.elim

/-- No operation defers a call. -/
def noDefer (ops : List Oper) : Bool := ops.all fun o => match o.op with | .defer _ => false | _ => true
theorem noDefer_spec {ops : List Oper} (h : noDefer ops = true) {o : Oper} (ho : o ∈ ops) : ∀ c, o.op ≠ .defer c := by
  intro c hc
  have := List.all_eq_true.1 h o ho
  rw [hc] at this
  cases this

theorem opsIn_of_wp {P : Program} {ops : List Oper} {Q : Exit → Act → World → Prop} (l n : Nat) (hd : noDefer ops = true) (hQ : ¬ LetsOut Q) {i : Nat} {K K' : Act → World → Prop} (hK : ∀ a w, K a w → K' a w) {a : Act} {w : World}
    (h : wpOp P ops.toArray Q i K a w) : wpOpIn (Fence.wide.inRound l) n P ops.toArray Q i K' a w := by
  unfold wpOp at h
  unfold wpOpIn
  cases ho : ops.toArray[i]? with
  | none => rw [ho] at h; exact hK _ _ h
  | some o =>
    rw [ho] at h
    have hm : o ∈ ops := by
      rw [List.getElem?_toArray] at ho
      exact List.mem_of_getElem? ho
    simp only at h ⊢
    split
    · rename_i hw
      rw [if_pos hw] at h
      rcases h with h | ⟨_, h⟩
      · exact Oper.wpIn_mono hK (opIn_of_wp l n (noDefer_spec hd hm) h)
      · exact absurd h hQ
    · rename_i hw
      rw [if_neg hw] at h
      exact ⟨fun _ _ => trivial, hK _ _ h⟩
theorem anyIn_of_any {P : Program} {md : Region.Mode} {ops : List Oper} {Q : Exit → Act → World → Prop} (l n : Nat) (hd : noDefer ops = true) (hQ : ¬ LetsOut Q) : ∀ (fuel : Nat) (listed : Array Bool) (a : Act) (w : World),
    wpAny P md ops.toArray Q fuel listed a w → wpAnyIn (Fence.wide.inRound l) n P md ops.toArray Q fuel listed a w
  | 0, _, _, _, h => h
  | fuel + 1, _, _, _, h => ⟨h.1, fun i hi => opsIn_of_wp l n hd hQ (fun a' w' h' => anyIn_of_any l n hd hQ fuel _ a' w' h') (h.2 i hi)⟩

/-- ALL OPERATIONS BUT THE LAST ONES READ; these stand in one forced order: in a round. -/
theorem wpIn_region_still_tail {P : Program} {id : Nat} {Q : Exit → Act → World → Prop} {a : Act} {w : World} {ops : List Oper} {l k : Nat} (n : Nat) (hd : noDefer ops = true) (hQ : ¬ LetsOut Q) (hm : P.follows .mixedOrders = true) (hB : Region.lexTailB .any ops.toArray n = true)
    (h : wpStill P ops.toArray { w with drawn := w.drawn + 1 } (fun a' => wpList P ops.toArray Q (ops.drop n) a' { w with drawn := w.drawn + 1 }) (ops.take n) a) : (Code.region id ops.toArray true).wpIn (Fence.wide.inRound l) k P Q a w := by
  simp only [Region.lexTailB, Bool.and_eq_true, decide_eq_true_eq] at hB
  obtain ⟨⟨⟨⟨hsel, hn⟩, hs⟩, hc⟩, hlex⟩ := hB
  have hn' : n < ops.length := by simpa using hn
  have htl : (ops.take n).length = n := by simp; omega
  have hdl : (ops.drop n).length = ops.toArray.size - n := by simp
  have inv0 : HeadInv .any ops.toArray n (Array.replicate ops.toArray.size false) :=
    ⟨by simp, fun j oj _ hl => (by rw [getD_replicate_false] at hl; cases hl), fun t _ ht => getD_in (by simpa using ht) (getD_replicate_false _ _)⟩
  have H := wpAnyL_lex (md := .any) (g := ops.toArray.size - n) hsel hs hc hn (ops.take n) 0 _ a (fun j hj => by
    have hj' : j < n := by rw [htl] at hj; exact hj
    simp [hj']) (by simpa using htl) inv0 (by rw [htl]; exact hlex) h
  refine wpIn_region_any hm (anyIn_of_any l k hd hQ _ _ _ _ ?_)
  have := wpAny_of_head (Q' := Q) (g := ops.toArray.size - n) (fun listed a' hL => by
    have := wpAny_of_seq (md := .any) (Q' := Q) (ops.drop n) n listed a' { w with drawn := w.drawn + 1 } (fun j => by simp [List.getElem?_drop]) (by rw [hdl]; exact hL.1) hL.2
    rwa [hdl] at this) _ _ _ H
  rw [htl, show n + (ops.toArray.size - n) = ops.toArray.size by omega] at this
  exact this
end Go.Proofs.YtaopeioebpfdeaaGreatDoor
namespace Go.Proofs.YtaopeioebpfdeaaGreatDoor
open Go Go.RowKit
variable {P : Program} {ops : Array Oper} {S : World → Prop} {Q : Exit → Act → World → Prop}

/-- No panic comes out. -/
def NoPanicQ (Q : Exit → Act → World → Prop) : Exit → Act → World → Prop
  | .normal, a, w => Q .normal a w
  | _, _, _ => False
theorem NoPanicQ.imp {Q : Exit → Act → World → Prop} : ∀ (e : Exit) (a : Act) (w : World), NoPanicQ Q e a w → Q e a w := fun e a w h => by
  cases e <;> first | exact h | exact h.elim
/-- What has come up is closed: with each operation all those that it waits for. -/
def Closed (ops : Array Oper) (listed : Array Bool) : Prop := ∀ j oj, ops[j]? = some oj → listed.getD j false = true → ∀ e ∈ oj.after, Region.binds .any e = true → listed.getD e.on false = true
theorem Closed.set {listed : Array Bool} {i : Nat} (h : Closed ops listed) (hi : i ∈ Region.ready .any ops listed) : Closed ops (listed.setIfInBounds i true) := by
  intro j oj hj hl e he hb
  by_cases hji : i = j
  · subst hji
    obtain ⟨_, o, ho, hall⟩ := mem_ready.1 hi
    rw [hj] at ho; cases ho
    exact getD_set_true (hall e he hb)
  · exact getD_set_true (h j oj hj (by rwa [getD_set_ne false hji] at hl) e he hb)
/-- All that the operation f waits for, at last. -/
def ancs (ops : Array Oper) (f : Nat) : List Nat :=
  (List.range ops.size).reverse.foldl (fun m k => if m.contains k then m ++ ((ops[k]?.map fun o => (o.after.toList.filter (Region.binds .any)).map (·.on)).getD []) else m) [f]
theorem ancs_spec {f : Nat} {listed : Array Bool} (hc : Closed ops listed) (hf : listed.getD f false = true) : ∀ i ∈ ancs ops f, listed.getD i false = true := by
  unfold ancs
  generalize (List.range ops.size).reverse = l
  suffices H : ∀ (l m : List Nat), (∀ i ∈ m, listed.getD i false = true) → ∀ i ∈ l.foldl (fun m k => if m.contains k then m ++ ((ops[k]?.map fun o => (o.after.toList.filter (Region.binds .any)).map (·.on)).getD []) else m) m, listed.getD i false = true by
    exact H l [f] (by simpa using hf)
  intro l
  induction l with
  | nil => intro m h; simpa using h
  | cons k l ih =>
    intro m h
    rw [List.foldl_cons]
    refine ih _ ?_
    split
    · rename_i hk
      intro i hi
      rcases List.mem_append.1 hi with hi | hi
      · exact h i hi
      · cases ho : ops[k]? with
        | none => rw [ho] at hi; simp at hi
        | some o =>
          rw [ho] at hi
          simp only [Option.map_some, Option.getD_some, List.mem_map, List.mem_filter] at hi
          obtain ⟨e, ⟨he, hb⟩, rfl⟩ := hi
          exact hc k o ho (h k (by simpa using hk)) e (by simpa using he) hb
    · exact h

/-- S is asked for as long as the operation 'f' (if there is one) has not come up. -/
def Asked (brk : Option Nat) (listed : Array Bool) : Prop := ∀ f, brk = some f → listed.getD f true = false
def wpAnyF (P : Program) (ops : Array Oper) (Q : Exit → Act → World → Prop) (S : World → Prop) (brk : Option Nat) : Nat → Array Bool → Act → World → Prop
  | 0, listed, a, w => Region.ready .any ops listed = [] ∧ Q .normal a w
  | fuel + 1, listed, a, w =>
    (Region.ready .any ops listed = [] → Q .normal a w) ∧
    ∀ i ∈ Region.ready .any ops listed, wpOp P ops Q i (fun a' w' => (Asked brk (listed.setIfInBounds i true) → S w') ∧ wpAnyF P ops Q S brk fuel (listed.setIfInBounds i true) a' w') a w
theorem wpAny_of_F {brk : Option Nat} : ∀ (fuel : Nat) (listed : Array Bool) (a : Act) (w : World), wpAnyF P ops Q S brk fuel listed a w → wpAny P .any ops Q fuel listed a w
  | 0, _, _, _, h => h
  | fuel + 1, _, _, _, h => ⟨h.1, fun i hi => wpOp_mono (fun a' w' h' => wpAny_of_F fuel _ a' w' h'.2) (h.2 i hi)⟩
theorem wpAnyF_first {brk : Option Nat} {i : Nat} {oi : Oper} {v : Value} (hi : ops[i]? = some oi) (hsel : ∀ (j : Nat) (o : Oper) cs b, ops[j]? = some o → o.op ≠ .select cs b)
    (hQ : ∀ c a w, Q (.panic c) (a.put oi.dst v) w → Q (.panic c) a w) (hb : ∀ f, brk = some f → i ∈ ancs ops f ∧ i ≠ f) :
    ∀ (fuel : Nat) (listed : Array Bool) (a : Act) (w : World), Closed ops listed → Asked brk listed →
      (∀ j oj, ops[j]? = some oj → j ≠ i → listed.getD j true = false → (∀ e ∈ oj.after, Region.binds .any e = true → e.on ≠ i) → oi.apart ops oj = true) →
      i ∈ Region.ready .any ops listed → YieldsIf P ops S oi v a → S w →
      wpAnyF P ops Q S brk fuel (listed.setIfInBounds i true) (a.put oi.dst v) w → wpAnyF P ops Q S brk (fuel + 1) listed a w := by
  intro fuel
  induction fuel with
  | zero =>
    intro listed a w _ _ _ hr hy hS H
    refine ⟨fun h => (by rw [h] at hr; cases hr), fun j hj => ?_⟩
    by_cases hji : j = i
    · subst hji; exact hy.wpOp hi hS ⟨fun _ => hS, H⟩
    · have := ready_mono hj hji
      rw [H.1] at this
      cases this
  | succ fuel ih =>
    intro listed a w hcl has hfree hr hy hS H
    refine ⟨fun h => (by rw [h] at hr; cases hr), fun j hj => ?_⟩
    by_cases hji : j = i
    · subst hji; exact hy.wpOp hi hS ⟨fun _ => hS, H⟩
    · have h1 := H.2 j (ready_mono hj hji)
      obtain ⟨hjun, oj, hoj, hall⟩ := mem_ready.1 hj
      have hi0 := (mem_ready.1 hr).1
      have hif : listed.getD i false = false := by
        rcases Nat.lt_or_ge i listed.size with h' | h'
        · simp [h'] at hi0 ⊢; exact hi0
        · simp [Array.getElem?_eq_none h']
      have hnot : ∀ e ∈ oj.after, Region.binds .any e = true → e.on ≠ i := fun e he hb heq => by
        have h1 := hall e he hb
        rw [heq, hif] at h1
        cases h1
      have hjb : ∀ f, brk = some f → j ≠ f := fun f hf e => by
        subst e
        have hc' := hcl.set hj
        have hjl : (listed.setIfInBounds j true).getD j false = true := by
          have : j < listed.size := by
            rcases Nat.lt_or_ge j listed.size with h' | h'
            · exact h'
            · simp [Array.getElem?_eq_none h'] at hjun
          simp [this]
        have := ancs_spec hc' hjl i (hb j hf).1
        rw [getD_set_ne false hji, hif] at this
        cases this
      have has' : Asked brk (listed.setIfInBounds j true) := fun f hf => by rw [getD_set_ne true (hjb f hf)]; exact has f hf
      have h2 := wpOp_putIf hoj (hfree j oj hoj hji hjun hnot) (fun cs b => hsel i oi cs b hi) (fun cs b => hsel j oj cs b hoj) hQ hy h1
      have hfree' : ∀ k ok, ops[k]? = some ok → k ≠ i → (listed.setIfInBounds j true).getD k true = false →
          (∀ e ∈ ok.after, Region.binds .any e = true → e.on ≠ i) → oi.apart ops ok = true := fun k ok hk hki hun hno => by
        refine hfree k ok hk hki ?_ hno
        by_cases hjk : j = k
        · subst hjk; exact hjun
        · rw [getD_set_ne true hjk] at hun; exact hun
      have hasi : Asked brk ((listed.setIfInBounds i true).setIfInBounds j true) := fun f hf => by
        rw [Array.setIfInBounds_comm _ _ (Ne.symm hji), getD_set_ne true (Ne.symm (hb f hf).2.symm)]; exact has' f hf
      refine wpOp_mono (fun a' w' h3 => ⟨fun _ => h3.2.1 hasi, ih (listed.setIfInBounds j true) a' w' (hcl.set hj) has' hfree' (ready_mono hr (Ne.symm hji)) h3.1 (h3.2.1 hasi) ?_⟩) h2
      rw [Array.setIfInBounds_comm _ _ hji]
      exact h3.2.2

/-- Is it a schedule? -/
def schedB (ops : Array Oper) (brk : Option Nat) : List (Nat × Bool) → Array Bool → Bool
  | [], listed => (Region.ready .any ops listed).isEmpty
  | (i, true) :: r, listed => (match brk with | none => true | some f => !listed.getD f true && (ancs ops f).contains i && i != f) && (Region.ready .any ops listed).contains i && Region.free .any ops listed i && schedB ops brk r (listed.setIfInBounds i true)
  | (i, false) :: r, listed => decide (Region.ready .any ops listed = [i]) && schedB ops brk r (listed.setIfInBounds i true)
/-- The walk along a schedule. -/
def wpSched (P : Program) (ops : Array Oper) (S : World → Prop) (brk : Option Nat) (Q : Exit → Act → World → Prop) : List (Nat × Bool) → Act → World → Prop
  | [], a, w => Q .normal a w
  | (i, true) :: r, a, w => ∃ o v, ops[i]? = some o ∧ YieldsIf P ops S o v a ∧ wpSched P ops S brk Q r (a.put o.dst v) w
  | (i, false) :: r, a, w => wpOp P ops (fun _ _ _ => False) i (fun a' w' => (brk ≠ some i → S w') ∧ wpSched P ops S brk Q r a' w') a w

theorem wpOp_false {i : Nat} {K : Act → World → Prop} {a : Act} {w : World} (h : wpOp P ops (fun _ _ _ => False) i K a w) : wpOp P ops Q i K a w := by
  unfold wpOp at *
  cases ho : ops[i]? with
  | none => rw [ho] at h; exact h
  | some o =>
    rw [ho] at h
    simp only at h ⊢
    split
    · rename_i hw
      rw [if_pos hw] at h
      rcases h with h | ⟨_, h⟩
      · refine .inl ?_
        unfold Oper.wp at *
        generalize (execOp a.eval o).run P w = r at *
        cases r with
        | ok n w' =>
          cases n <;> simp only [Oper.upon] at h ⊢ <;>
            first
              | exact h
              | exact Calls.mono h (fun e w'' he => by cases e <;> first | exact he | exact he.elim | (obtain ⟨_, _, h0⟩ := he; exact h0.elim))
        | halt x w' => cases x <;> simp only [Oper.upon] at h ⊢ <;> first | exact h | exact h.elim
      · obtain ⟨_, _, h⟩ := h; exact h.elim
    · rename_i hw
      rw [if_neg hw] at h
      exact h

theorem any_of_sched {brk : Option Nat} (hsel : Region.noSelect ops = true) : ∀ (l : List (Nat × Bool)) (listed : Array Bool) (a : Act) (w : World), schedB ops brk l listed = true → Closed ops listed → (Asked brk listed → S w) →
    wpSched P ops S brk Q l a w → wpAnyF P ops (NoPanicQ Q) S brk l.length listed a w
  | [], listed, a, w, hB, hc, hS, h => ⟨by simpa [schedB] using hB, h⟩
  | (i, true) :: l, listed, a, w, hB, hc, hS, h => by
    simp only [schedB, Bool.and_eq_true] at hB
    obtain ⟨⟨⟨hk, hr⟩, hf⟩, hB⟩ := hB
    have hr' : i ∈ Region.ready .any ops listed := by simpa using hr
    have has : Asked brk listed := fun f hf => by subst hf; simp at hk; simpa using hk.1.1
    obtain ⟨o, v, ho, hy, h⟩ := h
    refine wpAnyF_first ho (Region.noSelect_spec hsel) (fun _ _ _ h => h) (fun f hf => (by subst hf; simp at hk; exact ⟨hk.1.2, hk.2⟩)) _ listed a w hc has (Region.free_spec ho hf) hr' hy (hS has)
      (any_of_sched hsel l _ _ w hB (hc.set hr') (fun _ => hS has) h)
  | (i, false) :: l, listed, a, w, hB, hc, hS, h => by
    simp only [schedB, Bool.and_eq_true, decide_eq_true_eq] at hB
    obtain ⟨hr, hB⟩ := hB
    refine ⟨fun h0 => (by rw [h0] at hr; cases hr), fun j hj => ?_⟩
    have hji : j = i := by rw [hr] at hj; simpa using hj
    subst hji
    have hlt : j < listed.size := by
      rcases Nat.lt_or_ge j listed.size with h' | h'
      · exact h'
      · have := (mem_ready.1 hj).1; simp [Array.getElem?_eq_none h'] at this
    refine wpOp_mono (fun a' w' ⟨h1, h2⟩ => ?_) (wpOp_false h)
    have hS' : Asked brk (listed.setIfInBounds j true) → S w' := fun has => h1 (fun e => by have := has j e; simp [hlt] at this)
    exact ⟨hS', any_of_sched hsel l _ a' w' hB (hc.set hj) hS' h2⟩

theorem closed_none (l : List Oper) : Closed l.toArray (Array.replicate l.length false) := fun j oj hj hl => by
  rw [getD_replicate_false] at hl; cases hl
/-- A REGION OUTSIDE A ROUND. -/
theorem wp_region_sched {id : Nat} {a : Act} {w : World} {l : List Oper} (sch : List (Nat × Bool)) (brk : Option Nat) (S : World → Prop) (hm : P.follows .mixedOrders = true)
    (hB : (Region.noSelect l.toArray && decide (sch.length = l.length) && schedB l.toArray brk sch (Array.replicate l.length false)) = true) (hS : S w.drew)
    (h : wpSched P l.toArray S brk Q sch a w.drew) : (Code.region id l.toArray true).wp P Q a w := by
  simp only [Bool.and_eq_true, decide_eq_true_eq] at hB
  obtain ⟨⟨h1, h2⟩, h3⟩ := hB
  have H := any_of_sched h1 sch _ a w.drew h3 (closed_none l) (fun _ => hS) h
  rw [h2] at H
  exact wp_mono (wp_region_any (Q := NoPanicQ Q) hm (by simpa using wpAny_of_F _ _ _ _ H)) (fun e a w h => NoPanicQ.imp e a w h)
/-- A REGION IN A ROUND. -/
theorem wpIn_region_sched {id k r : Nat} {a : Act} {w : World} {l : List Oper} (sch : List (Nat × Bool)) (brk : Option Nat) (S : World → Prop) (hm : P.follows .mixedOrders = true)
    (hB : (noDefer l && Region.noSelect l.toArray && decide (sch.length = l.length) && schedB l.toArray brk sch (Array.replicate l.length false)) = true) (hS : S w.drew)
    (h : wpSched P l.toArray S brk Q sch a w.drew) : (Code.region id l.toArray true).wpIn (Fence.wide.inRound r) k P Q a w := by
  simp only [Bool.and_eq_true, decide_eq_true_eq] at hB
  obtain ⟨⟨⟨h0, h1⟩, h2⟩, h3⟩ := hB
  have H := any_of_sched h1 sch _ a w.drew h3 (closed_none l) (fun _ => hS) h
  rw [h2] at H
  refine wpIn_mono (wpIn_region_any (Q := NoPanicQ Q) hm (anyIn_of_any r k h0 (fun ⟨_, _, h⟩ => h) _ _ _ _ (by simpa using wpAny_of_F _ _ _ _ H))) (fun e a w h => NoPanicQ.imp e a w h)

variable {brk : Option Nat}
theorem wpSched_nil {a : Act} {w : World} (h : Q .normal a w) : wpSched P ops S brk Q [] a w := h
/-- A quiet operation. -/
theorem wpSched_quiet {i : Nat} {r : List (Nat × Bool)} {o : Oper} {a : Act} {w : World} {v : Value} (ho : ops[i]? = some o) (hg : Region.wanted o (yielded ops a.tmps) = true)
    (h1 : ∀ w', S w' → (execOp a.eval o).run P w' = .ok (.value v) w') (h2 : ∀ K : Act → Prop, (∀ a', wpSched P ops S brk Q r a' w → K a') → K (a.put o.dst v)) : wpSched P ops S brk Q ((i, true) :: r) a w :=
  ⟨o, v, ho, .inl ⟨hg, h1⟩, h2 _ (fun _ h => h)⟩
/-- One that is not wanted. -/
theorem wpSched_unwanted {i : Nat} {r : List (Nat × Bool)} {o : Oper} {a : Act} {w : World} (ho : ops[i]? = some o) (hg : Region.wanted o (yielded ops a.tmps) = false)
    (h2 : ∀ K : Act → Prop, (∀ a', wpSched P ops S brk Q r a' w → K a') → K (a.put o.dst undef)) : wpSched P ops S brk Q ((i, true) :: r) a w :=
  ⟨o, undef, ho, .inr ⟨hg, rfl⟩, h2 _ (fun _ h => h)⟩
/-- Another operation. -/
theorem wpSched_loud {i : Nat} {r : List (Nat × Bool)} {o : Oper} {a : Act} {w : World} (ho : ops[i]? = some o)
    (h : ∀ K : Act → World → Prop, Shut (∀ a' w', (brk ≠ some i → S w') → wpSched P ops S brk Q r a' w' → K a' w') → wpList P ops (Exit.then K (fun _ _ _ => False)) [o] a w) : wpSched P ops S brk Q ((i, false) :: r) a w := by
  have H := h (fun a' w' => (brk ≠ some i → S w') ∧ wpSched P ops S brk Q r a' w') (fun a' w' h1 h2 => ⟨h1, h2⟩)
  show wpOp P ops _ i _ a w
  unfold wpOp
  rw [ho]
  unfold wpList at H
  simp only
  split
  · rename_i hw
    rw [if_pos hw] at H
    rcases H with H | ⟨_, _, _, H⟩
    · refine .inl ?_
      unfold Oper.wp at *
      generalize (execOp a.eval o).run P w = x at *
      cases x with
      | ok n w' =>
        cases n <;> simp only [Oper.upon] at H ⊢ <;>
          first
            | exact H
            | exact Calls.mono H (fun e w'' he => by cases e <;> first | exact he | exact he.elim | (obtain ⟨_, _, h0⟩ := he; exact h0.elim))
            | exact Rows.mono H (fun _ _ he => he)
      | halt x w' => cases x <;> simp only [Oper.upon] at H ⊢ <;> first | exact H | exact H.elim
    · exact H.elim
  · rename_i hw
    rw [if_neg hw] at H
    exact H
end Go.Proofs.YtaopeioebpfdeaaGreatDoor
