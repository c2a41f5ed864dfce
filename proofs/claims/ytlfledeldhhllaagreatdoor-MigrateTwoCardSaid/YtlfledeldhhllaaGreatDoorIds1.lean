/- WALKS of the small functions of ids: isNode, Right, New, Next, Has; what a book is in memory. No condition beyond what each says. -/
import Derived.Test.YtlfledeldhhllaaGreatDoorEpM
import Derived.Test.YtlfledeldhhllaaGreatDoorObj
import Derived.Test.YtlfledeldhhllaaGreatDoorLib2
namespace Go.Proofs.YtlfledeldhhllaaGreatDoor
open Go Go.RowKit Go.Shelf Go.Extern.Stop Go.Stop Go.Extern
attribute [local go_sem] Oper.semAt_some wide_fn wide_depth

def idV (k : MId) : Value := .agg #[.int .i64 k.1, .int .u32 k.2]
def msgV (m : MsgD) : Value := .agg #[.int .i64 m.1.1, .int .u32 m.1.2, .string (bs m.2)]
def msgCells (m : MsgD) : List Value := [.int .i64 m.1.1, .int .u32 m.1.2, .string (bs m.2)]

theorem isNode_any (i : Int) (w : World) : Calls Tryz.prog 88 #[.int .i64 i] w fun e w' => e = .returned (.bool (isNodeP i)) ∧ w' = w := by
  by_cases h : i < 0
  · have t0 : decide (0 ≤ i) = false := by simp; omega
    go_enter Tryz.func88, Tryz.ntmps88
    go_wp2
    go_ret
    exact ⟨by simp [isNodeP, t0], rfl⟩
  · have t0 : decide (0 ≤ i) = true := by simp; omega
    go_enter Tryz.func88, Tryz.ntmps88
    go_wp2
    go_ret
    exact ⟨by simp [isNodeP, t0], rfl⟩

set_option maxHeartbeats 1000000 in
theorem right_any (i : Int) (c : Nat) (d : List UInt8) (w : World) : Calls Tryz.prog 77 #[.agg #[.int .i64 i, .int .u32 c, .string (bs d)]] w fun e w' =>
    e = .returned (.bool (rightM ((i, c), d))) ∧ Below w.heap.size w w' := by
  have hs := bs_size d
  cases hn : isNodeP i
  · have hr : rightM ((i, c), d) = false := by simp only [isNodeP] at hn; simp [rightM, hn]
    go_enter Tryz.func77, Tryz.ntmps77
    go_wp2_with (go_at_call 88; refine (isNode_any _ _).mono ?_; rintro e w1 ⟨rfl, rfl⟩)
    go_ret
    exact ⟨by rw [hr]; rfl, by (repeat (first | exact Below.refl _ _ | with_reducible assumption | refine pb_alloc ?_ _ | refine pb_drew ?_ | refine pb_drewN ?_ _ | refine pb_set ?_ (by simp; try omega) _ | refine pb_trans ?_ (by with_reducible assumption)))⟩
  · have hn' : decide (0 ≤ i) = true ∧ decide (i < 16) = true := by simpa [isNodeP] using hn
    by_cases hl : d.length ≤ 1000
    · have t1 : decide ((1000 : Int) < ((bs d).size : Int)) = false := by rw [hs]; simp; omega
      by_cases h1 : 1 ≤ c
      · have t2 : decide (1 ≤ (c : Int)) = true := by simp; omega
        by_cases h2 : c ≤ 4294967294
        · have t3 : decide ((c : Int) ≤ 4294967294) = true := by simp; omega
          have hr : rightM ((i, c), d) = true := by simp only [rightM, hn'.1, hn'.2]; simp [hl, h1, h2]
          clear hs hl h1 h2
          go_enter Tryz.func77, Tryz.ntmps77
          go_wp2_with (go_at_call 88; refine (isNode_any _ _).mono ?_; rintro e w1 ⟨rfl, rfl⟩)
          go_ret
          exact ⟨by rw [hr]; rfl, by (repeat (first | exact Below.refl _ _ | with_reducible assumption | refine pb_alloc ?_ _ | refine pb_drew ?_ | refine pb_drewN ?_ _ | refine pb_set ?_ (by simp; try omega) _ | refine pb_trans ?_ (by with_reducible assumption)))⟩
        · have t3 : decide ((c : Int) ≤ 4294967294) = false := by simp; omega
          have hr : rightM ((i, c), d) = false := by simp [rightM, h2]
          clear hs hl h1 h2
          go_enter Tryz.func77, Tryz.ntmps77
          go_wp2_with (go_at_call 88; refine (isNode_any _ _).mono ?_; rintro e w1 ⟨rfl, rfl⟩)
          go_ret
          exact ⟨by rw [hr]; rfl, by (repeat (first | exact Below.refl _ _ | with_reducible assumption | refine pb_alloc ?_ _ | refine pb_drew ?_ | refine pb_drewN ?_ _ | refine pb_set ?_ (by simp; try omega) _ | refine pb_trans ?_ (by with_reducible assumption)))⟩
      · have t2 : decide (1 ≤ (c : Int)) = false := by simp; omega
        have hr : rightM ((i, c), d) = false := by simp [rightM, h1]
        clear hs hl h1
        go_enter Tryz.func77, Tryz.ntmps77
        go_wp2_with (go_at_call 88; refine (isNode_any _ _).mono ?_; rintro e w1 ⟨rfl, rfl⟩)
        go_ret
        exact ⟨by rw [hr]; rfl, by (repeat (first | exact Below.refl _ _ | with_reducible assumption | refine pb_alloc ?_ _ | refine pb_drew ?_ | refine pb_drewN ?_ _ | refine pb_set ?_ (by simp; try omega) _ | refine pb_trans ?_ (by with_reducible assumption)))⟩
    · have t1 : decide ((1000 : Int) < ((bs d).size : Int)) = true := by rw [hs]; simp; omega
      have hr : rightM ((i, c), d) = false := by simp [rightM, hl]
      clear hs hl
      go_enter Tryz.func77, Tryz.ntmps77
      go_wp2_with (go_at_call 88; refine (isNode_any _ _).mono ?_; rintro e w1 ⟨rfl, rfl⟩)
      go_ret
      exact ⟨by rw [hr]; rfl, by (repeat (first | exact Below.refl _ _ | with_reducible assumption | refine pb_alloc ?_ _ | refine pb_drew ?_ | refine pb_drewN ?_ _ | refine pb_set ?_ (by simp; try omega) _ | refine pb_trans ?_ (by with_reducible assumption)))⟩

/-- A book's cells; what a book is in memory: its own block, its log's row, its map; all of these are owned. -/
def bookCells (tk : List Nat) (lv : Value) (mb : Nat) : Array Value := ((tk.map fun n : Nat => Value.int .u32 (n : Int)) ++ [lv, .map (some mb)]).toArray
def BookAt (B : Nat) (b : BookS) (t : List Nat) (ow : Own) (W : World) : Prop :=
  BookOk b ∧ ∃ lv mb, Blk W B (bookCells b.tk lv mb) 94 ∧ Row W 54 3 lv b.log.length (b.log.flatMap msgCells) ∧ MapAt W mb idV (b.ws.map fun p => (p.1, msgV p.2)) ∧
    ow B = t ∧ ow mb = t ∧ ∀ g, lv.ownBlock = some g → ow g = t
theorem bookCells_size (tk : List Nat) (lv : Value) (mb : Nat) (h : tk.length = 16) : (bookCells tk lv mb).size = 18 := by simp [bookCells, h]
theorem bookCells_tk (tk : List Nat) (lv : Value) (mb : Nat) (i : Nat) (h : tk.length = 16) (hi : i < 16) : (bookCells tk lv mb)[i]? = some (.int .u32 (tk[i]?.getD 0 : Nat)) := by
  have : i < tk.length := by omega
  simp [bookCells, List.getElem?_append_left, this]
theorem bookCells_log (tk : List Nat) (lv : Value) (mb : Nat) (h : tk.length = 16) : (bookCells tk lv mb)[16]? = some lv := by
  simp [bookCells, h]
theorem bookCells_map (tk : List Nat) (lv : Value) (mb : Nat) (h : tk.length = 16) : (bookCells tk lv mb)[17]? = some (.map (some mb)) := by
  simp [bookCells, h]
theorem BookAt.loc (B : Nat) (b : BookS) (t : List Nat) : Local t (BookAt B b t) := by
  rintro ow ow' W W' ⟨hok, lv, mb, hB, hR, hM, o1, o2, o3⟩ hs hk
  have kB := hk B hB.lt (by rw [o1]; exact Sub.rfl' t)
  have kM := hk mb hM.lt (by rw [o2]; exact Sub.rfl' t)
  refine ⟨hok, lv, mb, hB.kept kB.2, hR.kept (fun g hg => (hk g (hR.lt hg) (by rw [o3 g hg]; exact Sub.rfl' t)).2), hM.kept kM.2, kB.1.trans o1, kM.1.trans o2, fun g hg => ?_⟩
  exact ((hk g (hR.lt hg) (by rw [o3 g hg]; exact Sub.rfl' t)).1).trans (o3 g hg)

theorem new_any (t : List Nat) (ow : Own) (w : World) : Calls Tryz.prog 29 #[] w fun e w' =>
    ∃ B ow', e = .returned (.pointer (some ⟨B, 0, none⟩)) ∧ Step t ow w ow' w' ∧ Below w.heap.size w w' ∧ BookAt B newBook t ow' w' := by
  have hmm := @run_makeMap Tryz.prog
  go_enter Tryz.func29, Tryz.ntmps29
  go_wp2
  go_ret
  refine ⟨w.heap.size + 1, ow.ext w.heap.size (fun _ => True) t, rfl, (Step.of_below t ow (by (repeat (first | exact Below.refl _ _ | with_reducible assumption | refine pb_alloc ?_ _ | refine pb_drew ?_ | refine pb_drewN ?_ _ | refine pb_set ?_ (by simp; try omega) _ | refine pb_trans ?_ (by with_reducible assumption))))).own (fun k hk => Own.ext_old hk), by (repeat (first | exact Below.refl _ _ | with_reducible assumption | refine pb_alloc ?_ _ | refine pb_drew ?_ | refine pb_drewN ?_ _ | refine pb_set ?_ (by simp; try omega) _ | refine pb_trans ?_ (by with_reducible assumption))), ⟨rfl, by simp [newBook], by simp [newBook]⟩, .slice none 0 0, w.heap.size, Blk.new (by simp), row_nil _ _ _, ?_, Own.ext_new (by omega) trivial, Own.ext_new (by omega) trivial, by simp [Value.ownBlock]⟩
  exact (MapAt.made w idV).kept (Below.heap_alloc _ _ _ (by simp))

theorem next_any (B : Nat) (b : BookS) (t : List Nat) (ow : Own) (i : Int) (w : World) (hb : BookAt B b t ow w) : Calls Tryz.prog 79 #[.pointer (some ⟨B, 0, none⟩), .int .i64 i] w fun e w' =>
    e = .returned (.int .u32 (nextP b i : Nat)) ∧ w' = w := by
  obtain ⟨hok, lv, mb, hB, -⟩ := hb
  cases hn : isNodeP i
  · have hr : nextP b i = 0 := by simp [nextP, hn]
    go_enter Tryz.func79, Tryz.ntmps79
    go_wp2_with (go_at_call 88; refine (isNode_any _ _).mono ?_; rintro e w1 ⟨rfl, rfl⟩)
    go_ret
    exact ⟨by rw [hr]; rfl, rfl⟩
  · obtain ⟨k, rfl, hk⟩ : ∃ k : Nat, i = k ∧ k < 16 := ⟨i.toNat, by simp [isNodeP] at hn; omega, by simp [isNodeP] at hn; omega⟩
    have hr : nextP b k = ((b.tk[k]?.getD 0) + 1) % 4294967296 := by simp [nextP, hn]
    have hc : w.cell? ⟨B, k, none⟩ = some (.int .u32 (b.tk[k]?.getD 0 : Nat)) := (hB.cell k).trans (bookCells_tk b.tk lv mb k hok.sixteen hk)
    clear hB
    go_enter Tryz.func79, Tryz.ntmps79
    go_wp2_with (go_at_call 88; refine (isNode_any _ _).mono ?_; rintro e w1 ⟨rfl, rfl⟩)
    go_ret
    exact ⟨congrArg (fun z => Ending.returned (Value.int .u32 z)) (by rw [hr]; omega), rfl⟩

theorem id_chk (n : Nat) (b : Bool) (x : Int) (y : Nat) (w : World) : (Instr.checkKey b (n + 1 + 1) 52 (.agg #[.int .i64 x, .int .u32 y])).run Tryz.prog w = .ok () w := by
  simp [Instr.checkKey, go_sem]
theorem idKey : KeyLaw Tryz.prog 52 idV where
  eq := fun k k' w => by
    obtain ⟨a, b⟩ := k
    obtain ⟨c, d⟩ := k'
    have h : (Op.equal 52 (idV (a, b)) (idV (c, d))).run Tryz.prog w = (Op.equalIn 10000 52 (.agg #[.int .i64 a, .int .u32 b]) (.agg #[.int .i64 c, .int .u32 d])).run Tryz.prog w := rfl
    rw [h]
    simp [go_sem]
    by_cases h1 : a = c <;> by_cases h2 : b = d <;> simp [h1, h2] <;> omega
  chk := fun b k w => id_chk 9998 b k.1 k.2 w
  bits := fun k => by simp [idV, Instr.sameBits]
  now := ⟨_, Tryz.underlying52, fun k k' => by left; rfl⟩
theorem msg_zero (w : World) : (zeroValue 54).run Tryz.prog w = .ok (.agg #[.int .i64 0, .int .u32 0, .string ⟨#[]⟩]) w := by
  kernel_rfl

theorem has_any (B : Nat) (b : BookS) (t : List Nat) (ow : Own) (i : Int) (c : Nat) (w : World) (hb : BookAt B b t ow w) : Calls Tryz.prog 89 #[.pointer (some ⟨B, 0, none⟩), .agg #[.int .i64 i, .int .u32 c]] w fun e w' =>
    e = .returned (.bool (hasP b (i, c))) ∧ Below w.heap.size w w' := by
  obtain ⟨hok, lv, mb, hB, -, hM, -⟩ := hb
  cases hn : isNodeP i
  · have hr : hasP b (i, c) = false := by simp [hasP, hn]
    go_enter Tryz.func89, Tryz.ntmps89
    go_wp2_with (go_at_call 88; refine (isNode_any _ _).mono ?_; rintro e w1 ⟨rfl, rfl⟩)
    go_ret
    exact ⟨by rw [hr]; rfl, by (repeat (first | exact Below.refl _ _ | with_reducible assumption | refine pb_alloc ?_ _ | refine pb_drew ?_ | refine pb_drewN ?_ _ | refine pb_set ?_ (by simp; try omega) _ | refine pb_trans ?_ (by with_reducible assumption)))⟩
  · obtain ⟨k, rfl, hk⟩ : ∃ k : Nat, i = k ∧ k < 16 := ⟨i.toNat, by simp [isNodeP] at hn; omega, by simp [isNodeP] at hn; omega⟩
    by_cases hc1 : c < 1
    · have t1 : decide ((c : Int) < 1) = true := by simp; omega
      have hr : hasP b (k, c) = false := by simp [hasP]; omega
      clear hc1
      go_enter Tryz.func89, Tryz.ntmps89
      go_wp2_with (go_at_call 88; refine (isNode_any _ _).mono ?_; rintro e w1 ⟨rfl, rfl⟩)
      go_ret
      exact ⟨by rw [hr]; rfl, by (repeat (first | exact Below.refl _ _ | with_reducible assumption | refine pb_alloc ?_ _ | refine pb_drew ?_ | refine pb_drewN ?_ _ | refine pb_set ?_ (by simp; try omega) _ | refine pb_trans ?_ (by with_reducible assumption)))⟩
    · have t1 : decide ((c : Int) < 1) = false := by simp; omega
      have hc2 : decide (1 ≤ c) = true := by simp; omega
      obtain ⟨W1, hW1⟩ : ∃ W1, w.alloc (.cells #[.int .i64 k, .int .u32 c] 52) = W1 := ⟨_, rfl⟩
      have hM1 : MapAt W1 mb idV (b.ws.map fun p => (p.1, msgV p.2)) := hM.kept (by rw [← hW1]; exact Below.heap_alloc _ _ _ hM.lt)
      have hlk0 : ∀ W' : World, W'.heap[mb]? = W1.heap[mb]? → (Instr.lookup 91 (.map (some mb)) (.agg #[.int .i64 k, .int .u32 c]) true).run Tryz.prog W' = .ok (.tuple #[((look ((k : Int), c) b.ws).map msgV).getD (.agg #[.int .i64 0, .int .u32 0, .string ⟨#[]⟩]), .bool (look ((k : Int), c) b.ws).isSome]) W' := fun W' hW' => by
        have := (hM1.kept (w' := W') hW').lookup_ok idKey Tryz.underlying91 (msg_zero W') ((k : Int), c)
        rw [look_map, Option.isSome_map] at this
        exact this
      have hlk := hlk0 W1.drew rfl
      have hlk2 : ∀ o, _ := fun o => hlk0 (W1.alloc o).drew (Below.heap_alloc _ _ _ hM1.lt)
      clear hlk0
      have ht : W1.cell? ⟨B, k, none⟩ = some (.int .u32 (b.tk[k]?.getD 0 : Nat)) := by
        rw [← hW1]; exact ((hB.alloc _).cell k).trans (bookCells_tk b.tk lv mb k hok.sixteen hk)
      have hm : W1.cell? ⟨B, 17, none⟩ = some (.map (some mb)) := by
        rw [← hW1]; exact ((hB.alloc _).cell 17).trans (bookCells_map b.tk lv mb hok.sixteen)
      have ci : W1.cell? ⟨w.heap.size, 0, none⟩ = some (.int .i64 k) := by rw [← hW1]; simp
      have cc : W1.cell? ⟨w.heap.size, 1, none⟩ = some (.int .u32 c) := by rw [← hW1]; simp
      have hB1 : Below w.heap.size w W1 := by rw [← hW1]; exact (Below.refl _ _).alloc (Nat.le_refl _) _
      have hlt : B < W1.heap.size := by rw [← hW1]; exact (hB.alloc _).lt
      have hlt0 : w.heap.size < W1.heap.size := by rw [← hW1]; simp
      clear hM hM1 hB hc1
      have hr : hasP b (k, c) = ((look ((k : Int), c) b.ws).isSome || decide (c ≤ b.tk[k]?.getD 0)) := by
        simp only [hasP, hn, hc2, Int.toNat_natCast]; simp
      obtain ⟨mv, hmv⟩ : ∃ mv, ((look ((k : Int), c) b.ws).map msgV).getD (.agg #[.int .i64 0, .int .u32 0, .string ⟨#[]⟩]) = mv := ⟨_, rfl⟩
      cases hl : (look ((k : Int), c) b.ws).isSome
      all_goals
        rw [hl] at hr
        simp only [hl, hmv] at hlk hlk2
        obtain ⟨m0, hm0⟩ : ∃ m0 : MsgD, mv = msgV m0 := by
          rw [← hmv]; cases look ((k : Int), c) b.ws with
          | none => exact ⟨((0, 0), []), rfl⟩
          | some m => exact ⟨m, rfl⟩
        rw [hm0] at hlk hlk2
        unfold msgV at hlk hlk2
        clear hl hmv
        rw [hr]
        go_enter Tryz.func89, Tryz.ntmps89
        go_wp2_with (first
          | (rw [hW1])
          | (go_at_call 88; refine (isNode_any _ _).mono ?_; rintro e w1 ⟨rfl, rfl⟩))
        apply wp_one (Wp := fun w' => Below w1.heap.size w1 w')
        case h =>
          go_region
          all_goals exact sameAt (by (repeat (first | exact Below.refl _ _ | with_reducible assumption | refine pb_alloc ?_ _ | refine pb_drew ?_ | refine pb_drewN ?_ _ | refine pb_set ?_ (by simp; try omega) _ | refine pb_trans ?_ (by with_reducible assumption))))
        case h2 =>
          rintro w5 hb5
          replace ht := (hb5.cell (p := ⟨B, k, none⟩) hlt).trans ht
          replace ci := (hb5.cell (p := ⟨w.heap.size, 0, none⟩) hlt0).trans ci
          replace cc := (hb5.cell (p := ⟨w.heap.size, 1, none⟩) hlt0).trans cc
          go_wp2
          go_quiet (fail)
          go_wp2
          go_ret
          exact ⟨rfl, below_drewN (pb_trans hB1 hb5) _⟩
end Go.Proofs.YtlfledeldhhllaaGreatDoor
