/- PROVED HERE: WALK: rostrumlaw17.shown answers true. Condition: the registry's error variable holds its error. RUNS OF ACTS: plain facts, and how an act is loaded. No condition. HOW ARGUMENTS ARE OPENED: the acts of layer 17, texts, ballots. No condition. -/
import Derived.Test.YtaopeioebpfdeaaGreatDoorK08
import Derived.Test.YtaopeioebpfdeaaGreatDoorK19
import Derived.Test.YtaopeioebpfdeaaGreatDoorK32
import Derived.Test.YtaopeioebpfdeaaGreatDoorK41
import Derived.Test.YtaopeioebpfdeaaGreatDoorK42
namespace Go.Proofs.YtaopeioebpfdeaaGreatDoor
open Go Go.RowKit Go.Shelf Go.Extern.Stop Go.Stop Go.Extern
attribute [local go_sem] Oper.semAt_some wide_fn wide_depth

theorem nNew_badid (id v cap : Int) (hi : id < 0 ∨ 16 ≤ id) (bad : Value) (w : World) : Calls Tryz.prog 9 #[.int .i64 id, .int .i64 v, .int .i64 cap, bad] w fun e w' => e = .returned (.tuple #[.pointer none, .int .i64 2]) ∧ Below w.heap.size w w' := by
  by_cases h : id < 0
  · have t1 : decide (id < 0) = true := by simpa using h
    go_enter Tryz.func9, Tryz.ntmps9
    go_wp2
    go_ret2
    exact ⟨rfl, by (repeat (first | exact Below.refl _ _ | with_reducible assumption | refine pb_alloc ?_ _ | refine pb_drew ?_ | refine pb_drewN ?_ _ | refine pb_set ?_ (by simp; try omega) _ | refine pb_trans ?_ (by with_reducible assumption)))⟩
  · have t1 : decide (id < 0) = false := by simpa using h
    have t2 : decide (16 ≤ id) = true := by simp; omega
    go_enter Tryz.func9, Tryz.ntmps9
    go_wp2
    go_ret2
    exact ⟨rfl, by (repeat (first | exact Below.refl _ _ | with_reducible assumption | refine pb_alloc ?_ _ | refine pb_drew ?_ | refine pb_drewN ?_ _ | refine pb_set ?_ (by simp; try omega) _ | refine pb_trans ?_ (by with_reducible assumption)))⟩
set_option maxRecDepth 8000 in
set_option maxHeartbeats 1000000 in
theorem nNew_badver (id v cap : Int) (hi : 0 ≤ id) (hi2 : id < 16) (hv : known v = false) (h1 : 64 ≤ cap) (h2 : cap ≤ 1048576) (w : World) :
    Calls Tryz.prog 9 #[.int .i64 id, .int .i64 v, .int .i64 cap, .slice none 0 0] w fun e w' => e = .returned (.tuple #[.pointer none, .int .i64 130]) ∧ Below w.heap.size w w' := by
  have hst := stNew_any cap h1 h2 [1] (fun _ => []) w
  have hcl := fun W => Tryz.slices_Clone_int_nil 0 0 W
  have hno := lNew_no v hv
  have t1 : decide (id < 0) = false := by simp; omega
  have t2 : decide (16 ≤ id) = false := by simp; omega
  have hbeg : ∀ (W : World) (B : Nat) (sv : Value), Blk W B #[.pointer none, .int .i64 id, .int .i64 v, .slice none 0 0, sv, .pointer none, .pointer none, .slice none 0 0, .int .i64 0, .int .i64 0, .int .i64 0, .bool false] 78 →
      Calls Tryz.prog 31 #[.pointer (some ⟨B, 0, none⟩)] W fun e w' => e = .returned (.int .i64 130) ∧ Below W.heap.size W w' := by
    intro W B sv hB
    have e0 := hB.cell
    replace hst : Hid (Calls _ _ _ _ _) := hst
    replace hno : Hid (∀ _, _) := hno
    go_enter Tryz.func31, Tryz.ntmps31
    go_wp2_with fail
    refine (hno.out _).mono ?_
    rintro e w1 ⟨rfl, hb1⟩
    go_wp2
    go_ret
    exact ⟨rfl, hb1⟩
  replace hst : Hid (Calls _ _ _ _ _) := hst
  replace hcl : Hid (∀ _, _) := hcl
  replace hbeg : Hid (∀ _ _ _ _, _) := hbeg
  go_enter Tryz.func9, Tryz.ntmps9
  go_wp2_with fail
  refine hst.out.mono ?_
  rintro e w1 ⟨sb, ow1, rfl, hs1, hb1, hS, hsb⟩
  go_wp2_with fail
  refine (hcl.out _).mono ?_
  rintro e w2 ⟨rfl, hw2⟩
  obtain rfl := hw2.symm
  go_wp2_with fail
  refine (hbeg.out _ _ _ (Blk.new rfl)).mono ?_
  rintro e w3 ⟨rfl, hb3⟩
  go_wp2
  go_ret2
  exact ⟨rfl, pb_trans (pb_alloc hb1 _) hb3⟩

theorem nB1 : stBegin 1 = (1, 0, []) := by kernel_rfl
theorem nF5 : (broadcastN nS2 [121]).1 = nS2 := by kernel_rfl
theorem nF6 : proposalN nS3 = ([1, 1, 0, 0, 0, 0, 1, 3, 1, 0, 0, 0, 1, 0, 0, 0, 120], true) := by kernel_rfl
theorem nF7 : (broadcastN nS2 [121]).2 = (((0, 0), []), 170) := by kernel_rfl
theorem eq_id31 (w : World) : (binOp .eql 32 (.agg #[.int .i64 3, .int .u32 1]) (.agg #[.int .i64 3, .int .u32 1])).run Tryz.prog w = .ok (.bool true) w := by kernel_rfl
set_option maxRecDepth 8000 in
set_option maxHeartbeats 2000000 in
theorem shown17_any (a : Addr) (w : World) (he : ErrAt w a) : Calls Tryz.prog 8 #[] w fun e w' => e = .returned (.bool true) ∧ Below w.heap.size w w' := by
  have hnew := nNew_any a 3 1 100000 (by omega) (by omega) (by decide) (by omega) (by omega) [1] (fun _ => []) w he
  have hbad := fun W => nNew_badid 16 1 100000 (.inr (by omega)) (.slice none 0 0) W
  have g0 : NodeG 1 nS0 := by have := NodeG.new (v := 1) (id := 3) (cap := 100000) (by omega) (by omega); rwa [nB1] at this
  have g1 : NodeG 1 nS1 := g0.broadcast [120] (by simp)
  have g2 : NodeG 1 nS2 := g1.crash
  have g3 : NodeG 1 nS3 := by have := g2.recover; rwa [nB1] at this
  have hid := eq_id31
  replace hbad : Hid (∀ _, _) := hbad
  replace hnew : Hid (Calls _ _ _ _ _) := hnew
  replace g0 : Hid (NodeG _ _) := g0
  replace g1 : Hid (NodeG _ _) := g1
  replace g2 : Hid (NodeG _ _) := g2
  replace g3 : Hid (NodeG _ _) := g3
  go_enter Tryz.func8, Tryz.ntmps8
  go_wp2_with fail
  refine hnew.out.mono ?_
  rintro r w1 ⟨B, ow1, rfl, hs1, -, hF1, -⟩
  rw [nB1] at hF1
  have h1 : OneN w (fun _ => False) B nS0 w1 := (OneN.new (Below.refl _ _) hs1 hF1).mono (fun _ h => h.elim)
  clear hs1 hF1
  have q1 := h1.broadcast he g0.out [120] (by simp) (Below.refl _ _)
  rw [nF1] at q1
  replace h1 : Hid (OneN _ _ _ _ _) := h1
  replace q1 : Hid (Calls _ _ _ _ _) := q1
  go_wp2_with fail
  refine q1.out.mono ?_
  rintro r w2 ⟨rfl, h2, -⟩
  replace h2 : OneN w _ B nS1 w2 := h2
  replace h2 : OneN w (fun _ => False) B nS1 w2 := h2.mono (fun _ h => h.elim)
  have km : Blk (w2.alloc (.cells #[.int .i64 3, .int .u32 1, .string (bs [120])] 34)) w2.heap.size #[.int .i64 3, .int .u32 1, .string (bs [120])] 34 := Blk.new rfl
  have hb2 : Below w2.heap.size w2 (w2.alloc (.cells #[.int .i64 3, .int .u32 1, .string (bs [120])] 34)) := pb_alloc (Below.refl _ _) _
  have q2 := h2.crash he hb2
  rw [nF2.1] at q2
  replace h2 : Hid (OneN _ _ _ _ _) := h2
  replace q2 : Hid (Calls _ _ _ _ _) := q2
  unfold castV2 msgV
  go_wp2_with fail
  refine q2.out.mono ?_
  rintro r w3 ⟨rfl, h3, hk3⟩
  have km3 := km.kept (hk3 _ (.inr ⟨Nat.le_refl _, km.lt⟩))
  obtain ⟨bm, hbm⟩ : ∃ bm, bm = w2.heap.size := ⟨_, rfl⟩
  replace h3 : OneN w _ B nS2 w3 := h3
  replace h3 : OneN w (fun k => k = bm) B nS2 w3 := h3.mono (fun k h => .inr (by subst h; rw [hbm]; exact ⟨Nat.le_refl _, km.lt⟩))
  rw [← hbm] at km3 ⊢
  clear km hbm hk3 hb2
  replace km3 : Hid (Blk _ _ _ _) := km3
  have q3 := h3.broadcast he g2.out [121] (by simp) (Below.refl _ _)
  rw [nF7, nF5] at q3
  replace h3 : Hid (OneN _ _ _ _ _) := h3
  replace q3 : Hid (Calls _ _ _ _ _) := q3
  go_wp2_with fail
  refine q3.out.mono ?_
  rintro r w4 ⟨rfl, h4, hk4⟩
  have km4 := km3.out.kept (hk4 bm (.inl rfl))
  replace h4 : OneN w (fun k => k = bm) B nS2 w4 := h4.mono (fun k h => .inl h)
  have hb4 : Below w4.heap.size w4 (w4.alloc (.cells #[.int .i64 0, .int .u32 0, .string ⟨#[]⟩] 34)) := pb_alloc (Below.refl _ _) _
  have q4 := h4.recover he g2.out (by decide) hb4
  rw [nB1] at q4
  replace h4 : Hid (OneN _ _ _ _ _) := h4
  replace q4 : Hid (Calls _ _ _ _ _) := q4
  replace km4 : Hid (Blk _ _ _ _) := km4
  clear km3 hk4
  unfold castV2 msgV
  go_wp2_with fail
  refine q4.out.mono ?_
  rintro r w5 ⟨rfl, h5, hk5⟩
  have km5 := (km4.out.alloc (.cells #[.int .i64 0, .int .u32 0, .string ⟨#[]⟩] 34)).kept (hk5 bm (.inl rfl))
  replace h5 : OneN w _ B nS3 w5 := h5
  replace h5 : OneN w (fun k => k = bm) B nS3 w5 := h5.mono (fun k h => .inl h)
  have q5 := h5.proposal g3.out
  rw [nF6] at q5
  unfold okV at q5
  have hbw5 := h5.bel
  clear h5 km4 hk5 q4 q3 q2 q1 hb4
  replace q5 : Hid (Calls _ _ _ _ _) := q5
  replace km5 : Hid (Blk _ _ _ _) := km5
  go_wp2_with fail
  refine q5.out.mono ?_
  rintro r w6 ⟨rfl, hb6⟩
  have km6 := km5.out.call hb6
  have hbw6 := pb_trans hbw5 hb6
  go_wp2_with fail
  refine (refDecode1 _).mono ?_
  rintro r w7 ⟨v7, rfl, hb7, hR7, -⟩
  obtain ⟨va, vc, rfl⟩ := hR7.src.shape
  have km7 := km6.call hb7
  have hbw7 := pb_trans hbw6 hb7
  have ke7 : Blk (w7.alloc (.cells #[.int .i64 1, .int .u32 1, .int .i64 0, .slice va 1 vc] 65)) w7.heap.size #[.int .i64 1, .int .u32 1, .int .i64 0, .slice va 1 vc] 65 := Blk.new rfl
  have hb7a : Below w7.heap.size w7 (w7.alloc (.cells #[.int .i64 1, .int .u32 1, .int .i64 0, .slice va 1 vc] 65)) := pb_alloc (Below.refl _ _) _
  replace hR7 : Hid (Row _ _ _ _ _ _) := hR7
  clear km6 km5 hb6
  go_wp2_with fail
  refine (hbad.out _).mono ?_
  rintro r w8 ⟨rfl, hb8⟩
  have km8 := (km7.alloc (.cells #[.int .i64 1, .int .u32 1, .int .i64 0, .slice va 1 vc] 65)).call hb8
  have ke8 := ke7.call hb8
  have hb78 := pb_trans hb7a hb8
  have hR8 := hR7.out.below hb78
  have hbw8 := pb_trans hbw7 hb78
  have c8 := km8.cell
  have d8 := ke8.cell
  have lm8 := km8.lt
  have le8' := ke8.lt
  have hsame := sameMsg_any (.slice va 1 vc) (.slice (some ⟨w8.heap.size, 0, none⟩) 1 1) [((3, 1), [120])] [((3, 1), [120])] (w8.alloc (.cells #[.int .i64 3, .int .u32 1, .string (bs [120])] 34)) (hR8.src.below (pb_alloc (Below.refl _ _) _)) (src_blk (n := 1) (size := 3) (cap := 1) (Blk.new rfl) rfl (Nat.le_refl 1)) (by decide) (by decide)
  rw [show decide ([(((3 : Int), 1), [(120 : UInt8)])] = [((3, 1), [120])]) = true by simp] at hsame
  replace hsame : Hid (Calls _ _ _ _ _) := hsame
  replace hR8 : Hid (Row _ _ _ _ _ _) := hR8
  clear hR7 km7 ke7 hb7 hb8 hb78 hb7a hbad hnew
  go_wp2_with fail
  refine hsame.out.mono ?_
  rintro r w9 ⟨rfl, hb9⟩
  go_wp2
  go_ret
  exact ⟨rfl, pb_trans (pb_alloc hbw8 _) hb9⟩
end Go.Proofs.YtaopeioebpfdeaaGreatDoor
namespace Go.Proofs.YtaopeioebpfdeaaGreatDoor
open Go Go.RowKit Go.Shelf Go.Extern.Stop Go.Stop Go.Extern

theorem NodeG.run {v : Int} {n : NodeS} (h : NodeG v n) : ∀ (xs : List ActD), (∀ x ∈ xs, x.b < 18446744073709551616) → NodeG v (runN (stBegin v) n xs) := by
  intro xs
  induction xs generalizing n with
  | nil => intro _; exact h
  | cons x xs ih => intro hx; exact ih (h.does x (hx x (List.mem_cons_self ..))) (fun y hy => hx y (List.mem_cons_of_mem _ hy))
theorem runN_take {s : StD} {n : NodeS} {es : List ActD} {k : Nat} {x : ActD} (hx : es[k]? = some x) : runN s n (es.take (k + 1)) = doesN s (runN s n (es.take k)) x := by
  unfold runN
  rw [List.take_add_one, hx]
  simp [List.foldl_append]
theorem src_takeN {w : World} {a : Option Addr} {c : Nat} {l : List MsgD} {n : Nat} (h : MsgsAt w (.slice a l.length c) l) (hn : n ≤ l.length) : MsgsAt w (.slice a n c) (l.take n) := by
  rcases h.2 with ⟨h1, h0⟩ | ⟨b, off, cap, h1, -⟩
  · injection h1 with e1 e2 e3
    have hl : l = [] := List.eq_nil_of_length_eq_zero h0
    subst hl e1 e3
    have hn0 : n = 0 := by simpa using hn
    subst hn0
    exact msgs_nil w
  · injection h1 with e1 e2 e3
    subst e1
    exact src_take h hn
theorem src_cap {w : World} {a : Option Addr} {c n : Nat} {size : Nat} {xs : List Value} (h : Src w (.slice a n c) size n xs) : (n : Int) ≤ (c : Int) := by
  rcases h.2 with ⟨h, h0⟩ | ⟨_, _, _, h, h0, -⟩
  · injection h with h1 h2 h3; omega
  · injection h with h1 h2 h3; omega
theorem NodeG.told {v : Int} {n : NodeS} (h : NodeG v n) (x : ActD) (hb : x.b < 18446744073709551616) : n.acc <+: (doesN (stBegin v) n x).acc ∧ n.loc.log <+: (doesN (stBegin v) n x).loc.log := by
  obtain ⟨⟨l, hi⟩, -⟩ := h.ok
  obtain ⟨l', hs⟩ := does_step hi x hb
  exact ⟨hs.acc, hs.log⟩
/-- An act's cells. -/
def actCells (x : ActD) : List Value := [.int .i64 x.what, .int .i64 x.inst, .int .u64 (x.b : Nat), .string (bs x.s)]
theorem act_cells {w W : World} {b off k : Nat} {x : ActD} (hb : Below w.heap.size w W) (h : ∀ j, j < 4 → w.cell? ⟨b, off + (k * 4 + j), none⟩ = (actCells x)[j]?) :
    W.cell? ⟨b, off + k * 4, none⟩ = some (.int .i64 x.what) ∧ W.cell? ⟨b, off + k * 4 + 1, none⟩ = some (.int .i64 x.inst) ∧ W.cell? ⟨b, off + k * 4 + 2, none⟩ = some (.int .u64 (x.b : Nat)) ∧ W.cell? ⟨b, off + k * 4 + 3, none⟩ = some (.string (bs x.s)) := by
  have h0 := h 0 (by omega)
  have h1 := h 1 (by omega)
  have h2 := h 2 (by omega)
  have h3 := h 3 (by omega)
  simp only [actCells, List.getElem?_cons_zero, List.getElem?_cons_succ] at h0 h1 h2 h3
  have e := fun (p : Addr) (u : Value) (hp : w.cell? p = some u) => (hb.cell (p := p) (cell_lt hp)).trans hp
  exact ⟨e _ _ h0, e _ _ h1, e _ _ h2, e _ _ h3⟩
end Go.Proofs.YtaopeioebpfdeaaGreatDoor
namespace Go.Proofs.YtaopeioebpfdeaaGreatDoor
open Go Go.RowKit Go.ChangeShapes Go.WideShapes Go.ChangeAt Go.Deep
theorem cellsU64 : Tryz.prog.cellsOf 22 = 1 := by kernel_rfl
theorem cellsStr17 : Tryz.prog.cellsOf 9 = 1 := by kernel_rfl
theorem cellsAct17 : Tryz.prog.cellsOf 24 = 4 := by kernel_rfl
theorem u64_of_wf {n : Int} (h : (Lit.int .u64 n).wf = true) : 0 ≤ n ∧ n < 18446744073709551616 := by
  simp [Lit.wf] at h
  have hmin : IntKind.u64.min = 0 := rfl
  have hmax : IntKind.u64.max = 18446744073709551615 := rfl
  omega
section
variable {H : Type} {enc : TypeId × Value → H} {w : World} {base : Nat} {held : Bool}
set_option maxRecDepth 100000 in
theorem open_act17 (fuel : Nat) (cs : List Value) (x : DataW H × List MemPlace) (h : DataW.trod enc Tryz.prog w base (fun _ => true) held fuel 24 cs = some x) :
    ∃ p : ActD, cs = actCells p ∧ p.b < 18446744073709551616 := by
  obtain ⟨ys, n, -, -, hl, hyl, hf⟩ := DataW.trod_struct Tryz.underlying24 h
  rw [cellsAct17] at hl
  match cs, hl with
  | [c0, c1, c2, c3], _ =>
  match ys, hyl with
  | [y0, y1, y2, y3], _ =>
    have h0 := hf 0 _ rfl
    have h1 := hf 1 _ rfl
    have h2 := hf 2 _ rfl
    have h3 := hf 3 _ rfl
    simp only [List.getElem_toArray, List.getElem_cons_zero, List.getElem_cons_succ, cellsInt1, cellsU64, cellsStr17, List.drop_zero, List.take_succ_cons, List.take_zero, List.drop_succ_cons, List.getElem?_cons_zero, List.getElem?_cons_succ] at h0 h1 h2 h3
    obtain ⟨k, e0, -, -⟩ := DataW.trod_int Tryz.underlying3 h0
    obtain ⟨i, e1, -, -⟩ := DataW.trod_int Tryz.underlying3 h1
    obtain ⟨b, e2, -, wb⟩ := DataW.trod_int Tryz.underlying22 h2
    obtain ⟨s, e3, -, -⟩ := DataW.trod_string Tryz.underlying9 h3
    simp at e0 e1 e2 e3
    subst e0 e1 e2 e3
    obtain ⟨b1, b2⟩ := u64_of_wf wb
    obtain ⟨b, rfl⟩ := Int.eq_ofNat_of_zero_le b1
    refine ⟨⟨k, i, b, s.data.toList⟩, ?_, by show b < _; omega⟩
    unfold actCells
    simp only [bs_of]
set_option maxRecDepth 100000 in
theorem open_acts17V {b0 : Nat} {v : Value} {d : DataW H} {p : List MemPlace} (hv : Value.okWide Tryz.prog w .any b0 52 v) (h : DataW.Trod enc Tryz.prog w base (fun _ => true) held 52 v d p) :
    ∃ l : List ActD, ElemsIn w v 4 actCells l ∧ (∀ p ∈ l, p.b < 18446744073709551616) ∧ l.length ≤ 9223372036854775807 := by
  obtain ⟨a, n, c, rfl⟩ := Go.WideShapes.okWide_slice Tryz.underlying52 hv
  obtain ⟨fuel, hf⟩ := h
  exact open_elems Tryz.underlying52 cellsAct17 open_act17 hf
set_option maxRecDepth 100000 in
theorem open_actV {b0 : Nat} {v : Value} {d : DataW H} {p : List MemPlace} (hv : Value.okWide Tryz.prog w .any b0 24 v) (h : DataW.Trod enc Tryz.prog w base (fun _ => true) held 24 v d p) :
    ∃ x : ActD, v = actV x ∧ x.b < 18446744073709551616 := by
  obtain ⟨cs, rfl, hsz⟩ := okWide_struct Tryz.underlying24 hv
  obtain ⟨fuel, hf⟩ := h
  obtain ⟨q, hq, h1⟩ := open_act17 _ _ _ hf
  refine ⟨q, ?_, h1⟩
  have : cs.toList = actCells q := by simpa [Value.cells] using hq
  unfold actV
  rw [show cs = (actCells q).toArray from by rw [← this]]
  rfl
set_option maxRecDepth 100000 in
theorem open_textV {b0 : Nat} {v : Value} {d : DataW H} {p : List MemPlace} (hv : Value.okWide Tryz.prog w .any b0 9 v) (h : DataW.Trod enc Tryz.prog w base (fun _ => true) held 9 v d p) : ∃ l : List UInt8, v = .string (bs l) := by
  obtain ⟨s, rfl⟩ := okWide_string Tryz.underlying9 hv
  exact ⟨s.data.toList, by rw [bs_of]⟩
set_option maxRecDepth 100000 in
theorem open_ballotV {b0 : Nat} {v : Value} {d : DataW H} {p : List MemPlace} (hv : Value.okWide Tryz.prog w .any b0 22 v) (h : DataW.Trod enc Tryz.prog w base (fun _ => true) held 22 v d p) : ∃ b : Nat, v = .int .u64 (b : Nat) ∧ b < 18446744073709551616 := by
  obtain ⟨n, rfl, -, -, hw⟩ := open_int Tryz.underlying22 hv h
  obtain ⟨b1, b2⟩ := u64_of_wf hw
  obtain ⟨b, rfl⟩ := Int.eq_ofNat_of_zero_le b1
  exact ⟨b, rfl, by omega⟩
end
end Go.Proofs.YtaopeioebpfdeaaGreatDoor
