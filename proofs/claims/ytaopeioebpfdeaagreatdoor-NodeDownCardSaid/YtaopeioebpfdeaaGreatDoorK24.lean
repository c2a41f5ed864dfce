/- PROVED HERE: WALK: batch's Batch. Condition: the pool is one that calls have made. WALKS: ballot's fits, Right, Promise, Cast. Condition: the texts are no longer than Go lets them be. -/
import Derived.Test.YtaopeioebpfdeaaGreatDoorK18
import Derived.Test.YtaopeioebpfdeaaGreatDoorK23
namespace Go.Proofs.YtaopeioebpfdeaaGreatDoor
open Go Go.RowKit Go.Shelf Go.Extern.Stop Go.Stop Go.Extern
attribute [local go_sem] Oper.semAt_some wide_fn wide_depth

/-- What Batch's loop keeps. -/
structure BatchAt (L : List MsgD) (mb lb : Nat) (most : Nat) (W0 : World) (k : Nat) (v : Value) (X : Nat → Prop) (W : World) : Prop where
  fr : Fr (fun k => k = lb) W0 X W
  kl : Blk W lb #[v] 42
  row : Row W 34 3 v (L.take k).length ((L.take k).flatMap msgCells)
  new : ∀ g, v.ownBlock = some g → W0.heap.size ≤ g ∧ ¬ X g
theorem BatchAt.stab {L : List MsgD} {mb lb most : Nat} {W0 : World} {k : Nat} {v : Value} {X X' : Nat → Prop} {W W' : World} (h : BatchAt L mb lb most W0 k v X W) (hl : lb < W0.heap.size) (hm : Mod X W W') (hx : ∀ k, X' k → X k ∨ (W.heap.size ≤ k ∧ k < W'.heap.size)) : BatchAt L mb lb most W0 k v X' W' where
  fr := h.fr.step hm hx
  kl := h.kl.kept (h.fr.block hm hl)
  row := h.row.mod hm (fun g hg => (h.new g hg).2)
  new := fun g hg => ⟨(h.new g hg).1, fun hX => by
    rcases hx g hX with h1 | h1
    · exact (h.new g hg).2 h1
    · have := h.row.lt hg; omega⟩
/-- What Batch comes to. -/
def BatchPost (l : List MsgD) (w : World) (e : Ending) (w' : World) : Prop :=
  ∃ v, e = .returned (.tuple #[v, .int .i64 0]) ∧ Below w.heap.size w w' ∧ Row w' 34 3 v l.length (l.flatMap msgCells) ∧ ∀ g, v.ownBlock = some g → w.heap.size ≤ g
set_option maxRecDepth 8000 in
set_option maxHeartbeats 2000000 in
theorem plBatch_any (B : Nat) (p : PoolS) (t : List Nat) (ow : Own) (most : Nat) (h1 : 1 ≤ most) (h2 : most ≤ 64) (w : World) (h : PoolAt B p t ow w) :
    Calls Tryz.prog 82 #[.pointer (some ⟨B, 0, none⟩), .int .i64 most] w (BatchPost (batchP p most) w) := by
  have hlen : p.waits.length ≤ 1000000 := by have := h.1.2.2; omega
  have hit := fun cb => sorted_iter cb B p t ow hlen
  have hbp : batchP p most = (sortM (p.waits.map (·.2))).take most := rfl
  have hsl : (sortM (p.waits.map (·.2))).length = p.waits.length := by rw [(sortM_perm _).length_eq]; simp
  rw [hbp]
  have h0 := h
  obtain ⟨hok, wb, db, hB, -⟩ := h
  have hnil := fun W hW => plNil_any B wb db W hW
  unfold poolCells at hB hnil
  generalize sortM (p.waits.map (·.2)) = L at *
  have hpost : ∀ v W', Below w.heap.size w W' → Row W' 34 3 v (L.take most).length ((L.take most).flatMap msgCells) → (∀ g, v.ownBlock = some g → w.heap.size ≤ g) → BatchPost (L.take most) w (.returned (.tuple #[v, .int .i64 0])) W' := fun v W' a b c => ⟨v, rfl, a, b, c⟩
  have t1 : decide ((most : Int) < 1) = false := by simp; omega
  have t2 : decide ((64 : Int) < (most : Int)) = false := by simp; omega
  replace hpost : Hid (∀ _, _) := hpost
  replace hit : Hid (∀ _, _) := hit
  replace hnil : Hid (∀ _, _) := hnil
  replace h0 : Hid (PoolAt _ _ _ _ _) := h0
  replace hbp : Hid (_ = _) := hbp
  replace hsl : Hid (_ = _) := hsl
  replace hB : Hid (Blk _ _ _ _) := hB
  refine calls_of_wp_marks Tryz.func82 rfl ?_
  simp only [Tryz.ntmps82, List.size_toArray, List.length_cons, List.length_nil, Nat.reduceAdd, Nat.reduceSub, Array.replicate_succ, Array.replicate_zero, List.push_toArray, List.append_toArray, List.nil_append, List.cons_append]
  go_wp2
  go_step3
  go_wp2_with fail
  refine (hnil.out _ (hB.out.alloc _)).mono ?_
  rintro e w1 ⟨rfl, hw1⟩
  obtain rfl := hw1.symm
  go_wp2
  go_step3
  go_wp2_with fail
  refine (sorted_any B _).mono ?_
  rintro e w2 ⟨rfl, rfl⟩
  go_wp2_with fail
  obtain ⟨W0, hW0⟩ : ∃ W0, W0 = (((w.alloc (.cells #[.int .i64 most] 3)).alloc (.cells #[.slice none 0 0] 42)).alloc (.cells #[.pointer (some ⟨B, 0, none⟩)] 76)) := ⟨_, rfl⟩
  have hsz : W0.heap.size = w.heap.size + 3 := by rw [hW0]; simp
  have hb0 : Below w.heap.size w W0 := by rw [hW0]; (repeat (first | exact Below.refl _ _ | with_reducible assumption | refine pb_alloc ?_ _ | refine pb_drew ?_ | refine pb_drewN ?_ _ | refine pb_set ?_ (by simp; try omega) _ | refine pb_trans ?_ (by with_reducible assumption)))
  have km0 : Blk W0 w.heap.size #[.int .i64 most] 3 := by rw [hW0]; (repeat (first | with_reducible assumption | (refine Blk.new ?_; simp; done) | refine Blk.alloc ?_ _ | refine Blk.drew ?_ | refine Blk.drewN ?_ _ | refine Blk.call ?_ (by with_reducible assumption)))
  have kl0 : Blk W0 (w.heap.size + 1) #[.slice none 0 0] 42 := by rw [hW0]; (repeat (first | with_reducible assumption | (refine Blk.new ?_; simp; done) | refine Blk.alloc ?_ _ | refine Blk.drew ?_ | refine Blk.drewN ?_ _ | refine Blk.call ?_ (by with_reducible assumption)))
  have kc0 : Blk W0 (w.heap.size + 1 + 1) #[.pointer (some ⟨B, 0, none⟩)] 76 := by rw [hW0]; (repeat (first | with_reducible assumption | (refine Blk.new ?_; simp; done) | refine Blk.alloc ?_ _ | refine Blk.drew ?_ | refine Blk.drewN ?_ _ | refine Blk.call ?_ (by with_reducible assumption)))
  rw [← hW0]
  clear hW0
  refine wp_rangeBox (gf := 142) (lb := #[.pointer (some ⟨w.heap.size + 1 + 1, 0, none⟩)]) rfl (enters_of Tryz.func142 (by kernel_rfl) rfl)
      (hit.out (w.heap.size + 1 + 1)) (fun _ => rfl)
      (fun k X W => k ≤ most ∧ k ≤ L.length ∧ ∃ v, BatchAt L w.heap.size (w.heap.size + 1) most W0 k v X W)
      (fun c X W => c = .exit 0 ∧ ∃ v, BatchAt L w.heap.size (w.heap.size + 1) most W0 most v X W)
      (fun k X X' W W' h hm hx => by obtain ⟨a, b, v, h3⟩ := h; exact ⟨a, b, v, h3.stab (by omega) hm hx⟩)
      (fun c _ X X' W W' h hm hx => by obtain ⟨hc, v, h3⟩ := h; exact ⟨hc, v, h3.stab (by omega) hm hx⟩)
      (fun k X W h => by obtain ⟨a, b, v, h3⟩ := h; exact ⟨kc0.mod h3.fr.2 (by omega), (PoolAt.loc B p t).below h0.out (hb0.trans (h3.fr.below (by omega) (fun k hk => by omega)))⟩)
      (fun k X W h => by obtain ⟨a, b, v, h3⟩ := h; exact ⟨by have := h3.fr.2.size; omega, fun k hk => (h3.fr.1 k hk).2⟩)
      ⟨Nat.zero_le _, Nat.zero_le _, .slice none 0 0, Fr.refl _ _, kl0, row_nil _ _ _, by simp [Value.ownBlock]⟩
      7 34 (fun x => #[.int .i64 x.1.1, .int .u32 x.1.2, .string (bs x.2)]) ?assign ?body ?done ?stop
  case assign =>
    intro l' x W K hK
    rw [laidIn_one] at hK ⊢
    unfold msgV at hK ⊢
    gi_wp2
    exact hK
  case body =>
    rintro l' k x cb X X1 W1 W hI1 ⟨hkm, hkL, v, hI⟩ hnx hcb hcw hXc kx hXl _
    obtain ⟨hfr, kl, hrow, hnew⟩ := hI
    obtain ⟨⟨xi, xc⟩, xd⟩ := x
    have km := km0.mod hfr.2 (by omega)
    have em := km.cell
    have lm := km.lt
    have el := kl.cell
    have ll := kl.lt
    have hklt := (List.getElem?_eq_some_iff.1 hnx).1
    have htk : (L.take k).length = k := by rw [List.length_take]; omega
    rw [laidIn_one]
    unfold msgV
    simp only at kx
    rw [htk] at hrow
    by_cases hkq : k = most
    · subst hkq
      have t3 : ((k : Int) == (k : Int)) = true := by simp
      obtain ⟨va, vc, rfl⟩ := hrow.src.shape
      replace hrow : Hid (Row _ _ _ _ _ _) := hrow
      replace hnew : Hid (∀ _, _) := hnew
      replace hnx : Hid (_ = _) := hnx
      gi_wp2
      exact ⟨⟨rfl, _, hfr, kl, by rw [htk]; exact hrow.out, hnew.out⟩, Saves.refl _ _⟩
    · have t3 : ((k : Int) == (most : Int)) = false := by simp; omega
      obtain ⟨va, vc, rfl⟩ := hrow.src.shape
      have htk1 : (L.take (k + 1)) = L.take k ++ [((xi, xc), xd)] := by rw [List.take_add_one, hnx]; rfl
      have ex := kx.cell
      have hz0 := hfr.2.size
      have hva : ∀ g, (Value.slice va k vc).ownBlock = some g → g ≠ w.heap.size + 1 := fun g hg => by have := (hnew g hg).1; omega
      have hxl := kx.lt
      obtain ⟨v', W3, hrun, hrow3, hgr, hown⟩ := row_append msgT (hrow.below ((Below.refl _ _).alloc (Nat.le_refl _) (.cells #[.int .i64 xi, .int .u32 xc, .string (bs xd)] 34))) (src_blk (n := 1) (size := 3) (cap := 1) (Blk.new (w := W) (cs := #[.int .i64 xi, .int .u32 xc, .string (bs xd)]) (t := 34) rfl) rfl (Nat.le_refl 1)) (msgCells_one [((xi, xc), xd)]) (by omega) 42
      have kl3 := (kl.alloc (.cells #[.int .i64 xi, .int .u32 xc, .string (bs xd)] 34)).kept (hgr.block _ (by simp; omega) (fun e => hva _ e.symm rfl))
      have fl3 := kl3.frozen
      have el3 := kl3.cell
      have ll3 := kl3.lt
      obtain ⟨sa, sm, sc, rfl⟩ := hrow3.shape
      replace hrow : Hid (Row _ _ _ _ _ _) := hrow
      replace hrow3 : Hid (Row _ _ _ _ _ _) := hrow3
      replace hown : Hid (_ ∨ _) := hown
      replace hnew : Hid (∀ _, _) := hnew
      replace hva : Hid (∀ _, _) := hva
      replace hnx : Hid (_ = _) := hnx
      replace htk1 : Hid (_ = _) := htk1
      replace hrun : Hid (_ = _) := hrun
      gi_wp2_with (gi_at_builtin
                   refine wpListIn_append_by rfl _ _ _ rfl rfl rfl hrun.out ?_)
      have hm4 : Mod (fun k' => k' = w.heap.size + 1 ∨ (Value.slice va k vc).ownBlock = some k') W (W3.setCell ⟨w.heap.size + 1, 0, none⟩ (.slice sa sm sc)) :=
        (((Mod.refl (fun k' => k' = w.heap.size + 1 ∨ (Value.slice va k vc).ownBlock = some k') W).thenAlloc (.cells #[.int .i64 xi, .int .u32 xc, .string (bs xd)] 34)).trans (Mod.grown (X := fun k' => k' = w.heap.size + 1 ∨ (Value.slice va k vc).ownBlock = some k') hgr (fun k h => .inr h)) (fun _ _ e => e) (fun _ _ e => e)).thenSet (p := ⟨w.heap.size + 1, 0, none⟩) (.inl rfl) _
      have hg6 : ∀ g, (Value.slice sa sm sc).ownBlock = some g → W0.heap.size ≤ g ∧ ¬ X g := fun g hg => by
        have := hown.out
        rw [hg] at this
        rcases this with h | h
        · exact hnew.out g h.symm
        · simp at h; subst h; exact ⟨by omega, fun hX => by have := (hfr.1 _ hX).2; omega⟩
      refine ⟨⟨by omega, by omega, .slice sa sm sc, hfr.mod hm4 (fun k hk h => ?_), kl3.set (o := 0) _, ?_, hg6⟩, Saves.of_mod hm4 (fun k hk hX h => ?_)⟩
      · rcases h with h | h
        · exact h
        · have := (hnew.out k h).1; omega
      · rw [htk1.out, List.length_append, htk, List.length_singleton, List.flatMap_append]
        refine Row.kept (w := W3) hrow3.out (fun g hg => ?_)
        have := (hg6 g hg).1
        exact Below.heap_setCell _ _ _ _ (show g ≠ w.heap.size + 1 by omega)
      · have := hfr.1 k hX
        rcases h with h | h
        · omega
        · exact (hnew.out k h).2 hX
  case done =>
    rintro D k X W hD hXD hfin ⟨hkm, hkL, v, hI⟩ hdef
    have hfin' : k = p.waits.length := hfin
    have hLk : L.take most = L.take k := by rw [List.take_of_length_le (by have := hsl.out; omega), List.take_of_length_le (by have := hsl.out; omega)]
    obtain ⟨hfr, kl, hrow, hnew⟩ := hI
    rw [← hLk] at hrow
    have hbW : Below w.heap.size w W := hb0.trans (hfr.below (by omega) (fun k hk => by omega))
    have el := kl.cell
    have hne : ∀ g, v.ownBlock = some g → g ≠ D := fun g hg e => by subst e; obtain ⟨cur, hc⟩ := hrow.type hg; rw [hdef] at hc; cases hc
    have hnw : ∀ g, v.ownBlock = some g → w.heap.size ≤ g := fun g hg => by have := (hnew g hg).1; omega
    replace hrow : Hid (Row _ _ _ _ _ _) := hrow
    clear hnew
    go_wp2
    rw [Exit.noGoto_ret]
    exact end_mark1 (D := D) (v := .tuple #[v, .int .i64 0]) hdef (by simp [results, Tryz.results82, go_sem]) (hpost.out _ _ (below_putObj hbW (by omega) _) (hrow.out.kept (fun g hg => World.putObj_heap_other (hne g hg))) hnw)
  case stop =>
    rintro D c X W hD hXD ⟨rfl, v, hI⟩ hdef
    obtain ⟨hfr, kl, hrow, hnew⟩ := hI
    have hbW : Below w.heap.size w W := hb0.trans (hfr.below (by omega) (fun k hk => by omega))
    have el := kl.cell
    have hne : ∀ g, v.ownBlock = some g → g ≠ D := fun g hg e => by subst e; obtain ⟨cur, hc⟩ := hrow.type hg; rw [hdef] at hc; cases hc
    have hnw : ∀ g, v.ownBlock = some g → w.heap.size ≤ g := fun g hg => by have := (hnew g hg).1; omega
    replace hrow : Hid (Row _ _ _ _ _ _) := hrow
    clear hnew
    go_wp2
    rw [Exit.noGoto_ret]
    exact end_mark1 (D := D) (v := .tuple #[v, .int .i64 0]) hdef (by simp [results, Tryz.results82, go_sem]) (hpost.out _ _ (below_putObj hbW (by omega) _) (hrow.out.kept (fun g hg => World.putObj_heap_other (hne g hg))) hnw)
end Go.Proofs.YtaopeioebpfdeaaGreatDoor
namespace Go.Proofs.YtaopeioebpfdeaaGreatDoor
open Go Go.RowKit Go.Shelf Go.Extern.Stop Go.Stop Go.Extern
attribute [local go_sem] Oper.semAt_some wide_fn wide_depth

def voteV (v : VoteD) : Value := .agg #[.int .u64 (v.1 : Nat), .int .u64 (v.2.1 : Nat), .string (bs v.2.2)]
theorem bs_nil_eq (x : List UInt8) : (bs x).toList.isEmpty = x.isEmpty := by rw [bs_toList]
set_option maxHeartbeats 1000000 in
theorem fits1_any (b : Nat) (x : List UInt8) (w : World) (h0 : w.cell? ⟨b, 0, none⟩ = some (.string (bs x))) :
    Calls Tryz.prog 117 #[.slice (some ⟨b, 0, none⟩) 1 1] w fun e w' => e = .returned (.bool (decide (x.length ≤ 4000))) ∧ w' = w := by
  have hsz := bs_size x
  go_enter Tryz.func117, Tryz.ntmps117
  go_wp2
  go_loop [7] (fun p7 => ∃ k : Nat, k ≤ 1 ∧ p7 = .int .i64 k ∧ (k = 1 → x.length ≤ 4000)) (fun p7 => 1 - (intOf p7).toNat)
  case atStart => exact ⟨0, by omega, rfl, by simp⟩
  case round =>
    obtain ⟨k, hk, rfl, hx⟩ := hrel
    rcases (by omega : k = 0 ∨ k = 1) with rfl | rfl
    · by_cases h : 4000 < x.length
      · have t0 : decide ((4000 : Int) < ((bs x).size : Int)) = true := by rw [hsz]; simp; omega
        have hd : decide (x.length ≤ 4000) = false := by simp; omega
        replace hsz : Hid (_ = _) := hsz
        go_wp2
        go_ret
        exact ⟨rfl, rfl⟩
      · have t0 : decide ((4000 : Int) < ((bs x).size : Int)) = false := by rw [hsz]; simp; omega
        replace hsz : Hid (_ = _) := hsz
        go_wp2
        go_round
        case rel => exact ⟨1, by omega, by go_num, by omega⟩
        case measure => simp [intOf]
    · have hd : decide (x.length ≤ 4000) = true := by simp; omega
      go_wp2
      go_ret
      exact ⟨rfl, rfl⟩
set_option maxHeartbeats 1000000 in
theorem vRight_any (v : VoteD) (w : World) : Calls Tryz.prog 103 #[voteV v] w fun e w' => e = .returned (.bool (voteOk v)) ∧ Below w.heap.size w w' := by
  obtain ⟨p, b, x⟩ := v
  have hfit := fun bb W h => fits1_any bb x W h
  have tq := bs_nil_eq x
  unfold voteV voteOk
  simp only
  generalize decide (x.length ≤ 4000) = fx at *
  replace hfit : Hid (∀ _, _) := hfit
  by_cases hb0 : b = 0
  · subst hb0
    have t0 : (((0 : Nat) : Int) == 0) = true := rfl
    have t1 : decide (((0 : Nat) : Int) ≤ (p : Int)) = true := by simp
    have e1 : decide (0 ≤ p) = true := by simp
    rw [e1, show decide ((0 : Nat) = 0) = true from rfl]
    cases hx : x.isEmpty
    · rw [hx] at tq
      replace hx : Hid (_ = _) := hx
      go_enter Tryz.func103, Tryz.ntmps103
      go_wp2
      go_ret
      exact ⟨rfl, by (repeat (first | exact Below.refl _ _ | with_reducible assumption | refine pb_alloc ?_ _ | refine pb_drew ?_ | refine pb_drewN ?_ _ | refine pb_set ?_ (by simp; try omega) _ | refine pb_trans ?_ (by with_reducible assumption)))⟩
    · rw [hx] at tq
      replace hx : Hid (_ = _) := hx
      go_enter Tryz.func103, Tryz.ntmps103
      go_wp2_with fail
      refine (hfit.out _ _ (by simp)).mono ?_
      rintro e w1 ⟨rfl, rfl⟩
      go_wp2
      go_ret
      exact ⟨by simp, by (repeat (first | exact Below.refl _ _ | with_reducible assumption | refine pb_alloc ?_ _ | refine pb_drew ?_ | refine pb_drewN ?_ _ | refine pb_set ?_ (by simp; try omega) _ | refine pb_trans ?_ (by with_reducible assumption)))⟩
  · have t0 : ((b : Int) == 0) = false := by simpa using hb0
    rw [show decide (b = 0) = false by simpa using hb0]
    by_cases hbp : b ≤ p
    · have t1 : decide ((b : Int) ≤ (p : Int)) = true := by simpa using hbp
      rw [show decide (b ≤ p) = true by simpa using hbp]
      replace hbp : Hid (_ ≤ _) := hbp
      replace hb0 : Hid (_ → _) := hb0
      go_enter Tryz.func103, Tryz.ntmps103
      go_wp2_with fail
      refine (hfit.out _ _ (by simp)).mono ?_
      rintro e w1 ⟨rfl, rfl⟩
      go_wp2
      go_ret
      exact ⟨by simp, by (repeat (first | exact Below.refl _ _ | with_reducible assumption | refine pb_alloc ?_ _ | refine pb_drew ?_ | refine pb_drewN ?_ _ | refine pb_set ?_ (by simp; try omega) _ | refine pb_trans ?_ (by with_reducible assumption)))⟩
    · have t1 : decide ((b : Int) ≤ (p : Int)) = false := by simpa using hbp
      rw [show decide (b ≤ p) = false by simpa using hbp]
      replace hbp : Hid (_ → _) := hbp
      replace hb0 : Hid (_ → _) := hb0
      go_enter Tryz.func103, Tryz.ntmps103
      go_wp2
      go_ret
      exact ⟨by simp, by (repeat (first | exact Below.refl _ _ | with_reducible assumption | refine pb_alloc ?_ _ | refine pb_drew ?_ | refine pb_drewN ?_ _ | refine pb_set ?_ (by simp; try omega) _ | refine pb_trans ?_ (by with_reducible assumption)))⟩
/-- What Promise, Cast come to. -/
def voteE (r : VoteD × Int) : Value := .tuple #[voteV r.1, .int .i64 r.2]
set_option maxHeartbeats 1000000 in
theorem vPromise_any (v : VoteD) (b : Nat) (w : World) : Calls Tryz.prog 69 #[voteV v, .int .u64 b] w fun e w' => e = .returned (voteE (promiseV v b)) ∧ Below w.heap.size w w' := by
  have hr := fun W => vRight_any v W
  have hp : promiseV v b = if voteOk v = false ∨ b < 1 then ((0, 0, []), 2) else if b ≤ v.1 then ((0, 0, []), 80) else ((b, v.2), 0) := rfl
  generalize voteOk v = ok at *
  obtain ⟨p, q, x⟩ := v
  unfold voteE voteV at *
  simp only at hr hp ⊢
  replace hr : Hid (∀ _, _) := hr
  by_cases hok : ok = false ∨ b < 1
  · rw [if_pos hok] at hp
    rw [hp]
    replace hp : Hid (_ = _) := hp
    cases ok
    · clear hok
      go_enter Tryz.func69, Tryz.ntmps69
      go_wp2_with fail
      refine (hr.out _).mono ?_
      rintro e w1 ⟨rfl, hb1⟩
      have k1 : Blk w1 (w.heap.size + 1) #[.int .u64 0, .int .u64 0, .string ⟨#[]⟩] 39 := Blk.call (by (repeat (first | with_reducible assumption | (refine Blk.new ?_; simp; done) | refine Blk.alloc ?_ _ | refine Blk.drew ?_ | refine Blk.drewN ?_ _ | refine Blk.call ?_ (by with_reducible assumption)))) hb1
      have k0 : Blk w1 w.heap.size #[.int .u64 p, .int .u64 q, .string (bs x)] 39 := Blk.call (by (repeat (first | with_reducible assumption | (refine Blk.new ?_; simp; done) | refine Blk.alloc ?_ _ | refine Blk.drew ?_ | refine Blk.drewN ?_ _ | refine Blk.call ?_ (by with_reducible assumption)))) hb1
      have c1 := k1.cell
      have f1 := k1.frozen
      have l1 := k1.lt
      have c0 := k0.cell
      have f0 := k0.frozen
      have l0 := k0.lt
      have hbw : Below w.heap.size w w1 := by (repeat (first | exact Below.refl _ _ | with_reducible assumption | refine pb_alloc ?_ _ | refine pb_drew ?_ | refine pb_drewN ?_ _ | refine pb_set ?_ (by simp; try omega) _ | refine pb_trans ?_ (by with_reducible assumption)))
      have kr := k1
      have hbw2 := hbw
      have rr := (((kr.set (o := 0) (.int .u64 0)).set (o := 1) (.int .u64 0)).set (o := 2) (.string ⟨#[]⟩)).cell
      go_wp2
      exact bodyPost_ret (v := .tuple #[.agg #[.int .u64 0, .int .u64 0, .string ⟨#[]⟩], .int .i64 2]) (by simp [results, Tryz.results69, go_sem, rr]) rfl ⟨by first | rfl | simp, pb_set (pb_set (pb_set hbw2 (by simp) _) (by simp) _) (by simp) _⟩
    · have t1 : decide ((b : Int) < 1) = true := by rcases hok with h | h; cases h; simp; omega
      replace hok : Hid (_ ∨ _) := hok
      go_enter Tryz.func69, Tryz.ntmps69
      go_wp2_with fail
      refine (hr.out _).mono ?_
      rintro e w1 ⟨rfl, hb1⟩
      have k1 : Blk w1 (w.heap.size + 1) #[.int .u64 0, .int .u64 0, .string ⟨#[]⟩] 39 := Blk.call (by (repeat (first | with_reducible assumption | (refine Blk.new ?_; simp; done) | refine Blk.alloc ?_ _ | refine Blk.drew ?_ | refine Blk.drewN ?_ _ | refine Blk.call ?_ (by with_reducible assumption)))) hb1
      have k0 : Blk w1 w.heap.size #[.int .u64 p, .int .u64 q, .string (bs x)] 39 := Blk.call (by (repeat (first | with_reducible assumption | (refine Blk.new ?_; simp; done) | refine Blk.alloc ?_ _ | refine Blk.drew ?_ | refine Blk.drewN ?_ _ | refine Blk.call ?_ (by with_reducible assumption)))) hb1
      have c1 := k1.cell
      have f1 := k1.frozen
      have l1 := k1.lt
      have c0 := k0.cell
      have f0 := k0.frozen
      have l0 := k0.lt
      have hbw : Below w.heap.size w w1 := by (repeat (first | exact Below.refl _ _ | with_reducible assumption | refine pb_alloc ?_ _ | refine pb_drew ?_ | refine pb_drewN ?_ _ | refine pb_set ?_ (by simp; try omega) _ | refine pb_trans ?_ (by with_reducible assumption)))
      have kr := k1
      have hbw2 := hbw
      have rr := (((kr.set (o := 0) (.int .u64 0)).set (o := 1) (.int .u64 0)).set (o := 2) (.string ⟨#[]⟩)).cell
      go_wp2
      exact bodyPost_ret (v := .tuple #[.agg #[.int .u64 0, .int .u64 0, .string ⟨#[]⟩], .int .i64 2]) (by simp [results, Tryz.results69, go_sem, rr]) rfl ⟨by first | rfl | simp, pb_set (pb_set (pb_set hbw2 (by simp) _) (by simp) _) (by simp) _⟩
  · rw [if_neg hok] at hp
    obtain rfl : ok = true := by cases ok <;> simp_all
    have t1 : decide ((b : Int) < 1) = false := by simp; omega
    replace hok : Hid (_ → _) := hok
    by_cases hbp : b ≤ p
    · rw [if_pos hbp] at hp
      rw [hp]
      have t2 : decide ((b : Int) ≤ (p : Int)) = true := by simpa using hbp
      replace hp : Hid (_ = _) := hp
      replace hbp : Hid (_ ≤ _) := hbp
      go_enter Tryz.func69, Tryz.ntmps69
      go_wp2_with fail
      refine (hr.out _).mono ?_
      rintro e w1 ⟨rfl, hb1⟩
      have k1 : Blk w1 (w.heap.size + 1) #[.int .u64 0, .int .u64 0, .string ⟨#[]⟩] 39 := Blk.call (by (repeat (first | with_reducible assumption | (refine Blk.new ?_; simp; done) | refine Blk.alloc ?_ _ | refine Blk.drew ?_ | refine Blk.drewN ?_ _ | refine Blk.call ?_ (by with_reducible assumption)))) hb1
      have k0 : Blk w1 w.heap.size #[.int .u64 p, .int .u64 q, .string (bs x)] 39 := Blk.call (by (repeat (first | with_reducible assumption | (refine Blk.new ?_; simp; done) | refine Blk.alloc ?_ _ | refine Blk.drew ?_ | refine Blk.drewN ?_ _ | refine Blk.call ?_ (by with_reducible assumption)))) hb1
      have c1 := k1.cell
      have f1 := k1.frozen
      have l1 := k1.lt
      have c0 := k0.cell
      have f0 := k0.frozen
      have l0 := k0.lt
      have hbw : Below w.heap.size w w1 := by (repeat (first | exact Below.refl _ _ | with_reducible assumption | refine pb_alloc ?_ _ | refine pb_drew ?_ | refine pb_drewN ?_ _ | refine pb_set ?_ (by simp; try omega) _ | refine pb_trans ?_ (by with_reducible assumption)))
      have kr := k1
      have hbw2 := hbw
      have rr := (((kr.set (o := 0) (.int .u64 0)).set (o := 1) (.int .u64 0)).set (o := 2) (.string ⟨#[]⟩)).cell
      go_wp2
      exact bodyPost_ret (v := .tuple #[.agg #[.int .u64 0, .int .u64 0, .string ⟨#[]⟩], .int .i64 80]) (by simp [results, Tryz.results69, go_sem, rr]) rfl ⟨by first | rfl | simp, pb_set (pb_set (pb_set hbw2 (by simp) _) (by simp) _) (by simp) _⟩
    · rw [if_neg hbp] at hp
      rw [hp]
      have t2 : decide ((b : Int) ≤ (p : Int)) = false := by simpa using hbp
      replace hp : Hid (_ = _) := hp
      replace hbp : Hid (_ → _) := hbp
      go_enter Tryz.func69, Tryz.ntmps69
      go_wp2_with fail
      refine (hr.out _).mono ?_
      rintro e w1 ⟨rfl, hb1⟩
      have k1 : Blk w1 (w.heap.size + 1) #[.int .u64 0, .int .u64 0, .string ⟨#[]⟩] 39 := Blk.call (by (repeat (first | with_reducible assumption | (refine Blk.new ?_; simp; done) | refine Blk.alloc ?_ _ | refine Blk.drew ?_ | refine Blk.drewN ?_ _ | refine Blk.call ?_ (by with_reducible assumption)))) hb1
      have k0 : Blk w1 w.heap.size #[.int .u64 p, .int .u64 q, .string (bs x)] 39 := Blk.call (by (repeat (first | with_reducible assumption | (refine Blk.new ?_; simp; done) | refine Blk.alloc ?_ _ | refine Blk.drew ?_ | refine Blk.drewN ?_ _ | refine Blk.call ?_ (by with_reducible assumption)))) hb1
      have c1 := k1.cell
      have f1 := k1.frozen
      have l1 := k1.lt
      have c0 := k0.cell
      have f0 := k0.frozen
      have l0 := k0.lt
      have hbw : Below w.heap.size w w1 := by (repeat (first | exact Below.refl _ _ | with_reducible assumption | refine pb_alloc ?_ _ | refine pb_drew ?_ | refine pb_drewN ?_ _ | refine pb_set ?_ (by simp; try omega) _ | refine pb_trans ?_ (by with_reducible assumption)))
      have kr := k1.other (p := ⟨w.heap.size, 0, none⟩) (by simp) (.int .u64 b)
      have kq := (k0.set (o := 0) (.int .u64 b)).cell
      have hbw2 := pb_set hbw (p := ⟨w.heap.size, 0, none⟩) (Nat.le_refl _) (.int .u64 b)
      have rr := (((kr.set (o := 0) (.int .u64 b)).set (o := 1) (.int .u64 q)).set (o := 2) (.string (bs<|x))).cell
      go_wp2
      exact bodyPost_ret (v := .tuple #[.agg #[.int .u64 b, .int .u64 q, .string (bs<|x)], .int .i64 0]) (by simp [results, Tryz.results69, go_sem, rr]) rfl ⟨by first | rfl | simp, pb_set (pb_set (pb_set hbw2 (by simp) _) (by simp) _) (by simp) _⟩
set_option maxHeartbeats 1000000 in
theorem vCast_any (v : VoteD) (b : Nat) (y : List UInt8) (w : World) : Calls Tryz.prog 83 #[voteV v, .int .u64 b, .string (bs y)] w fun e w' => e = .returned (voteE (castV v b y)) ∧ Below w.heap.size w w' := by
  have hr := fun W => vRight_any v W
  have hfit := fun bb W h => fits1_any bb y W h
  have hp : castV v b y = if voteOk v = false ∨ b < 1 ∨ 4000 < y.length then ((0, 0, []), 2) else if b < v.1 then ((0, 0, []), 80) else ((b, b, y), 0) := rfl
  generalize voteOk v = ok at *
  obtain ⟨p, q, x⟩ := v
  unfold voteE voteV at *
  simp only at hr hp ⊢
  have hfd : decide (y.length ≤ 4000) = !decide (4000 < y.length) := by by_cases h : y.length ≤ 4000 <;> simp [h] <;> omega
  rw [hfd] at hfit
  replace hr : Hid (∀ _, _) := hr
  cases ok
  · rw [if_pos (.inl rfl)] at hp
    rw [hp]
    replace hp : Hid (_ = _) := hp
    replace hfit : Hid (∀ _, _) := hfit
    go_enter Tryz.func83, Tryz.ntmps83
    go_wp2_with fail
    refine (hr.out _).mono ?_
    rintro e w1 ⟨rfl, hb1⟩
    have k1 : Blk w1 (w.heap.size + 1) #[.int .u64 0, .int .u64 0, .string ⟨#[]⟩] 39 := Blk.call (by (repeat (first | with_reducible assumption | (refine Blk.new ?_; simp; done) | refine Blk.alloc ?_ _ | refine Blk.drew ?_ | refine Blk.drewN ?_ _ | refine Blk.call ?_ (by with_reducible assumption)))) hb1
    have k0 : Blk w1 w.heap.size #[.int .u64 p, .int .u64 q, .string (bs x)] 39 := Blk.call (by (repeat (first | with_reducible assumption | (refine Blk.new ?_; simp; done) | refine Blk.alloc ?_ _ | refine Blk.drew ?_ | refine Blk.drewN ?_ _ | refine Blk.call ?_ (by with_reducible assumption)))) hb1
    have c1 := k1.cell
    have f1 := k1.frozen
    have l1 := k1.lt
    have c0 := k0.cell
    have f0 := k0.frozen
    have l0 := k0.lt
    have hbw : Below w.heap.size w w1 := by (repeat (first | exact Below.refl _ _ | with_reducible assumption | refine pb_alloc ?_ _ | refine pb_drew ?_ | refine pb_drewN ?_ _ | refine pb_set ?_ (by simp; try omega) _ | refine pb_trans ?_ (by with_reducible assumption)))
    have kr := k1
    have hbw2 := hbw
    have rr := (((kr.set (o := 0) (.int .u64 0)).set (o := 1) (.int .u64 0)).set (o := 2) (.string ⟨#[]⟩)).cell
    go_wp2
    exact bodyPost_ret (v := .tuple #[.agg #[.int .u64 0, .int .u64 0, .string ⟨#[]⟩], .int .i64 2]) (by simp [results, Tryz.results83, go_sem, rr]) rfl ⟨by first | rfl | simp, pb_set (pb_set (pb_set hbw2 (by simp) _) (by simp) _) (by simp) _⟩
  · by_cases hb1 : b < 1
    · rw [if_pos (.inr (.inl hb1))] at hp
      rw [hp]
      have t1 : decide ((b : Int) < 1) = true := by simp; omega
      replace hp : Hid (_ = _) := hp
      replace hfit : Hid (∀ _, _) := hfit
      replace hb1 : Hid (_ < _) := hb1
      go_enter Tryz.func83, Tryz.ntmps83
      go_wp2_with fail
      refine (hr.out _).mono ?_
      rintro e w1 ⟨rfl, hb1⟩
      have k1 : Blk w1 (w.heap.size + 1) #[.int .u64 0, .int .u64 0, .string ⟨#[]⟩] 39 := Blk.call (by (repeat (first | with_reducible assumption | (refine Blk.new ?_; simp; done) | refine Blk.alloc ?_ _ | refine Blk.drew ?_ | refine Blk.drewN ?_ _ | refine Blk.call ?_ (by with_reducible assumption)))) hb1
      have k0 : Blk w1 w.heap.size #[.int .u64 p, .int .u64 q, .string (bs x)] 39 := Blk.call (by (repeat (first | with_reducible assumption | (refine Blk.new ?_; simp; done) | refine Blk.alloc ?_ _ | refine Blk.drew ?_ | refine Blk.drewN ?_ _ | refine Blk.call ?_ (by with_reducible assumption)))) hb1
      have c1 := k1.cell
      have f1 := k1.frozen
      have l1 := k1.lt
      have c0 := k0.cell
      have f0 := k0.frozen
      have l0 := k0.lt
      have hbw : Below w.heap.size w w1 := by (repeat (first | exact Below.refl _ _ | with_reducible assumption | refine pb_alloc ?_ _ | refine pb_drew ?_ | refine pb_drewN ?_ _ | refine pb_set ?_ (by simp; try omega) _ | refine pb_trans ?_ (by with_reducible assumption)))
      have kr := k1
      have hbw2 := hbw
      have rr := (((kr.set (o := 0) (.int .u64 0)).set (o := 1) (.int .u64 0)).set (o := 2) (.string ⟨#[]⟩)).cell
      go_wp2
      exact bodyPost_ret (v := .tuple #[.agg #[.int .u64 0, .int .u64 0, .string ⟨#[]⟩], .int .i64 2]) (by simp [results, Tryz.results83, go_sem, rr]) rfl ⟨by first | rfl | simp, pb_set (pb_set (pb_set hbw2 (by simp) _) (by simp) _) (by simp) _⟩
    · have t1 : decide ((b : Int) < 1) = false := by simp; omega
      by_cases hy : 4000 < y.length
      · rw [if_pos (.inr (.inr hy))] at hp
        rw [hp]
        rw [show decide (4000 < y.length) = true by simpa using hy] at hfit
        replace hp : Hid (_ = _) := hp
        replace hfit : Hid (∀ _, _) := hfit
        replace hb1 : Hid (_ → _) := hb1
        replace hy : Hid (_ < _) := hy
        clear hfd
        go_enter Tryz.func83, Tryz.ntmps83
        go_wp2_with fail
        refine (hr.out _).mono ?_
        rintro e w1 ⟨rfl, hb1⟩
        have k1 : Blk w1 (w.heap.size + 1) #[.int .u64 0, .int .u64 0, .string ⟨#[]⟩] 39 := Blk.call (by (repeat (first | with_reducible assumption | (refine Blk.new ?_; simp; done) | refine Blk.alloc ?_ _ | refine Blk.drew ?_ | refine Blk.drewN ?_ _ | refine Blk.call ?_ (by with_reducible assumption)))) hb1
        have k0 : Blk w1 w.heap.size #[.int .u64 p, .int .u64 q, .string (bs x)] 39 := Blk.call (by (repeat (first | with_reducible assumption | (refine Blk.new ?_; simp; done) | refine Blk.alloc ?_ _ | refine Blk.drew ?_ | refine Blk.drewN ?_ _ | refine Blk.call ?_ (by with_reducible assumption)))) hb1
        have c1 := k1.cell
        have f1 := k1.frozen
        have l1 := k1.lt
        have c0 := k0.cell
        have f0 := k0.frozen
        have l0 := k0.lt
        have hbw : Below w.heap.size w w1 := by (repeat (first | exact Below.refl _ _ | with_reducible assumption | refine pb_alloc ?_ _ | refine pb_drew ?_ | refine pb_drewN ?_ _ | refine pb_set ?_ (by simp; try omega) _ | refine pb_trans ?_ (by with_reducible assumption)))
        go_wp2_with fail
        refine (hfit.out _ _ (by simp)).mono ?_
        rintro e w2 ⟨rfl, rfl⟩
        have kr := k1.alloc (.cells #[.string (bs y)] 9)
        have cr := kr.cell
        have fr := kr.frozen
        have lr := kr.lt
        have rr := ((((k1.set (o := 0) (.int .u64 0)).set (o := 1) (.int .u64 0)).set (o := 2) (.string ⟨#[]⟩)).alloc (.cells #[.string (bs y)] 9)).cell
        go_wp2
        exact bodyPost_ret (v := .tuple #[.agg #[.int .u64 0, .int .u64 0, .string ⟨#[]⟩], .int .i64 2]) (by simp [results, Tryz.results83, go_sem, rr]) rfl ⟨by first | rfl | simp, pb_alloc (pb_set (pb_set (pb_set hbw (by simp) _) (by simp) _) (by simp) _) _⟩
      · rw [if_neg (by simp; omega)] at hp
        rw [show decide (4000 < y.length) = false by simpa using hy] at hfit
        replace hfit : Hid (∀ _, _) := hfit
        replace hb1 : Hid (_ → _) := hb1
        replace hy : Hid (_ → _) := hy
        clear hfd
        by_cases hbp : b < p
        · rw [if_pos hbp] at hp
          rw [hp]
          have t2 : decide ((b : Int) < (p : Int)) = true := by simpa using hbp
          replace hp : Hid (_ = _) := hp
          replace hbp : Hid (_ < _) := hbp
          go_enter Tryz.func83, Tryz.ntmps83
          go_wp2_with fail
          refine (hr.out _).mono ?_
          rintro e w1 ⟨rfl, hb1⟩
          have k1 : Blk w1 (w.heap.size + 1) #[.int .u64 0, .int .u64 0, .string ⟨#[]⟩] 39 := Blk.call (by (repeat (first | with_reducible assumption | (refine Blk.new ?_; simp; done) | refine Blk.alloc ?_ _ | refine Blk.drew ?_ | refine Blk.drewN ?_ _ | refine Blk.call ?_ (by with_reducible assumption)))) hb1
          have k0 : Blk w1 w.heap.size #[.int .u64 p, .int .u64 q, .string (bs x)] 39 := Blk.call (by (repeat (first | with_reducible assumption | (refine Blk.new ?_; simp; done) | refine Blk.alloc ?_ _ | refine Blk.drew ?_ | refine Blk.drewN ?_ _ | refine Blk.call ?_ (by with_reducible assumption)))) hb1
          have c1 := k1.cell
          have f1 := k1.frozen
          have l1 := k1.lt
          have c0 := k0.cell
          have f0 := k0.frozen
          have l0 := k0.lt
          have hbw : Below w.heap.size w w1 := by (repeat (first | exact Below.refl _ _ | with_reducible assumption | refine pb_alloc ?_ _ | refine pb_drew ?_ | refine pb_drewN ?_ _ | refine pb_set ?_ (by simp; try omega) _ | refine pb_trans ?_ (by with_reducible assumption)))
          go_wp2_with fail
          refine (hfit.out _ _ (by simp)).mono ?_
          rintro e w2 ⟨rfl, rfl⟩
          have kr := k1.alloc (.cells #[.string (bs y)] 9)
          have cr := kr.cell
          have fr := kr.frozen
          have lr := kr.lt
          have rr := ((((k1.set (o := 0) (.int .u64 0)).set (o := 1) (.int .u64 0)).set (o := 2) (.string ⟨#[]⟩)).alloc (.cells #[.string (bs y)] 9)).cell
          go_wp2
          exact bodyPost_ret (v := .tuple #[.agg #[.int .u64 0, .int .u64 0, .string ⟨#[]⟩], .int .i64 80]) (by simp [results, Tryz.results83, go_sem, rr]) rfl ⟨by first | rfl | simp, pb_alloc (pb_set (pb_set (pb_set hbw (by simp) _) (by simp) _) (by simp) _) _⟩
        · rw [if_neg hbp] at hp
          rw [hp]
          have t2 : decide ((b : Int) < (p : Int)) = false := by simpa using hbp
          replace hp : Hid (_ = _) := hp
          replace hbp : Hid (_ → _) := hbp
          go_enter Tryz.func83, Tryz.ntmps83
          go_wp2_with fail
          refine (hr.out _).mono ?_
          rintro e w1 ⟨rfl, hb1⟩
          have k1 : Blk w1 (w.heap.size + 1) #[.int .u64 0, .int .u64 0, .string ⟨#[]⟩] 39 := Blk.call (by (repeat (first | with_reducible assumption | (refine Blk.new ?_; simp; done) | refine Blk.alloc ?_ _ | refine Blk.drew ?_ | refine Blk.drewN ?_ _ | refine Blk.call ?_ (by with_reducible assumption)))) hb1
          have k0 : Blk w1 w.heap.size #[.int .u64 p, .int .u64 q, .string (bs x)] 39 := Blk.call (by (repeat (first | with_reducible assumption | (refine Blk.new ?_; simp; done) | refine Blk.alloc ?_ _ | refine Blk.drew ?_ | refine Blk.drewN ?_ _ | refine Blk.call ?_ (by with_reducible assumption)))) hb1
          have c1 := k1.cell
          have f1 := k1.frozen
          have l1 := k1.lt
          have c0 := k0.cell
          have f0 := k0.frozen
          have l0 := k0.lt
          have hbw : Below w.heap.size w w1 := by (repeat (first | exact Below.refl _ _ | with_reducible assumption | refine pb_alloc ?_ _ | refine pb_drew ?_ | refine pb_drewN ?_ _ | refine pb_set ?_ (by simp; try omega) _ | refine pb_trans ?_ (by with_reducible assumption)))
          go_wp2_with fail
          refine (hfit.out _ _ (by simp)).mono ?_
          rintro e w2 ⟨rfl, rfl⟩
          have kr := k1.alloc (.cells #[.string (bs y)] 9)
          have cr := kr.cell
          have fr := kr.frozen
          have lr := kr.lt
          have rr := ((((k1.set (o := 0) (.int .u64 b)).set (o := 1) (.int .u64 b)).set (o := 2) (.string (bs<|y))).alloc (.cells #[.string (bs y)] 9)).cell
          go_wp2
          exact bodyPost_ret (v := .tuple #[.agg #[.int .u64 b, .int .u64 b, .string (bs<|y)], .int .i64 0]) (by simp [results, Tryz.results83, go_sem, rr]) rfl ⟨by first | rfl | simp, pb_alloc (pb_set (pb_set (pb_set hbw (by simp) _) (by simp) _) (by simp) _) _⟩
end Go.Proofs.YtaopeioebpfdeaaGreatDoor
