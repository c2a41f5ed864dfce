/- PROVED HERE: MODELS of migrate: what a local is, what its functions compute; what a local is in memory. No condition. WALKS: migrate's now, Era, Asks, State, migrate. Condition: the local is one that calls have made; the registry's error variable holds its error. WALKS: migrate's migrate, hold. Condition: the local is one that calls have made; the registry's error variable holds its error. -/
import Derived.Test.YtaopeioebpfdeaaGreatDoorK12
import Derived.Test.YtaopeioebpfdeaaGreatDoorK13
namespace Go.Proofs.YtaopeioebpfdeaaGreatDoor
open Go Go.RowKit Go.Shelf Go.Extern.Stop Go.Stop Go.Extern
attribute [local go_sem] Oper.semAt_some wide_fn wide_depth

/-- A state: version, count, data. -/
abbrev StD := Int × Nat × List UInt8
structure LocalS where
  fold : FoldS
  st : StD
  blk : Bool
  held : List MsgD
  log : List MsgD
/-- A state, migrated to a version, unless that fails. -/
def migSt (s : StD) (v : Int) (fails : Bool) : StD := if s.1 ≠ v ∧ fails = false ∧ (migrateP s.1 s.2.1 s.2.2 v).2 = 0 then (migrateP s.1 s.2.1 s.2.2 v).1 else s
def migrateL (L : LocalS) (v : Int) (fails : Bool) : LocalS := { L with st := migSt L.st v fails, blk := decide ((migSt L.st v fails).1 ≠ v) }
def holdL (L : LocalS) (l : List MsgD) : LocalS := { L with held := L.held ++ l }
def releaseL (L : LocalS) : LocalS × List MsgD := if L.blk then (L, []) else ({ L with held := [], log := L.log ++ L.held }, L.held)
/-- The local behind the fold's Apply, and behind the migration. -/
def midL (L : LocalS) (R : FoldS × List MsgD × Bool × Int) (fails : Bool) : LocalS := if R.2.2.1 then migrateL { L with fold := R.1 } (nowP R.1.eras).2.1 fails else { L with fold := R.1 }
def applyL (L : LocalS) (e : EntryD) (fails : Bool) : LocalS × List MsgD × Int :=
  if (applyP L.fold e).2.2.2 ≠ 0 then ({ L with fold := (applyP L.fold e).1 }, [], (applyP L.fold e).2.2.2)
  else ((releaseL (holdL (midL L (applyP L.fold e) fails) (applyP L.fold e).2.1)).1, (releaseL (holdL (midL L (applyP L.fold e) fails) (applyP L.fold e).2.1)).2, 0)
def newL (v : Int) (s : StD) : LocalS := { fold := newFold v, st := s, blk := false, held := [], log := [] }

theorem migrate_to {v : Int} {c : Nat} {d : List UInt8} {to : Int} (h : (migrateP v c d to).2 = 0) : (migrateP v c d to).1.1 = to ∧ known to = true := by
  unfold migrateP at h ⊢
  split at h
  · rename_i h0; exact absurd h h0
  · rename_i h0
    have h1 := checkE_zero (Decidable.not_not.1 h0)
    have hk : known to = true := by simp [known]; omega
    rw [if_neg h0]
    split at h
    · simp at h
    · rename_i h2
      rw [if_neg h2]
      split at h
      · exact ⟨rfl, hk⟩
      · simp at h
theorem migSt_known {s : StD} (h : known s.1 = true) (v : Int) (fails : Bool) : known (migSt s v fails).1 = true := by
  unfold migSt
  split
  · rename_i hh
    have := migrate_to hh.2.2
    rw [this.1]; exact this.2
  · exact h

def localCells (fb : Nat) (hv lv : Value) (L : LocalS) : Array Value := #[.pointer (some ⟨fb, 0, none⟩), .int .i64 L.st.1, .int .u32 L.st.2.1, .string (bs L.st.2.2), .bool L.blk, hv, lv]
def LocalAt (B : Nat) (L : LocalS) (t : List Nat) (ow : Own) (W : World) : Prop :=
  known L.st.1 = true ∧ ∃ fb hv lv, Blk W B (localCells fb hv lv L) 108 ∧ FoldAt fb L.fold (t ++ [0]) ow W ∧ Row W 34 3 hv L.held.length (L.held.flatMap msgCells) ∧ Row W 34 3 lv L.log.length (L.log.flatMap msgCells) ∧
    ow B = t ∧ (∀ g, hv.ownBlock = some g → ow g = t ++ [1]) ∧ ∀ g, lv.ownBlock = some g → ow g = t ++ [2]
theorem LocalAt.loc (B : Nat) (L : LocalS) (t : List Nat) : Local t (LocalAt B L t) := by
  rintro ow ow' W W' ⟨hk0, fb, hv, lv, hB, hF, hH, hG, o1, o2, o3⟩ hs hk
  have kB := hk B hB.lt (by rw [o1]; exact Sub.rfl' t)
  have kH : ∀ g, hv.ownBlock = some g → ow' g = ow g ∧ W'.heap[g]? = W.heap[g]? := fun g hg => hk g (hH.lt hg) (by rw [o2 g hg]; exact Sub.child t 1)
  have kG : ∀ g, lv.ownBlock = some g → ow' g = ow g ∧ W'.heap[g]? = W.heap[g]? := fun g hg => hk g (hG.lt hg) (by rw [o3 g hg]; exact Sub.child t 2)
  refine ⟨hk0, fb, hv, lv, hB.kept kB.2, ?_, hH.kept (fun g hg => (kH g hg).2), hG.kept (fun g hg => (kG g hg).2), kB.1.trans o1, fun g hg => (kH g hg).1.trans (o2 g hg), fun g hg => (kG g hg).1.trans (o3 g hg)⟩
  exact (FoldAt.loc fb L.fold (t ++ [0])) ow ow' W W' hF hs (fun k hk1 hk2 => hk k hk1 ((Sub.child t 0).trans hk2))
/-- What a call on a local comes to. -/
def LocalPost (B : Nat) (L : LocalS) (t : List Nat) (ow : Own) (w : World) (v : Value) (e : Ending) (w' : World) : Prop :=
  e = .returned v ∧ ∃ ow', Step t ow w ow' w' ∧ LocalAt B L t ow' w'

theorem localPtr_nil_no (a : Addr) (w : World) : (binOp .eql 57 (.pointer (some a)) (.pointer none)).run Tryz.prog w = .ok (.bool false) w := by kernel_rfl
theorem known_nz {v : Int} (h : known v = true) : v ≠ 0 := by
  simp [known] at h; omega

set_option maxRecDepth 8000 in
theorem lNil_any (B : Nat) (L : LocalS) (t : List Nat) (ow : Own) (w : World) (h : LocalAt B L t ow w) : Calls Tryz.prog 50 #[.pointer (some ⟨B, 0, none⟩)] w fun e w' => e = .returned (.bool false) ∧ w' = w := by
  obtain ⟨hk, fb, hv, lv, hB, -⟩ := h
  have h0 := localPtr_nil_no ⟨B, 0, none⟩ w
  have h1 : (L.st.1 == 0) = false := by simpa using known_nz hk
  have h2 : L.st.1 ≠ 0 := known_nz hk
  have e0 := hB.cell
  unfold localCells at e0
  clear hB hk
  go_enter Tryz.func50, Tryz.ntmps50
  go_wp2
  go_ret
  exact ⟨rfl, rfl⟩

set_option maxRecDepth 8000 in
theorem lBlocked_any (B : Nat) (L : LocalS) (t : List Nat) (ow : Own) (w : World) (h : LocalAt B L t ow w) : Calls Tryz.prog 77 #[.pointer (some ⟨B, 0, none⟩)] w fun e w' => e = .returned (.bool L.blk) ∧ w' = w := by
  have hn := lNil_any B L t ow w h
  obtain ⟨hk, fb, hv, lv, hB, -⟩ := h
  have e0 := hB.cell
  unfold localCells at e0
  clear hB hk
  replace hn : Hid (Calls _ _ _ _ _) := hn
  go_enter Tryz.func77, Tryz.ntmps77
  go_wp2_with (go_at_call 50; refine hn.out.mono ?_; rintro e w1 ⟨rfl, rfl⟩)
  go_ret
  exact ⟨rfl, rfl⟩
set_option maxRecDepth 8000 in
/-- Log, Holds of one. -/
theorem lLog_any (B : Nat) (L : LocalS) (t : List Nat) (ow : Own) (w : World) (h : LocalAt B L t ow w) (hl : L.log.length ≤ 1073741824) : Calls Tryz.prog 22 #[.pointer (some ⟨B, 0, none⟩)] w fun e w' =>
    ∃ v', e = .returned v' ∧ Row w' 34 3 v' L.log.length (L.log.flatMap msgCells) ∧ Below w.heap.size w w' ∧ (∀ g, v'.ownBlock = some g → w.heap.size ≤ g) := by
  have hn := lNil_any B L t ow w h
  obtain ⟨hk, fb, hv, lv, hB, hF, hH, hG, -⟩ := h
  have e0 := hB.cell
  unfold localCells at e0
  have hc := clone_any lv L.log w hG.src hl
  replace hn : Hid (Calls _ _ _ _ _) := hn
  replace hc : Hid (Calls _ _ _ _ _) := hc
  clear hB hk hF hH hG
  go_enter Tryz.func22, Tryz.ntmps22
  go_wp2_with (first
    | (go_at_call 50; refine hn.out.mono ?_; rintro e w1 ⟨rfl, rfl⟩)
    | (go_at_call 49; refine hc.out.mono ?_; rintro e w2 ⟨v', rfl, h1, h2, h3⟩; replace h3 : Hid (∀ _, _) := h3))
  go_ret
  exact ⟨_, rfl, h1, h2, h3.out⟩
set_option maxRecDepth 8000 in
theorem lHolds_any (B : Nat) (L : LocalS) (t : List Nat) (ow : Own) (w : World) (h : LocalAt B L t ow w) (hl : L.held.length ≤ 1073741824) : Calls Tryz.prog 110 #[.pointer (some ⟨B, 0, none⟩)] w fun e w' =>
    ∃ v', e = .returned v' ∧ Row w' 34 3 v' L.held.length (L.held.flatMap msgCells) ∧ Below w.heap.size w w' ∧ (∀ g, v'.ownBlock = some g → w.heap.size ≤ g) := by
  have hn := lNil_any B L t ow w h
  obtain ⟨hk, fb, hv, lv, hB, hF, hH, hG, -⟩ := h
  have e0 := hB.cell
  unfold localCells at e0
  have hc := clone_any hv L.held w hH.src hl
  replace hn : Hid (Calls _ _ _ _ _) := hn
  replace hc : Hid (Calls _ _ _ _ _) := hc
  clear hB hk hF hH hG
  go_enter Tryz.func110, Tryz.ntmps110
  go_wp2_with (first
    | (go_at_call 50; refine hn.out.mono ?_; rintro e w1 ⟨rfl, rfl⟩)
    | (go_at_call 49; refine hc.out.mono ?_; rintro e w2 ⟨v', rfl, h1, h2, h3⟩; replace h3 : Hid (∀ _, _) := h3))
  go_ret
  exact ⟨_, rfl, h1, h2, h3.out⟩
end Go.Proofs.YtaopeioebpfdeaaGreatDoor

namespace Go.Proofs.YtaopeioebpfdeaaGreatDoor
open Go Go.RowKit Go.Shelf Go.Extern.Stop Go.Stop Go.Extern
attribute [local go_sem] Oper.semAt_some wide_fn wide_depth

def eraC (x : EraD) : Array Value := #[.int .u32 x.1, .int .i64 x.2.1, .int .i64 x.2.2]
theorem nowP_take {l : List EraD} {k : Nat} {x : EraD} (h : l[k]? = some x) : nowP (l.take (k + 1)) = x := by
  unfold nowP
  rw [List.take_add_one, h]; simp

set_option maxRecDepth 8000 in
set_option maxHeartbeats 1000000 in
theorem lNow_any (B : Nat) (L : LocalS) (t : List Nat) (ow : Own) (w : World) (h : LocalAt B L t ow w) (hl : L.fold.eras.length ≤ 536870912) : Calls Tryz.prog 78 #[.pointer (some ⟨B, 0, none⟩)] w fun e w' => e = .returned (eraV (nowP L.fold.eras)) ∧ Below w.heap.size w w' := by
  obtain ⟨hk, fb, hv, lv, hB, hF, -⟩ := h
  have he := eras_any fb L.fold (t ++ [0]) ow
  have hb0 := hB.cell 0
  have hBl := hB.lt
  replace hb0 : w.cell? ⟨B, 0, none⟩ = some (.pointer (some ⟨fb, 0, none⟩)) := hb0
  have hcell := fun W (hW : Below w.heap.size w W) => (hW.cell (p := ⟨B, 0, none⟩) hBl).trans hb0
  clear hB hk
  generalize L.fold.eras = l at *
  obtain ⟨⟨ep, ve, st⟩, hn⟩ : ∃ n, nowP l = n := ⟨_, rfl⟩
  rw [hn]
  unfold eraV
  replace hn : Hid (_ = _) := hn
  replace he : Hid (∀ _, _) := he
  replace hF : Hid (FoldAt _ _ _ _ _) := hF
  replace hcell : Hid (∀ _, _) := hcell
  obtain ⟨N, hN⟩ : ∃ N, N = w.heap.size := ⟨_, rfl⟩
  go_enter Tryz.func78, Tryz.ntmps78
  go_wp2_with fail
  refine (he.out _ ((FoldAt.loc fb L.fold _).below hF.out (by (repeat (first | exact Below.refl _ _ | with_reducible assumption | refine pb_alloc ?_ _ | refine pb_drew ?_ | refine pb_drewN ?_ _ | refine pb_set ?_ (by simp; try omega) _ | refine pb_trans ?_ (by with_reducible assumption))))) hl).mono ?_
  rintro e w1 ⟨ev, rfl, hR, hb1, hfr⟩
  have k2 : Blk w1 w.heap.size #[.int .u32 0, .int .i64 0, .int .i64 0] 92 := Blk.call (by (repeat (first | with_reducible assumption | (refine Blk.new ?_; simp; done) | refine Blk.alloc ?_ _ | refine Blk.drew ?_ | refine Blk.drewN ?_ _ | refine Blk.call ?_ (by with_reducible assumption)))) hb1
  have k3 : Blk w1 (w.heap.size + 1) #[.int .u32 0, .int .i64 0, .int .i64 0] 92 := Blk.call (by (repeat (first | with_reducible assumption | (refine Blk.new ?_; simp; done) | refine Blk.alloc ?_ _ | refine Blk.drew ?_ | refine Blk.drewN ?_ _ | refine Blk.call ?_ (by with_reducible assumption)))) hb1
  have hbw : Below w.heap.size w w1 := by (repeat (first | exact Below.refl _ _ | with_reducible assumption | refine pb_alloc ?_ _ | refine pb_drew ?_ | refine pb_drewN ?_ _ | refine pb_set ?_ (by simp; try omega) _ | refine pb_trans ?_ (by with_reducible assumption)))
  have hz : w.heap.size + 2 ≤ w1.heap.size := by have := hb1.size; simp at this; omega
  have hfr2 : ∀ g, ev.ownBlock = some g → w.heap.size + 1 < g := fun g hg => by have := hfr g hg; simp at this; omega
  clear hb1 hfr he hF hcell hN
  obtain ⟨ea, ec, rfl⟩ := hR.src.shape
  replace hR : Hid (Row _ _ _ _ _ _) := hR
  replace k2 : Hid (Blk _ _ _ _) := k2
  replace k3 : Hid (Blk _ _ _ _) := k3
  replace hfr2 : Hid (∀ _, _) := hfr2
  go_wp2
  go_loopw [12] (fun p12 wr => ∃ k : Nat, p12 = .int .i64 k ∧ k ≤ l.length ∧ Blk wr w.heap.size #[.int .u32 0, .int .i64 0, .int .i64 0] 92 ∧ Blk wr (w.heap.size + 1) (eraC (nowP (l.take k))) 92 ∧ Below w.heap.size w wr ∧ w.heap.size + 2 ≤ wr.heap.size ∧ Row wr 92 3 (.slice ea l.length ec) l.length (l.flatMap eraCells)) (fun p12 _ => l.length - (intOf p12).toNat)
  case atStart => exact ⟨0, rfl, Nat.zero_le _, k2.out, k3.out, hbw, hz, hR.out⟩
  case round =>
    obtain ⟨k, rfl, hkl, q2, q3, hbr, hzr, hRr⟩ := hrel
    clear k2 k3 hbw hz hR
    by_cases hlt : k < l.length
    · obtain ⟨⟨ep', ve', st'⟩, hx⟩ : ∃ x, l[k]? = some x := ⟨_, List.getElem?_eq_getElem hlt⟩
      have htk := nowP_take hx
      rcases hRr.form with ⟨-, h, -⟩ | ⟨g, cap', h, hcc, -⟩
      · omega
      cases h
      have hcell : ∀ q, q < 3 → wr.cell? ⟨g, k * 3 + q, none⟩ = (eraCells (ep', ve', st'))[q]? := fun q hq => by
        have h1 := flatEra_at l k _ hx q hq
        rw [← h1, hRr.cellAt _ (by omega)]
      have c0 : wr.cell? ⟨g, k * 3, none⟩ = some (.int .u32 ep') := hcell 0 (by omega)
      have c1 : wr.cell? ⟨g, k * 3 + 1, none⟩ = some (.int .i64 ve') := hcell 1 (by omega)
      have c2 : wr.cell? ⟨g, k * 3 + 2, none⟩ = some (.int .i64 st') := hcell 2 (by omega)
      have l3 := q3.lt
      have f3 := q3.frozen
      have q3c := q3.cell
      unfold eraC at q3c
      have hg := hfr2.out g rfl
      have hgl := hRr.lt (g := g) rfl
      have z0 : (0 : Int) ≤ k := by omega
      have z1 : (k : Int) < (l.length : Int) := by omega
      replace hRr : Hid (Row _ _ _ _ _ _) := hRr
      replace q2 : Hid (Blk _ _ _ _) := q2
      replace q3 : Hid (Blk _ _ _ _) := q3
      replace htk : Hid (_ = _) := htk
      clear hcell hx
      go_wp2
      go_roundw
      case rel =>
        refine ⟨k + 1, by go_num, by omega, ?_, ?_, ?_, ?_, ?_⟩
        · exact Blk.alloc (((q2.out.other (show w.heap.size ≠ w.heap.size + 1 by omega) _).other (show w.heap.size ≠ w.heap.size + 1 by omega) _).other (show w.heap.size ≠ w.heap.size + 1 by omega) _) _
        · rw [htk.out]
          exact Blk.alloc (((q3.out.set (o := 0) (.int .u32 ep')).set (o := 1) (.int .i64 ve')).set (o := 2) (.int .i64 st')) _
        · exact pb_alloc (pb_set (pb_set (pb_set hbr (by simp) _) (by simp) _) (by simp) _) _
        · simp; omega
        · refine Row.below (hRr.out.kept (fun g' hg' => ?_)) (pb_alloc (Below.refl _ _) _)
          cases hg'
          rw [Below.heap_setCell _ _ _ _ (show g ≠ w.heap.size + 1 by omega), Below.heap_setCell _ _ _ _ (show g ≠ w.heap.size + 1 by omega), Below.heap_setCell _ _ _ _ (show g ≠ w.heap.size + 1 by omega)]
      case measure => simp [intOf]; omega
    · have hkk : k = l.length := by omega
      subst hkk
      rw [List.take_length] at q3
      have q3c := q3.cell
      have q2c := q2.cell
      have f2 := q2.frozen
      have l2 := q2.lt
      unfold eraC at q3c
      rw [hn.out] at q3c
      simp only at q3c
      clear hRr
      have r1 := (((q2.set (o := 0) (.int .u32 ep)).set (o := 1) (.int .i64 ve)).set (o := 2) (.int .i64 st)).cell
      go_wp2
      exact bodyPost_ret (v := .agg #[.int .u32 ep, .int .i64 ve, .int .i64 st]) (by simp [results, Tryz.results78, go_sem, r1]) rfl ⟨rfl, pb_set (pb_set (pb_set hbr (by simp) _) (by simp) _) (by simp) _⟩

set_option maxRecDepth 8000 in
theorem lEra_any (B : Nat) (L : LocalS) (t : List Nat) (ow : Own) (w : World) (h : LocalAt B L t ow w) (hl : L.fold.eras.length ≤ 536870912) : Calls Tryz.prog 42 #[.pointer (some ⟨B, 0, none⟩)] w fun e w' => e = .returned (eraV (nowP L.fold.eras)) ∧ Below w.heap.size w w' := by
  have hnow := lNow_any B L t ow
  have hnil := lNil_any B L t ow
  obtain ⟨⟨ep, ve, st⟩, hn⟩ : ∃ n, nowP L.fold.eras = n := ⟨_, rfl⟩
  rw [hn] at hnow ⊢
  unfold eraV at hnow ⊢
  replace hnow : Hid (∀ _, _) := hnow
  replace hnil : Hid (∀ _, _) := hnil
  replace h : Hid (LocalAt _ _ _ _ _) := h
  replace hn : Hid (_ = _) := hn
  go_enter Tryz.func42, Tryz.ntmps42
  go_wp2_with fail
  refine (hnil.out _ ((LocalAt.loc B L t).below h.out (by (repeat (first | exact Below.refl _ _ | with_reducible assumption | refine pb_alloc ?_ _ | refine pb_drew ?_ | refine pb_drewN ?_ _ | refine pb_set ?_ (by simp; try omega) _ | refine pb_trans ?_ (by with_reducible assumption)))))).mono ?_
  rintro e w1 ⟨rfl, rfl⟩
  go_wp2_with fail
  refine (hnow.out _ ((LocalAt.loc B L t).below h.out (by (repeat (first | exact Below.refl _ _ | with_reducible assumption | refine pb_alloc ?_ _ | refine pb_drew ?_ | refine pb_drewN ?_ _ | refine pb_set ?_ (by simp; try omega) _ | refine pb_trans ?_ (by with_reducible assumption))))) hl).mono ?_
  rintro e w1 ⟨rfl, hb1⟩
  have k : Blk w1 w.heap.size #[.int .u32 0, .int .i64 0, .int .i64 0] 92 := Blk.call (by (repeat (first | with_reducible assumption | (refine Blk.new ?_; simp; done) | refine Blk.alloc ?_ _ | refine Blk.drew ?_ | refine Blk.drewN ?_ _ | refine Blk.call ?_ (by with_reducible assumption)))) hb1
  have kc := k.cell
  have kf := k.frozen
  have kl := k.lt
  have hbw : Below w.heap.size w w1 := by (repeat (first | exact Below.refl _ _ | with_reducible assumption | refine pb_alloc ?_ _ | refine pb_drew ?_ | refine pb_drewN ?_ _ | refine pb_set ?_ (by simp; try omega) _ | refine pb_trans ?_ (by with_reducible assumption)))
  have r1 := (((k.set (o := 0) (.int .u32 ep)).set (o := 1) (.int .i64 ve)).set (o := 2) (.int .i64 st)).cell
  go_wp2
  exact bodyPost_ret (v := .agg #[.int .u32 ep, .int .i64 ve, .int .i64 st]) (by simp [results, Tryz.results42, go_sem, r1]) rfl ⟨rfl, pb_set (pb_set (pb_set hbw (by simp) _) (by simp) _) (by simp) _⟩
set_option maxRecDepth 8000 in
theorem lAsks_no (B : Nat) (L : LocalS) (t : List Nat) (ow : Own) (w : World) (h : LocalAt B L t ow w) (hb : L.blk = false) : Calls Tryz.prog 40 #[.pointer (some ⟨B, 0, none⟩)] w fun e w' => e = .returned (.tuple #[.agg #[.int .i64 0, .int .u32 0, .int .i64 0, .slice none 0 0], .bool false]) ∧ Below w.heap.size w w' := by
  have hblk := lBlocked_any B L t ow
  rw [hb] at hblk
  replace hblk : Hid (∀ _, _) := hblk
  replace h : Hid (LocalAt _ _ _ _ _) := h
  replace hb : Hid (_ = _) := hb
  go_enter Tryz.func40, Tryz.ntmps40
  go_wp2_with fail
  refine (hblk.out _ ((LocalAt.loc B L t).below h.out (by (repeat (first | exact Below.refl _ _ | with_reducible assumption | refine pb_alloc ?_ _ | refine pb_drew ?_ | refine pb_drewN ?_ _ | refine pb_set ?_ (by simp; try omega) _ | refine pb_trans ?_ (by with_reducible assumption)))))).mono ?_
  rintro e w1 ⟨rfl, rfl⟩
  go_wp2
  exact bodyPost_ret (v := .tuple #[.agg #[.int .i64 0, .int .u32 0, .int .i64 0, .slice none 0 0], .bool false]) (by simp [results, Tryz.results40, go_sem]) rfl ⟨rfl, by (repeat (first | exact Below.refl _ _ | with_reducible assumption | refine pb_alloc ?_ _ | refine pb_drew ?_ | refine pb_drewN ?_ _ | refine pb_set ?_ (by simp; try omega) _ | refine pb_trans ?_ (by with_reducible assumption)))⟩
set_option maxRecDepth 8000 in
theorem lAsks_yes (B : Nat) (L : LocalS) (t : List Nat) (ow : Own) (w : World) (h : LocalAt B L t ow w) (hb : L.blk = true) (hl : L.fold.eras.length ≤ 536870912) : Calls Tryz.prog 40 #[.pointer (some ⟨B, 0, none⟩)] w fun e w' => e = .returned (.tuple #[.agg #[.int .i64 3, .int .u32 (nowP L.fold.eras).1, .int .i64 0, .slice none 0 0], .bool true]) ∧ Below w.heap.size w w' := by
  have hblk := lBlocked_any B L t ow
  rw [hb] at hblk
  have hnow := lNow_any B L t ow
  obtain ⟨⟨ep, ve, st⟩, hn⟩ : ∃ n, nowP L.fold.eras = n := ⟨_, rfl⟩
  rw [hn] at hnow ⊢
  unfold eraV at hnow
  have hf0 := era_f0 ep ve st
  replace hnow : Hid (∀ _, _) := hnow
  replace hblk : Hid (∀ _, _) := hblk
  replace h : Hid (LocalAt _ _ _ _ _) := h
  replace hb : Hid (_ = _) := hb
  replace hn : Hid (_ = _) := hn
  go_enter Tryz.func40, Tryz.ntmps40
  go_wp2_with fail
  refine (hblk.out _ ((LocalAt.loc B L t).below h.out (by (repeat (first | exact Below.refl _ _ | with_reducible assumption | refine pb_alloc ?_ _ | refine pb_drew ?_ | refine pb_drewN ?_ _ | refine pb_set ?_ (by simp; try omega) _ | refine pb_trans ?_ (by with_reducible assumption)))))).mono ?_
  rintro e w1 ⟨rfl, rfl⟩
  go_wp2_with fail
  refine (hnow.out _ ((LocalAt.loc B L t).below h.out (by (repeat (first | exact Below.refl _ _ | with_reducible assumption | refine pb_alloc ?_ _ | refine pb_drew ?_ | refine pb_drewN ?_ _ | refine pb_set ?_ (by simp; try omega) _ | refine pb_trans ?_ (by with_reducible assumption))))) hl).mono ?_
  rintro e w1 ⟨rfl, hb1⟩
  have k : Blk w1 w.heap.size #[.int .i64 0, .int .u32 0, .int .i64 0, .slice none 0 0] 65 := Blk.call (by (repeat (first | with_reducible assumption | (refine Blk.new ?_; simp; done) | refine Blk.alloc ?_ _ | refine Blk.drew ?_ | refine Blk.drewN ?_ _ | refine Blk.call ?_ (by with_reducible assumption)))) hb1
  have kc := k.cell
  have kf := k.frozen
  have kl := k.lt
  have hbw : Below w.heap.size w w1 := by (repeat (first | exact Below.refl _ _ | with_reducible assumption | refine pb_alloc ?_ _ | refine pb_drew ?_ | refine pb_drewN ?_ _ | refine pb_set ?_ (by simp; try omega) _ | refine pb_trans ?_ (by with_reducible assumption)))
  have r1 := ((((k.set (o := 0) (.int .i64 3)).set (o := 1) (.int .u32 ep)).set (o := 2) (.int .i64 0)).set (o := 3) (.slice none 0 0)).cell
  go_wp2
  exact bodyPost_ret (v := .tuple #[.agg #[.int .i64 3, .int .u32 ep, .int .i64 0, .slice none 0 0], .bool true]) (by simp [results, Tryz.results40, go_sem, r1]) rfl ⟨rfl, pb_set (pb_set (pb_set (pb_set hbw (by simp) _) (by simp) _) (by simp) _) (by simp) _⟩
end Go.Proofs.YtaopeioebpfdeaaGreatDoor

namespace Go.Proofs.YtaopeioebpfdeaaGreatDoor
open Go Go.RowKit Go.Shelf Go.Extern.Stop Go.Stop Go.Extern
attribute [local go_sem] Oper.semAt_some wide_fn wide_depth

theorem local_write {B fb : Nat} {L L' : LocalS} {t : List Nat} {ow : Own} {w W' : World} {hv lv : Value} (hk : known L'.st.1 = true) (hB : Blk w B (localCells fb hv lv L) 108) (hF : FoldAt fb L.fold (t ++ [0]) ow w)
    (hH : Row w 34 3 hv L.held.length (L.held.flatMap msgCells)) (hG : Row w 34 3 lv L.log.length (L.log.flatMap msgCells)) (o1 : ow B = t) (o2 : ∀ g, hv.ownBlock = some g → ow g = t ++ [1]) (o3 : ∀ g, lv.ownBlock = some g → ow g = t ++ [2])
    (hM : Mod (fun k => k = B) w W') (hB' : Blk W' B (localCells fb hv lv L') 108) (e1 : L'.fold = L.fold) (e2 : L'.held = L.held) (e3 : L'.log = L.log) : Step t ow w (ow.cut w) W' ∧ LocalAt B L' t (ow.cut w) W' := by
  refine ⟨⟨hM.mono (fun k _ e => by subst e; rw [o1]; exact Sub.rfl' t), fun k hk => Own.cut_old hk⟩, hk, fb, hv, lv, hB', ?_, ?_, ?_, ?_, ?_, ?_⟩
  · rw [e1]
    exact FoldAt.loc fb L.fold (t ++ [0]) _ _ _ _ hF hM.size (fun k hk hs => ⟨Own.cut_old hk, hM.block k hk (fun e => by subst e; rw [o1] at hs; exact not_child_sub t 0 hs)⟩)
  · rw [e2]; exact hH.mod hM (fun g hg => hH.ne_blk hB (by decide) hg)
  · rw [e3]; exact hG.mod hM (fun g hg => hG.ne_blk hB (by decide) hg)
  · rw [Own.cut_old hB.lt, o1]
  · intro g hg; rw [Own.cut_old (hH.lt hg), o2 g hg]
  · intro g hg; rw [Own.cut_old (hG.lt hg), o3 g hg]

set_option maxRecDepth 8000 in
set_option maxHeartbeats 1000000 in
theorem lMigrate_any (a : Addr) (B : Nat) (L : LocalS) (t : List Nat) (ow : Own) (v : Int) (fails : Bool) (w : World) (he : ErrAt w a) (h : LocalAt B L t ow w) :
    Calls Tryz.prog 132 #[.pointer (some ⟨B, 0, none⟩), .int .i64 v, .bool fails] w (LocalPost B (migrateL L v fails) t ow w (.tuple #[])) := by
  obtain ⟨hk, fb, hv, lv, hB, hF, hH, hG, o1, o2, o3⟩ := h
  have hw := fun (L' : LocalS) (W' : World) (hk' : known L'.st.1 = true) (hM : Mod (fun k => k = B) w W') (hB' : Blk W' B (localCells fb hv lv L') 108) (e1 : L'.fold = L.fold) (e2 : L'.held = L.held) (e3 : L'.log = L.log) => local_write hk' hB hF hH hG o1 o2 o3 hM hB' e1 e2 e3
  clear hF hH hG o1 o2 o3
  have hkn := migSt_known hk v fails
  unfold localCells at hB hw
  have e0 := hB.cell
  have f0 := hB.frozen
  have l0 := hB.lt
  obtain ⟨fo, ⟨sv, sc, sd⟩, bl, he', lo⟩ := L
  simp only at *
  replace hw : Hid (∀ _, _) := hw
  replace hkn : Hid (_ = _) := hkn
  replace hk : Hid (_ = _) := hk
  by_cases h1 : sv = v
  · have t1 : (sv != v) = false := by simp [h1]
    have hm : migSt (sv, sc, sd) v fails = (sv, sc, sd) := by unfold migSt; rw [if_neg (by simp [h1])]
    have hL : migrateL ⟨fo, (sv, sc, sd), bl, he', lo⟩ v fails = ⟨fo, (sv, sc, sd), false, he', lo⟩ := by unfold migrateL; simp only [hm]; simp [h1]
    rw [hL]
    replace hm : Hid (_ = _) := hm
    replace hL : Hid (_ = _) := hL
    replace hB : Hid (Blk _ _ _ _) := hB
    replace h1 : Hid (_ = _) := h1
    go_enter Tryz.func132, Tryz.ntmps132
    go_wp2
    go_end0
    have hq := hw.out ⟨fo, (sv, sc, sd), false, he', lo⟩ (w.setCell ⟨B, 4, none⟩ (.bool false)) hk.out (Mod.setCell w _ _ rfl) (hB.out.set (o := 4) (.bool false)) rfl rfl rfl
    exact ⟨rfl, _, hq.1, hq.2⟩
  · have t1 : (sv != v) = true := by simp [h1]
    cases fails
    · obtain ⟨⟨⟨v', c', d'⟩, er⟩, hmg⟩ : ∃ x, migrateP sv sc sd v = x := ⟨_, rfl⟩
      have hcall := fun W (hW : Below w.heap.size w W) => migrate_eq hmg W (he.below hW he.lt)
      by_cases h2 : er = 0
      · subst h2
        have hto := migrate_to (v := sv) (c := sc) (d := sd) (to := v) (by rw [hmg])
        rw [hmg] at hto
        obtain ⟨hv', hkv⟩ := hto
        simp only at hv'
        subst hv'
        have hm : migSt (sv, sc, sd) v' false = (v', c', d') := by unfold migSt; rw [if_pos ⟨h1, rfl, by rw [hmg]⟩, hmg]
        have hL : migrateL ⟨fo, (sv, sc, sd), bl, he', lo⟩ v' false = ⟨fo, (v', c', d'), false, he', lo⟩ := by unfold migrateL; simp only [hm]; simp
        rw [hL]
        replace hm : Hid (_ = _) := hm
        replace hL : Hid (_ = _) := hL
        replace hB : Hid (Blk _ _ _ _) := hB
        replace h1 : Hid (_ → _) := h1
        replace hmg : Hid (_ = _) := hmg
        replace hkv : Hid (_ = _) := hkv
        replace hcall : Hid (∀ _, _) := hcall
        go_enter Tryz.func132, Tryz.ntmps132
        go_wp2_with fail
        refine (hcall.out _ (Below.refl _ _)).mono ?_
        rintro e w1 ⟨rfl, hb1⟩
        have k1 := hB.out.call hb1
        have e1 := k1.cell
        have f1 := k1.frozen
        have l1 := k1.lt
        replace k1 : Hid (Blk _ _ _ _) := k1
        clear e0 f0
        go_wp2
        go_end0
        have hq := hw.out ⟨fo, (v', c', d'), false, he', lo⟩ (((((w1.setCell ⟨B, 1, none⟩ (.int .i64 v')).setCell ⟨B, 2, none⟩ (.int .u32 c')).setCell ⟨B, 3, none⟩ (.string (bs d'))).setCell ⟨B, 4, none⟩ (.bool false)).alloc (.cells #[.int .i64 v', .int .u32 c', .string (bs d')] 106)) hkv.out
          ((((((Mod.of_below (fun k => k = B) hb1).thenSet (p := ⟨B, 1, none⟩) rfl _).thenSet (p := ⟨B, 2, none⟩) rfl _).thenSet (p := ⟨B, 3, none⟩) rfl _).thenSet (p := ⟨B, 4, none⟩) rfl _).thenAlloc _)
          (Blk.alloc ((((k1.out.set (o := 1) (.int .i64 v')).set (o := 2) (.int .u32 c')).set (o := 3) (.string (bs d'))).set (o := 4) (.bool false)) _) rfl rfl rfl
        exact ⟨rfl, _, hq.1, hq.2⟩
      · have t2 : (er == 0) = false := by simpa using h2
        have hm : migSt (sv, sc, sd) v false = (sv, sc, sd) := by unfold migSt; rw [if_neg (by rw [hmg]; simp [h2])]
        have hL : migrateL ⟨fo, (sv, sc, sd), bl, he', lo⟩ v false = ⟨fo, (sv, sc, sd), true, he', lo⟩ := by unfold migrateL; simp only [hm]; simp [h1]
        rw [hL]
        replace hm : Hid (_ = _) := hm
        replace hL : Hid (_ = _) := hL
        replace hB : Hid (Blk _ _ _ _) := hB
        replace h1 : Hid (_ → _) := h1
        replace h2 : Hid (_ → _) := h2
        replace hmg : Hid (_ = _) := hmg
        replace hcall : Hid (∀ _, _) := hcall
        go_enter Tryz.func132, Tryz.ntmps132
        go_wp2_with fail
        refine (hcall.out _ (Below.refl _ _)).mono ?_
        rintro e w1 ⟨rfl, hb1⟩
        have k1 := hB.out.call hb1
        have e1 := k1.cell
        have f1 := k1.frozen
        have l1 := k1.lt
        replace k1 : Hid (Blk _ _ _ _) := k1
        clear e0 f0
        go_wp2
        go_end0
        have hq := hw.out ⟨fo, (sv, sc, sd), true, he', lo⟩ ((w1.setCell ⟨B, 4, none⟩ (.bool true)).alloc (.cells #[.int .i64 v', .int .u32 c', .string (bs d')] 106)) hk.out
          (((Mod.of_below (fun k => k = B) hb1).thenSet (p := ⟨B, 4, none⟩) rfl _).thenAlloc _)
          (Blk.alloc (k1.out.set (o := 4) (.bool true)) _) rfl rfl rfl
        exact ⟨rfl, _, hq.1, hq.2⟩
    · have hm : migSt (sv, sc, sd) v true = (sv, sc, sd) := by unfold migSt; rw [if_neg (by simp)]
      have hL : migrateL ⟨fo, (sv, sc, sd), bl, he', lo⟩ v true = ⟨fo, (sv, sc, sd), true, he', lo⟩ := by unfold migrateL; simp only [hm]; simp [h1]
      rw [hL]
      replace hm : Hid (_ = _) := hm
      replace hL : Hid (_ = _) := hL
      replace hB : Hid (Blk _ _ _ _) := hB
      replace h1 : Hid (_ → _) := h1
      go_enter Tryz.func132, Tryz.ntmps132
      go_wp2
      go_end0
      have hq := hw.out ⟨fo, (sv, sc, sd), true, he', lo⟩ (w.setCell ⟨B, 4, none⟩ (.bool true)) hk.out (Mod.setCell w _ _ rfl) (hB.out.set (o := 4) (.bool true)) rfl rfl rfl
      exact ⟨rfl, _, hq.1, hq.2⟩

set_option maxRecDepth 8000 in
set_option maxHeartbeats 1000000 in
theorem lHold_any (B : Nat) (L : LocalS) (t : List Nat) (ow : Own) (mv : Value) (ms : List MsgD) (w : World) (h : LocalAt B L t ow w) (hm : Src w mv 3 ms.length (ms.flatMap msgCells)) (hl : L.held.length + ms.length ≤ 1073741824) :
    Calls Tryz.prog 133 #[.pointer (some ⟨B, 0, none⟩), mv] w (LocalPost B (holdL L ms) t ow w (.tuple #[])) := by
  obtain ⟨hk, fb, hv, lv, hB, hF, hH, hG, o1, o2, o3⟩ := h
  unfold localCells at hB
  have e0 := hB.cell
  have l0 := hB.lt
  obtain ⟨ma, mc, rfl⟩ := hm.shape
  obtain ⟨ha, hn, hc, rfl⟩ := hH.shape
  obtain ⟨hv', W3, hrun, hrow, hgr, hown⟩ := row_append msgT hH hm (msgCells_one ms) hl 42
  have hneB : (Value.slice ha hn hc).ownBlock ≠ some B := fun e => (hH.ne_blk hB (by decide) e) rfl
  have k3 := hB.kept (hgr.block B hB.lt (fun e => hneB e.symm))
  have f3 := k3.frozen
  have l3 := k3.lt
  have c3 := k3.cell
  obtain ⟨sa, sm, sc, rfl⟩ := hrow.shape
  clear hm
  replace hB : Hid (Blk _ _ _ _) := hB
  replace hF : Hid (FoldAt _ _ _ _ _) := hF
  replace hH : Hid (Row _ _ _ _ _ _) := hH
  replace hG : Hid (Row _ _ _ _ _ _) := hG
  replace hrow : Hid (Row _ _ _ _ _ _) := hrow
  replace k3 : Hid (Blk _ _ _ _) := k3
  replace o2 : Hid (∀ _, _) := o2
  replace o3 : Hid (∀ _, _) := o3
  replace hown : Hid (_ ∨ _) := hown
  replace hneB : Hid (_ → _) := hneB
  replace hk : Hid (_ = _) := hk
  go_enter Tryz.func133, Tryz.ntmps133
  go_wp2_with (at_builtin
               refine wpList_append_by rfl _ _ _ rfl rfl rfl hrun ?_)
  go_end0
  have hg5 : ∀ g, (Value.slice sa sm sc).ownBlock = some g → ((Value.slice ha hn hc).ownBlock = some g ∨ g = w.heap.size) := fun g hg => by
    have := hown.out
    rw [hg] at this
    rcases this with h | h
    · exact .inl h.symm
    · right; simpa using h
  have hoth : ∀ k, k < w.heap.size → k ≠ B → (Value.slice ha hn hc).ownBlock ≠ some k → (W3.setCell ⟨B, 5, none⟩ (.slice sa sm sc)).heap[k]? = w.heap[k]? := fun k hk1 h1 h2 =>
    (Below.heap_setCell _ _ _ _ h1).trans (hgr.block k hk1 (fun e => h2 e.symm))
  refine ⟨rfl, ow.ext w.heap.size (fun k => (Value.slice sa sm sc).ownBlock = some k) (t ++ [1]), ⟨?_, fun k hk => Own.ext_old hk⟩, hk.out, fb, .slice sa sm sc, lv, k3.out.set (o := 5) _, ?_, ?_, ?_, ?_, ?_, ?_⟩
  · exact (Mod.grown (X := fun k => Sub t (ow k)) hgr (fun k h => by rw [o2.out k h]; exact Sub.child t 1)).thenSet (p := ⟨B, 5, none⟩) (by simp only [o1]; exact Sub.rfl' t) _
  · refine FoldAt.loc fb L.fold (t ++ [0]) _ _ _ _ hF.out (by have := hgr.size; simpa using this) (fun k hk1 hs => ⟨Own.ext_old hk1, hoth k hk1 (fun e => by subst e; rw [o1] at hs; exact not_child_sub t 0 hs) (fun e => ?_)⟩)
    rw [o2.out k e] at hs
    exact (apart_child t (show (0 : Nat) ≠ 1 by omega)).1 hs
  · unfold holdL
    simp only [List.length_append, List.flatMap_append]
    refine hrow.out.kept (fun g hg => Below.heap_setCell _ _ _ _ (fun e => ?_))
    have e' : g = B := e
    subst e'
    rcases hg5 g hg with h | h
    · exact hneB.out h
    · omega
  · refine hG.out.kept (fun g hg => hoth g (hG.out.lt hg) (fun e => ?_) (fun e => ?_))
    · subst e; have := o3.out g hg; rw [o1] at this; simp at this
    · have h1 := o3.out g hg
      rw [o2.out g e] at h1
      simp at h1
  · rw [Own.ext_old l0, o1]
  · intro g hg
    rcases hg5 g hg with h | h
    · rw [Own.ext_old (hH.out.lt h), o2.out g h]
    · rw [Own.ext_new (by omega) hg]
  · intro g hg; rw [Own.ext_old (hG.out.lt hg), o3.out g hg]
end Go.Proofs.YtaopeioebpfdeaaGreatDoor
