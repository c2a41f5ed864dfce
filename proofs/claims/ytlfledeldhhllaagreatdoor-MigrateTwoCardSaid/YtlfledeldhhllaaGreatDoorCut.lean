/- WALKS: rostrumlaw10.Cut, rostrumlaw14.cut. Condition: the messages can be read. -/
import Derived.Test.YtlfledeldhhllaaGreatDoorEp1
namespace Go.Proofs.YtlfledeldhhllaaGreatDoor
open Go Go.RowKit Go.Shelf Go.Extern.Stop Go.Stop Go.Extern
attribute [local go_sem] Oper.semAt_some wide_fn wide_depth

def cutM (m : MsgD) : MsgD := (m.1, m.2.take 1100)
def cutL (l : List MsgD) : List MsgD := (l.take 80).map cutM
def cutE (e : EntryD) : EntryD := { e with msgs := cutL (e.msgs.take 70) }

set_option maxRecDepth 8000 in
set_option maxHeartbeats 1000000 in
theorem cutL_any (v : Value) (l : List MsgD) (w : World) (hv : MsgsAt w v l) (hl : l.length ≤ 9223372036854775807) (hd : ∀ m ∈ l, m.2.length ≤ 9223372036854775807) : Calls Tryz.prog 26 #[v] w fun e w' =>
    ∃ v', e = .returned v' ∧ Row w' 54 3 v' (cutL l).length ((cutL l).flatMap msgCells) ∧ Below w.heap.size w w' ∧ (∀ g, v'.ownBlock = some g → w.heap.size ≤ g) := by
  obtain ⟨a, c, rfl⟩ := hv.shape
  go_enter Tryz.func26, Tryz.ntmps26
  go_wp2
  go_loopw [3, 4] (fun p3 p4 wr => ∃ k : Nat, p4 = .int .i64 k ∧ k ≤ l.length ∧ k ≤ 80 ∧ Row wr 54 3 p3 ((l.take k).map cutM).length (((l.take k).map cutM).flatMap msgCells) ∧ Below w.heap.size w wr ∧ (∀ g, p3.ownBlock = some g → w.heap.size ≤ g)) (fun _ p4 _ => 80 - (intOf p4).toNat)
  case atStart => exact ⟨0, rfl, Nat.zero_le _, Nat.zero_le _, row_nil _ _ _, Below.refl _ _, by simp [Value.ownBlock]⟩
  case round =>
    obtain ⟨k, rfl, hk, hk80, hR, hbw, hn⟩ := hrel
    replace hn : Hid (∀ _, _) := hn
    by_cases hlt : k < l.length
    · by_cases hlt2 : k < 80
      · obtain ⟨x, hx⟩ : ∃ x, l[k]? = some x := ⟨_, List.getElem?_eq_getElem hlt⟩
        have hdx := hd x (List.mem_of_getElem? hx)
        rcases (hv.below hbw).2 with ⟨h, h'⟩ | ⟨ma, oa, ca', h, _, hra⟩
        · omega
        cases h
        have hca : ∀ j, j < 3 → wr.cell? ⟨ma, oa + (k * 3 + j), none⟩ = (msgCells x)[j]? := fun j hj => by
          have h1 := flatMsg_at l k x hx j hj
          cases hu : (msgCells x)[j]? with
          | none => simp [msgCells] at hu; omega
          | some u => exact hra _ u (h1.trans hu)
        have a0 : wr.cell? ⟨ma, oa + k * 3, none⟩ = (msgCells x)[0]? := hca 0 (by omega)
        have a1 : wr.cell? ⟨ma, oa + k * 3 + 1, none⟩ = (msgCells x)[1]? := hca 1 (by omega)
        have a2 : wr.cell? ⟨ma, oa + k * 3 + 2, none⟩ = (msgCells x)[2]? := hca 2 (by omega)
        have htk : (l.take (k + 1)).map cutM = (l.take k).map cutM ++ [cutM x] := by rw [List.take_add_one, hx]; simp
        obtain ⟨⟨i, cc⟩, d⟩ := x
        simp only [msgCells, List.getElem?_cons_zero, List.getElem?_cons_succ] at a0 a1 a2
        have hlen : ((l.take k).map cutM).length + 1 ≤ 1073741824 := by simp; omega
        have hds := bs_size d
        have hex := extract_take d
        clear hca hra
        replace hlen : Hid (_ ≤ _) := hlen
        replace htk : Hid (_ = _) := htk
        replace hx : Hid (_ = _) := hx
        replace hds : Hid (_ = _) := hds
        replace hex : Hid (∀ _, _) := hex
        replace hd : Hid (∀ _, _) := hd
        go_wp2_with (at_builtin
                     obtain ⟨nv', W3, hrun, hrow, hgr, hown⟩ := row_append msgT (hR.below (((Below.refl _ _).alloc (Nat.le_refl _) (.cells #[.int .i64 i, .int .u32 (cc : Int), .string ((bs d).extract 0 (min ((bs d).size : Int) 1100).toNat)] 54)).alloc (by simp) (.cells #[.int .i64 i, .int .u32 (cc : Int), .string ((bs d).extract 0 (min ((bs d).size : Int) 1100).toNat)] 54))) (src_blk (n := 1) (size := 3) (cap := 1) (Blk.new (w := wr.alloc (.cells #[.int .i64 i, .int .u32 (cc : Int), .string ((bs d).extract 0 (min ((bs d).size : Int) 1100).toNat)] 54)) (cs := #[.int .i64 i, .int .u32 (cc : Int), .string ((bs d).extract 0 (min ((bs d).size : Int) 1100).toNat)]) (t := 54) (b := wr.heap.size + 1) (by simp)) rfl (Nat.le_refl 1)) (by simp only [List.mem_cons, List.mem_nil_iff, or_false]; rintro u (rfl | rfl | rfl) <;> rfl) hlen.out 22
                     refine wpList_append_by rfl _ _ _ rfl rfl rfl hrun ?_
                     obtain ⟨sa, sm, sc, rfl⟩ := hrow.shape
                     clear hrun)
        go_roundw
        case rel =>
          have hst : (bs d).extract 0 (min ((bs d).size : Int) 1100).toNat = bs (d.take 1100) := by
            rw [hex.out, hds.out]
            congr 1
            rcases Nat.lt_or_ge d.length 1100 with h | h
            · rw [show (min (d.length : Int) 1100).toNat = d.length by omega, List.take_of_length_le (Nat.le_refl _), List.take_of_length_le (by omega)]
            · rw [show (min (d.length : Int) 1100).toNat = 1100 by omega]
          refine ⟨k + 1, by go_num, by omega, by omega, ?_, ?_, fun g hg => ?_⟩
          · rw [htk.out, List.length_append, List.flatMap_append]
            rw [hst] at hrow
            exact hrow
          · exact ((((hbw.alloc hbw.size _).alloc (by have := hbw.size; simp; omega) _)).grown hgr (by have := hbw.size; simp; omega) (fun g hg => hn.out g hg))
          · rw [hg] at hown
            rcases hown with h | h
            · exact hn.out g h.symm
            · simp at h; have := hbw.size; omega
        case measure => simp [intOf]; omega
      · obtain rfl : k = 80 := by omega
        have hkl : decide ((80 : Int) < 80) = false := by decide
        have hcl : cutL l = (l.take 80).map cutM := rfl
        rw [← hcl] at hR
        replace hd : Hid (∀ _, _) := hd
        replace hcl : Hid (_ = _) := hcl
        clear hv
        go_wp2
        go_ret
        exact ⟨_, rfl, hR, hbw, hn.out⟩
    · obtain rfl : k = l.length := by omega
      have hcl : cutL l = (l.take l.length).map cutM := by
        unfold cutL; rw [List.take_length, List.take_of_length_le (by omega)]
      rw [← hcl] at hR
      replace hd : Hid (∀ _, _) := hd
      replace hcl : Hid (_ = _) := hcl
      clear hv
      go_wp2
      go_ret
      exact ⟨_, rfl, hR, hbw, hn.out⟩

theorem src_take {w : World} {mb off cap : Nat} {l : List MsgD} {n : Nat} (h : MsgsAt w (.slice (some ⟨mb, off, none⟩) l.length cap) l) (hn : n ≤ l.length) : MsgsAt w (.slice (some ⟨mb, off, none⟩) n cap) (l.take n) := by
  have hlen : (l.take n).length = n := by rw [List.length_take]; omega
  refine ⟨by rw [msgCells_len], .inr ⟨mb, off, cap, by rw [hlen], ?_, fun j u hu => ?_⟩⟩
  · rcases h.2 with ⟨h, -⟩ | ⟨_, _, _, h, hc, _⟩
    · cases h
    · cases h; rw [hlen]; omega
  · rcases h.2 with ⟨h, -⟩ | ⟨_, _, _, h, _, hr⟩
    · cases h
    · cases h
      refine hr j u ?_
      have hs : l.flatMap msgCells = (l.take n).flatMap msgCells ++ (l.drop n).flatMap msgCells := by rw [← List.flatMap_append, List.take_append_drop]
      rw [hs, List.getElem?_append_left (List.getElem?_eq_some_iff.1 hu).1]
      exact hu

/-- The messages are not too long for Go. -/
def MsgsOk (l : List MsgD) : Prop := l.length ≤ 9223372036854775807 ∧ ∀ m ∈ l, m.2.length ≤ 9223372036854775807
/-- Messages that came in: they can be read, or there are none, nor room for any. -/
def MsgsIn (w : World) (v : Value) (l : List MsgD) : Prop := MsgsAt w v l ∨ ∃ a, v = .slice (some a) 0 0 ∧ l = []
theorem MsgsIn.below {w W : World} {v : Value} {l : List MsgD} (h : MsgsIn w v l) (hb : Below w.heap.size w W) : MsgsIn W v l := h.imp (fun h => h.below hb) id
set_option maxHeartbeats 400000 in
theorem cutL_zero (a : Addr) (w : World) : Calls Tryz.prog 26 #[.slice (some a) 0 0] w fun e w' =>
    ∃ v', e = .returned v' ∧ Row w' 54 3 v' (cutL []).length ((cutL []).flatMap msgCells) ∧ Below w.heap.size w w' ∧ (∀ g, v'.ownBlock = some g → w.heap.size ≤ g) := by
  go_enter Tryz.func26, Tryz.ntmps26
  go_wp2
  go_loopw [3, 4] (fun p3 p4 wr => p3 = .slice none 0 0 ∧ p4 = .int .i64 0 ∧ wr = w) (fun _ _ _ => 0)
  case atStart => exact ⟨rfl, rfl, rfl⟩
  case round =>
    obtain ⟨rfl, rfl, rfl⟩ := hrel
    go_wp2
    go_ret
    exact ⟨_, rfl, row_nil _ _ _, Below.refl _ _, by simp [Value.ownBlock]⟩
/-- What cut comes to. -/
def CutPost (e : EntryD) (w : World) (r : Ending) (w' : World) : Prop :=
  ∃ mv', r = .returned (entV (cutE e) mv') ∧ Row w' 54 3 mv' (cutE e).msgs.length ((cutE e).msgs.flatMap msgCells) ∧ Below w.heap.size w w' ∧ (∀ g, mv'.ownBlock = some g → w.heap.size ≤ g)
end Go.Proofs.YtlfledeldhhllaaGreatDoor
