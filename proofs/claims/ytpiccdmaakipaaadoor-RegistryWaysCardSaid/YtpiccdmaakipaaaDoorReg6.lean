/- WALKS: the reference's turn and Migrate; Begin of both; the laws' cut. The premise of what meets the program's Migrate: the registry's error variable holds its error. -/
import Derived.Test.YtpiccdmaakipaaaDoorReg5
namespace Go.Proofs.YtpiccdmaakipaaaDoor
open Go Go.RowKit Go.Shelf Go.Extern.Stop Go.Stop Go.Extern
attribute [local go_sem] Oper.semAt_some wide_fn wide_depth

theorem bs_cat1 (d : List UInt8) : (⟨#[98]⟩ : ByteArray) ++ bs d = bs ([98] ++ d) := by
  apply ByteArray.ext; simp [bs]
theorem bs_cat (a b : List UInt8) : bs a ++ bs b = bs (a ++ b) := by
  apply ByteArray.ext; simp [bs]

theorem extract_take (d : List UInt8) (n : Nat) : (bs d).extract 0 n = bs (d.take n) := by
  apply ByteArray.ext; simp [bs, ByteArray.data_extract]
theorem extract_drop (d : List UInt8) (n : Nat) : (bs d).extract n (bs d).size = bs (d.drop n) := by
  apply ByteArray.ext
  simp [bs, ByteArray.data_extract, ByteArray.size]
  exact List.take_of_length_le (by simp)
theorem bs_toList (d : List UInt8) : (bs d).toList = d := by
  rw [ByteArray.toList_eq]; simp [bs]

set_option maxHeartbeats 1000000 in
theorem refTurn_up1 (c : Nat) (d : List UInt8) (w : World) (hd : d.length ≤ 1000) :
    Calls Tryd.prog 27 #[.agg #[.int .i64 1, .int .u32 c, .string (bs d)], .bool true] w fun e w' =>
      e = .returned (.tuple #[stV (2, c, 98 :: d), .bool (decide (((98 :: d).length : Int) ≤ 1000))]) ∧ Below w.heap.size w w' := by
  have hc : (⟨#[98]⟩ : ByteArray) ++ bs d = bs (98 :: d) := bs_cat1 d
  have hz : (bs d).size ≤ 1000 := by rw [bs_size]; exact hd
  have hl : (98 :: d).length = (bs (98 :: d)).size := (bs_size _).symm
  rw [hl]
  clear hl
  go_enter Tryd.func27, Tryd.ntmps27
  go_wp2_with (go_at_call 41; refine (refPut_any _ _).mono ?_; rintro e w1 ⟨rfl, hb1⟩; have k0 : Blk w1 w.heap.size #[.int .i64 1, .int .u32 c, .string (bs d)] 24 := Blk.call (by (repeat (first | assumption | exact Blk.new (by simp) | refine Blk.alloc ?_ _ | refine Blk.drew ?_ | refine Blk.drewN ?_ _))) hb1; have k1 : Blk w1 (w.heap.size + 1) #[.int .i64 0, .int .u32 0, .string ⟨#[]⟩] 24 := Blk.call (by (repeat (first | assumption | exact Blk.new (by simp) | refine Blk.alloc ?_ _ | refine Blk.drew ?_ | refine Blk.drewN ?_ _))) hb1; have c0 := k0.cell; have f0 := k0.frozen; have c1 := k1.cell; have f1 := k1.frozen)
  go_region
  all_goals go_wp2
  have kk1 := ((((k1.other (p := ⟨w.heap.size, 2, none⟩) (by simp) (.string (bs (98 :: d)))).other (p := ⟨w.heap.size, 0, none⟩) (by simp) (.int .i64 2)).set (o := 0) (.int .i64 2)).set (o := 1) (.int .u32 c)).set (o := 2) (.string (bs (98 :: d)))
  have r1 := kk1.cell
  have hB : Below w.heap.size w w1 := by (repeat (first | exact Below.refl _ _ | assumption | refine pb_alloc ?_ _ | refine pb_drew ?_ | refine pb_drewN ?_ _ | refine pb_set ?_ (by simp; try omega) _ | refine pb_trans ?_ (by assumption)))
  exact bodyPost_ret (v := .tuple #[stV (2, c, 98 :: d), .bool (decide (((bs (98 :: d)).size : Int) ≤ 1000))]) (by simp [results, Tryd.results27, go_sem, r1, stV]) rfl ⟨rfl, ((((((hB).setCell (Nat.le_refl _) _).setCell (Nat.le_refl _) _).setCell (Nat.le_add_right _ _) _).setCell (Nat.le_add_right _ _) _).setCell (Nat.le_add_right _ _) _).drew⟩
set_option maxHeartbeats 1000000 in
theorem refTurn_up2 (c : Nat) (d : List UInt8) (w : World) (hd : d.length ≤ 1000) :
    Calls Tryd.prog 27 #[.agg #[.int .i64 2, .int .u32 c, .string (bs d)], .bool true] w fun e w' =>
      e = .returned (.tuple #[stV (3, c, d ++ le4 c), .bool (decide (((d ++ le4 c).length : Int) ≤ 1000))]) ∧ Below w.heap.size w w' := by
  have hc := bs_cat d (le4 c)
  have hz : (bs d).size ≤ 1000 := by rw [bs_size]; exact hd
  have h4 : (bs (le4 c)).size = 4 := by rw [bs_size]; rfl
  have hl : (d ++ le4 c).length = (bs (d ++ le4 c)).size := (bs_size _).symm
  rw [hl]
  clear hl
  go_enter Tryd.func27, Tryd.ntmps27
  go_wp2_with (go_at_call 41; refine (refPut_any _ _).mono ?_; rintro e w1 ⟨rfl, hb1⟩; have k0 : Blk w1 w.heap.size #[.int .i64 2, .int .u32 c, .string (bs d)] 24 := Blk.call (by (repeat (first | assumption | exact Blk.new (by simp) | refine Blk.alloc ?_ _ | refine Blk.drew ?_ | refine Blk.drewN ?_ _))) hb1; have k1 : Blk w1 (w.heap.size + 1) #[.int .i64 0, .int .u32 0, .string ⟨#[]⟩] 24 := Blk.call (by (repeat (first | assumption | exact Blk.new (by simp) | refine Blk.alloc ?_ _ | refine Blk.drew ?_ | refine Blk.drewN ?_ _))) hb1; have c0 := k0.cell; have f0 := k0.frozen; have c1 := k1.cell; have f1 := k1.frozen)
  go_region
  all_goals go_wp2
  have kk1 := ((((k1.other (p := ⟨w.heap.size, 2, none⟩) (by simp) (.string (bs (d ++ le4 c)))).other (p := ⟨w.heap.size, 0, none⟩) (by simp) (.int .i64 3)).set (o := 0) (.int .i64 3)).set (o := 1) (.int .u32 c)).set (o := 2) (.string (bs (d ++ le4 c)))
  have r1 := kk1.cell
  have hB : Below w.heap.size w w1 := by (repeat (first | exact Below.refl _ _ | assumption | refine pb_alloc ?_ _ | refine pb_drew ?_ | refine pb_drewN ?_ _ | refine pb_set ?_ (by simp; try omega) _ | refine pb_trans ?_ (by assumption)))
  exact bodyPost_ret (v := .tuple #[stV (3, c, d ++ le4 c), .bool (decide (((bs (d ++ le4 c)).size : Int) ≤ 1000))]) (by simp [results, Tryd.results27, go_sem, r1, stV]) rfl ⟨rfl, ((((((hB).setCell (Nat.le_refl _) _).setCell (Nat.le_refl _) _).setCell (Nat.le_add_right _ _) _).setCell (Nat.le_add_right _ _) _).setCell (Nat.le_add_right _ _) _).drew⟩

theorem suffix4 (d t : List UInt8) (ht : t.length = 4) : Lib.hasSuffix d t = (decide (4 ≤ d.length) && (d.drop (d.length - 4) == t)) := by
  have hiff : Lib.hasSuffix d t = true ↔ (decide (4 ≤ d.length) && (d.drop (d.length - 4) == t)) = true := by
    unfold Lib.hasSuffix
    rw [List.isSuffixOf_iff_suffix]
    simp only [Bool.and_eq_true, decide_eq_true_eq, beq_iff_eq]
    constructor
    · rintro ⟨r, rfl⟩
      constructor
      · simp; omega
      · simp [ht]
    · rintro ⟨h1, h2⟩
      exact ⟨d.take (d.length - 4), by rw [← h2, List.take_append_drop]⟩
  cases h1 : Lib.hasSuffix d t <;> cases h2 : (decide (4 ≤ d.length) && (d.drop (d.length - 4) == t)) <;> simp_all
set_option maxHeartbeats 1000000 in
theorem refTurn_down3 (c : Nat) (d : List UInt8) (w : World) (hd : d.length ≤ 1000) (hs : Lib.hasSuffix d (le4 c) = true) :
    Calls Tryd.prog 27 #[.agg #[.int .i64 3, .int .u32 c, .string (bs d)], .bool false] w fun e w' =>
      e = .returned (.tuple #[stV (2, c, Lib.trimSuffix d (le4 c)), .bool true]) ∧ Below w.heap.size w w' := by
  have hz : (bs d).size ≤ 1000 := by rw [bs_size]; exact hd
  have ht : Lib.trimSuffix d (le4 c) = d.take ((bs d).size - 4) := by unfold Lib.trimSuffix; rw [if_pos hs, bs_size]; rfl
  rw [suffix4 d _ (le4_length c)] at hs
  simp only [Bool.and_eq_true, decide_eq_true_eq] at hs
  have h4 : 4 ≤ (bs d).size := by rw [bs_size]; exact hs.1
  have hcmp : (!((bs d).extract ((bs d).size - 4) (bs d).size).toList == (bs (le4 c)).toList) = false := by
    rw [extract_drop, bs_toList, bs_toList, bs_size, hs.2]; rfl
  have h4' : decide (((bs d).size : Int) < 4) = false := by simp; omega
  clear hs
  rw [ht]
  clear ht
  go_enter Tryd.func27, Tryd.ntmps27
  go_wp2_with (go_at_call 41; refine (refPut_any _ _).mono ?_; rintro e w1 ⟨rfl, hb1⟩; have k0 : Blk w1 w.heap.size #[.int .i64 3, .int .u32 c, .string (bs d)] 24 := Blk.call (by (repeat (first | assumption | exact Blk.new (by simp) | refine Blk.alloc ?_ _ | refine Blk.drew ?_ | refine Blk.drewN ?_ _))) hb1; have k1 : Blk w1 (w.heap.size + 1) #[.int .i64 0, .int .u32 0, .string ⟨#[]⟩] 24 := Blk.call (by (repeat (first | assumption | exact Blk.new (by simp) | refine Blk.alloc ?_ _ | refine Blk.drew ?_ | refine Blk.drewN ?_ _))) hb1; have c0 := k0.cell; have f0 := k0.frozen; have c1 := k1.cell; have f1 := k1.frozen)
  have kk1 := ((((k1.other (p := ⟨w.heap.size, 2, none⟩) (by simp) (.string ((bs d).extract 0 ((bs d).size - 4)))).other (p := ⟨w.heap.size, 0, none⟩) (by simp) (.int .i64 2)).set (o := 0) (.int .i64 2)).set (o := 1) (.int .u32 c)).set (o := 2) (.string ((bs d).extract 0 ((bs d).size - 4)))
  have r1 := kk1.cell
  rw [extract_take] at *
  have hB : Below w.heap.size w w1 := by (repeat (first | exact Below.refl _ _ | assumption | refine pb_alloc ?_ _ | refine pb_drew ?_ | refine pb_drewN ?_ _ | refine pb_set ?_ (by simp; try omega) _ | refine pb_trans ?_ (by assumption)))
  exact bodyPost_ret (v := .tuple #[stV (2, c, d.take ((bs d).size - 4)), .bool true]) (by simp [results, Tryd.results27, go_sem, r1, stV]) rfl ⟨rfl, (((((hB).setCell (Nat.le_refl _) _).setCell (Nat.le_refl _) _).setCell (Nat.le_add_right _ _) _).setCell (Nat.le_add_right _ _) _).setCell (Nat.le_add_right _ _) _⟩
set_option maxHeartbeats 1000000 in
theorem refTurn_no3 (c : Nat) (d : List UInt8) (w : World) (hd : d.length ≤ 1000) (hs : Lib.hasSuffix d (le4 c) = false) :
    Calls Tryd.prog 27 #[.agg #[.int .i64 3, .int .u32 c, .string (bs d)], .bool false] w fun e w' =>
      e = .returned (.tuple #[stV (3, c, d), .bool false]) ∧ Below w.heap.size w w' := by
  have hz : (bs d).size ≤ 1000 := by rw [bs_size]; exact hd
  rw [suffix4 d _ (le4_length c)] at hs
  by_cases h4 : 4 ≤ (bs d).size
  · have hcmp : (!((bs d).extract ((bs d).size - 4) (bs d).size).toList == (bs (le4 c)).toList) = true := by
      rw [extract_drop, bs_toList, bs_toList, bs_size]
      rw [bs_size] at h4
      simp only [h4, decide_true, Bool.true_and] at hs
      rw [hs]; rfl
    have h4' : decide (((bs d).size : Int) < 4) = false := by simp; omega
    clear hs
    go_enter Tryd.func27, Tryd.ntmps27
    go_wp2_with (go_at_call 41; refine (refPut_any _ _).mono ?_; rintro e w1 ⟨rfl, hb1⟩; have k0 : Blk w1 w.heap.size #[.int .i64 3, .int .u32 c, .string (bs d)] 24 := Blk.call (by (repeat (first | assumption | exact Blk.new (by simp) | refine Blk.alloc ?_ _ | refine Blk.drew ?_ | refine Blk.drewN ?_ _))) hb1; have k1 : Blk w1 (w.heap.size + 1) #[.int .i64 0, .int .u32 0, .string ⟨#[]⟩] 24 := Blk.call (by (repeat (first | assumption | exact Blk.new (by simp) | refine Blk.alloc ?_ _ | refine Blk.drew ?_ | refine Blk.drewN ?_ _))) hb1; have c0 := k0.cell; have f0 := k0.frozen; have c1 := k1.cell; have f1 := k1.frozen)
    have kk1 := ((k1.set (o := 0) (.int .i64 3)).set (o := 1) (.int .u32 c)).set (o := 2) (.string (bs d))
    have r1 := kk1.cell
    have hB : Below w.heap.size w w1 := by (repeat (first | exact Below.refl _ _ | assumption | refine pb_alloc ?_ _ | refine pb_drew ?_ | refine pb_drewN ?_ _ | refine pb_set ?_ (by simp; try omega) _ | refine pb_trans ?_ (by assumption)))
    exact bodyPost_ret (v := .tuple #[stV (3, c, d), .bool false]) (by simp [results, Tryd.results27, go_sem, r1, stV]) rfl ⟨rfl, (((hB).setCell (Nat.le_add_right _ _) _).setCell (Nat.le_add_right _ _) _).setCell (Nat.le_add_right _ _) _⟩
  · have h4' : decide (((bs d).size : Int) < 4) = true := by simp; omega
    clear hs
    go_enter Tryd.func27, Tryd.ntmps27
    go_wp2_with (go_at_call 41; refine (refPut_any _ _).mono ?_; rintro e w1 ⟨rfl, hb1⟩; have k0 : Blk w1 w.heap.size #[.int .i64 3, .int .u32 c, .string (bs d)] 24 := Blk.call (by (repeat (first | assumption | exact Blk.new (by simp) | refine Blk.alloc ?_ _ | refine Blk.drew ?_ | refine Blk.drewN ?_ _))) hb1; have k1 : Blk w1 (w.heap.size + 1) #[.int .i64 0, .int .u32 0, .string ⟨#[]⟩] 24 := Blk.call (by (repeat (first | assumption | exact Blk.new (by simp) | refine Blk.alloc ?_ _ | refine Blk.drew ?_ | refine Blk.drewN ?_ _))) hb1; have c0 := k0.cell; have f0 := k0.frozen; have c1 := k1.cell; have f1 := k1.frozen)
    have kk1 := ((k1.set (o := 0) (.int .i64 3)).set (o := 1) (.int .u32 c)).set (o := 2) (.string (bs d))
    have r1 := kk1.cell
    have hB : Below w.heap.size w w1 := by (repeat (first | exact Below.refl _ _ | assumption | refine pb_alloc ?_ _ | refine pb_drew ?_ | refine pb_drewN ?_ _ | refine pb_set ?_ (by simp; try omega) _ | refine pb_trans ?_ (by assumption)))
    exact bodyPost_ret (v := .tuple #[stV (3, c, d), .bool false]) (by simp [results, Tryd.results27, go_sem, r1, stV]) rfl ⟨rfl, (((hB).setCell (Nat.le_add_right _ _) _).setCell (Nat.le_add_right _ _) _).setCell (Nat.le_add_right _ _) _⟩
set_option maxHeartbeats 1000000 in
theorem refTurn_down2 (c : Nat) (d : List UInt8) (w : World) (hd : (98 :: d).length ≤ 1000) :
    Calls Tryd.prog 27 #[.agg #[.int .i64 2, .int .u32 c, .string (bs (98 :: d))], .bool false] w fun e w' =>
      e = .returned (.tuple #[stV (1, c, d), .bool true]) ∧ Below w.heap.size w w' := by
  have hz : (bs (98 :: d)).size ≤ 1000 := by rw [bs_size]; exact hd
  have h4 : 1 ≤ (bs (98 :: d)).size := by rw [bs_size]; simp
  have h4' : decide (((bs (98 :: d)).size : Int) < 1) = false := by simp; omega
  have hx : (((bs (98 :: d))[0].toNat : Int) != 98) = false := rfl
  go_enter Tryd.func27, Tryd.ntmps27
  go_wp2_with (go_at_call 41; refine (refPut_any _ _).mono ?_; rintro e w1 ⟨rfl, hb1⟩; have k0 : Blk w1 w.heap.size #[.int .i64 2, .int .u32 c, .string (bs (98 :: d))] 24 := Blk.call (by (repeat (first | assumption | exact Blk.new (by simp) | refine Blk.alloc ?_ _ | refine Blk.drew ?_ | refine Blk.drewN ?_ _))) hb1; have k1 : Blk w1 (w.heap.size + 1) #[.int .i64 0, .int .u32 0, .string ⟨#[]⟩] 24 := Blk.call (by (repeat (first | assumption | exact Blk.new (by simp) | refine Blk.alloc ?_ _ | refine Blk.drew ?_ | refine Blk.drewN ?_ _))) hb1; have c0 := k0.cell; have f0 := k0.frozen; have c1 := k1.cell; have f1 := k1.frozen)
  have hdr : (bs (98 :: d)).extract 1 (bs (98 :: d)).size = bs d := by rw [extract_drop]; rfl
  have kk1 := ((((k1.other (p := ⟨w.heap.size, 2, none⟩) (by simp) (.string ((bs (98 :: d)).extract 1 (bs (98 :: d)).size))).other (p := ⟨w.heap.size, 0, none⟩) (by simp) (.int .i64 1)).set (o := 0) (.int .i64 1)).set (o := 1) (.int .u32 c)).set (o := 2) (.string ((bs (98 :: d)).extract 1 (bs (98 :: d)).size))
  have r1 := kk1.cell
  rw [hdr] at r1 ⊢
  have hB : Below w.heap.size w w1 := by (repeat (first | exact Below.refl _ _ | assumption | refine pb_alloc ?_ _ | refine pb_drew ?_ | refine pb_drewN ?_ _ | refine pb_set ?_ (by simp; try omega) _ | refine pb_trans ?_ (by assumption)))
  exact bodyPost_ret (v := .tuple #[stV (1, c, d), .bool true]) (by simp [results, Tryd.results27, go_sem, r1, stV]) rfl ⟨rfl, (((((hB).setCell (Nat.le_refl _) _).setCell (Nat.le_refl _) _).setCell (Nat.le_add_right _ _) _).setCell (Nat.le_add_right _ _) _).setCell (Nat.le_add_right _ _) _⟩
set_option maxHeartbeats 1000000 in
theorem refTurn_no2 (c : Nat) (d : List UInt8) (w : World) (hd : d.length ≤ 1000) (hs : Lib.hasPrefix d [98] = false) :
    Calls Tryd.prog 27 #[.agg #[.int .i64 2, .int .u32 c, .string (bs d)], .bool false] w fun e w' =>
      e = .returned (.tuple #[stV (2, c, d), .bool false]) ∧ Below w.heap.size w w' := by
  have hz : (bs d).size ≤ 1000 := by rw [bs_size]; exact hd
  by_cases h4 : 1 ≤ (bs d).size
  · have hx : ((((bs d)[0]'(h4)).toNat : Int) != 98) = true := by
      cases d with
      | nil => simp [bs_size] at h4
      | cons x d =>
        have h0 : (bs (x :: d))[0]'(h4) = x := rfl
        rw [h0]
        simp [Lib.hasPrefix, List.isPrefixOf] at hs
        simp
        intro hq
        exact hs (UInt8.toNat_inj.1 (by simp; omega))
    have h4' : decide (((bs d).size : Int) < 1) = false := by simp; omega
    clear hs
    go_enter Tryd.func27, Tryd.ntmps27
    go_wp2_with (go_at_call 41; refine (refPut_any _ _).mono ?_; rintro e w1 ⟨rfl, hb1⟩; have k0 : Blk w1 w.heap.size #[.int .i64 2, .int .u32 c, .string (bs d)] 24 := Blk.call (by (repeat (first | assumption | exact Blk.new (by simp) | refine Blk.alloc ?_ _ | refine Blk.drew ?_ | refine Blk.drewN ?_ _))) hb1; have k1 : Blk w1 (w.heap.size + 1) #[.int .i64 0, .int .u32 0, .string ⟨#[]⟩] 24 := Blk.call (by (repeat (first | assumption | exact Blk.new (by simp) | refine Blk.alloc ?_ _ | refine Blk.drew ?_ | refine Blk.drewN ?_ _))) hb1; have c0 := k0.cell; have f0 := k0.frozen; have c1 := k1.cell; have f1 := k1.frozen)
    have kk1 := ((k1.set (o := 0) (.int .i64 2)).set (o := 1) (.int .u32 c)).set (o := 2) (.string (bs d))
    have r1 := kk1.cell
    have hB : Below w.heap.size w w1 := by (repeat (first | exact Below.refl _ _ | assumption | refine pb_alloc ?_ _ | refine pb_drew ?_ | refine pb_drewN ?_ _ | refine pb_set ?_ (by simp; try omega) _ | refine pb_trans ?_ (by assumption)))
    exact bodyPost_ret (v := .tuple #[stV (2, c, d), .bool false]) (by simp [results, Tryd.results27, go_sem, r1, stV]) rfl ⟨rfl, (((hB).setCell (Nat.le_add_right _ _) _).setCell (Nat.le_add_right _ _) _).setCell (Nat.le_add_right _ _) _⟩
  · have h4' : decide (((bs d).size : Int) < 1) = true := by simp; omega
    clear hs
    go_enter Tryd.func27, Tryd.ntmps27
    go_wp2_with (go_at_call 41; refine (refPut_any _ _).mono ?_; rintro e w1 ⟨rfl, hb1⟩; have k0 : Blk w1 w.heap.size #[.int .i64 2, .int .u32 c, .string (bs d)] 24 := Blk.call (by (repeat (first | assumption | exact Blk.new (by simp) | refine Blk.alloc ?_ _ | refine Blk.drew ?_ | refine Blk.drewN ?_ _))) hb1; have k1 : Blk w1 (w.heap.size + 1) #[.int .i64 0, .int .u32 0, .string ⟨#[]⟩] 24 := Blk.call (by (repeat (first | assumption | exact Blk.new (by simp) | refine Blk.alloc ?_ _ | refine Blk.drew ?_ | refine Blk.drewN ?_ _))) hb1; have c0 := k0.cell; have f0 := k0.frozen; have c1 := k1.cell; have f1 := k1.frozen)
    have kk1 := ((k1.set (o := 0) (.int .i64 2)).set (o := 1) (.int .u32 c)).set (o := 2) (.string (bs d))
    have r1 := kk1.cell
    have hB : Below w.heap.size w w1 := by (repeat (first | exact Below.refl _ _ | assumption | refine pb_alloc ?_ _ | refine pb_drew ?_ | refine pb_drewN ?_ _ | refine pb_set ?_ (by simp; try omega) _ | refine pb_trans ?_ (by assumption)))
    exact bodyPost_ret (v := .tuple #[stV (2, c, d), .bool false]) (by simp [results, Tryd.results27, go_sem, r1, stV]) rfl ⟨rfl, (((hB).setCell (Nat.le_add_right _ _) _).setCell (Nat.le_add_right _ _) _).setCell (Nat.le_add_right _ _) _⟩

/-- One turn of the reference is the program's. -/
theorem refTurn_any (s to : Int) (c : Nat) (d : List UInt8) (w : World) (h1 : 1 ≤ s) (h3 : s ≤ 3) (t1 : 1 ≤ to) (t3 : to ≤ 3) (hne : s ≠ to) (hd : d.length ≤ 1000) :
    (∃ d2, turnD s (nextV s to) c d = some d2 ∧ d2.length ≤ 1000 ∧ Calls Tryd.prog 27 #[.agg #[.int .i64 s, .int .u32 c, .string (bs d)], .bool (decide (s < to))] w fun e w' =>
      e = .returned (.tuple #[.agg #[.int .i64 (nextV s to), .int .u32 c, .string (bs d2)], .bool true]) ∧ Below w.heap.size w w') ∨
    (turnD s (nextV s to) c d = none ∧ ∃ a b e1, Calls Tryd.prog 27 #[.agg #[.int .i64 s, .int .u32 c, .string (bs d)], .bool (decide (s < to))] w fun e w' =>
      e = .returned (.tuple #[.agg #[.int .i64 a, .int .u32 b, .string (bs e1)], .bool false]) ∧ Below w.heap.size w w') := by
  obtain rfl | rfl | rfl : s = 1 ∨ s = 2 ∨ s = 3 := by omega
  · have hn : nextV 1 to = 2 := by unfold nextV; rw [if_neg (by omega)]; rfl
    have hu : decide ((1 : Int) < to) = true := by simp; omega
    rw [hn, hu]
    have hw := refTurn_up1 c d w hd
    by_cases hf : ([98] ++ d).length ≤ 1000
    · rw [show decide (((98 :: d).length : Int) ≤ 1000) = true by simp at hf ⊢; omega] at hw
      exact .inl ⟨[98] ++ d, by simp only [turnD, if_pos, fit, if_pos hf], hf, hw⟩
    · rw [show decide (((98 :: d).length : Int) ≤ 1000) = false by simp at hf ⊢; omega] at hw
      exact .inr ⟨by simp only [turnD, if_pos, fit, if_neg hf], _, _, _, hw⟩
  · by_cases ht : to < 2
    · have hn : nextV 2 to = 1 := by unfold nextV; rw [if_pos ht]; rfl
      have hu : decide ((2 : Int) < to) = false := by simp; omega
      rw [hn, hu]
      cases hp : Lib.hasPrefix d [98]
      · exact .inr ⟨by simp [turnD, hp], _, _, _, refTurn_no2 c d w hd hp⟩
      · cases d with
        | nil => simp [Lib.hasPrefix, List.isPrefixOf] at hp
        | cons x d =>
          obtain rfl : x = 98 := by simp [Lib.hasPrefix, List.isPrefixOf] at hp; exact hp.symm
          exact .inl ⟨d, by simp [turnD, hp, Lib.trimPrefix], by simp at hd; omega, refTurn_down2 c d w hd⟩
    · have hn : nextV 2 to = 3 := by unfold nextV; rw [if_neg ht]; rfl
      have hu : decide ((2 : Int) < to) = true := by simp; omega
      rw [hn, hu]
      have hw := refTurn_up2 c d w hd
      by_cases hf : (d ++ le4 c).length ≤ 1000
      · rw [show decide (((d ++ le4 c).length : Int) ≤ 1000) = true by simp at hf ⊢; omega] at hw
        exact .inl ⟨d ++ le4 c, by simp [turnD, fit, le4_length] at hf ⊢; omega, hf, hw⟩
      · rw [show decide (((d ++ le4 c).length : Int) ≤ 1000) = false by simp at hf ⊢; omega] at hw
        exact .inr ⟨by simp [turnD, fit, le4_length] at hf ⊢; omega, _, _, _, hw⟩
  · have hn : nextV 3 to = 2 := by unfold nextV; rw [if_pos (by omega)]; rfl
    have hu : decide ((3 : Int) < to) = false := by simp; omega
    rw [hn, hu]
    cases hp : Lib.hasSuffix d (le4 c)
    · exact .inr ⟨by simp [turnD, hp], _, _, _, refTurn_no3 c d w hd hp⟩
    · refine .inl ⟨Lib.trimSuffix d (le4 c), by simp [turnD, hp], ?_, refTurn_down3 c d w hd hp⟩
      unfold Lib.trimSuffix
      split <;> simp <;> omega
end Go.Proofs.YtpiccdmaakipaaaDoor
