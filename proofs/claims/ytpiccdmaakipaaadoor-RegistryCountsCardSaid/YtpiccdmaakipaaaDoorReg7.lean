/- WALKS: the reference's Migrate; Begin of both; the laws' cut; what the laws show first. The premise of what meets the program's Migrate: the registry's error variable holds its error. -/
import Derived.Test.YtpiccdmaakipaaaDoorReg6
namespace Go.Proofs.YtpiccdmaakipaaaDoor
open Go Go.RowKit Go.Shelf Go.Extern.Stop Go.Stop Go.Extern
attribute [local go_sem] Oper.semAt_some wide_fn wide_depth

set_option maxHeartbeats 4000000 in
theorem refMigrate_any (v : Int) (c : Nat) (d : List UInt8) (to : Int) (w : World) :
    Calls Tryd.prog 13 #[.agg #[.int .i64 v, .int .u32 c, .string (bs d)], .int .i64 to] w fun e w' =>
      e = .returned (.tuple #[stV (migrateP v c d to).1, .int .i64 (migrateP v c d to).2]) ∧ Below w.heap.size w w' := by
  by_cases hck : checkE v to = 0
  · have hn0 : (checkE v to != 0) = false := by simp [hck]
    by_cases hr : rightB v (bs d).size = true
    · obtain ⟨hv1, hv3, ht1, ht3, hvt, hd0⟩ : 1 ≤ v ∧ v ≤ 3 ∧ 1 ≤ to ∧ to ≤ 3 ∧ v ≠ to ∧ d.length ≤ 1000 := by
        have h1 := checkE_zero hck
        rw [bs_size] at hr
        have h2 : d.length ≤ 1000 := by unfold rightB at hr; simp at hr; exact hr.2
        exact ⟨h1.1, h1.2.1, h1.2.2.1, h1.2.2.2.1, h1.2.2.2.2, h2⟩
      go_enter Tryd.func13, Tryd.ntmps13
      go_wp2_with (first
        | (go_at_call 23; refine (refCheck_any _ _ _).mono ?_; rintro e w1 ⟨rfl, rfl⟩)
        | (go_at_call 15; refine (refRight_any _ _ _ _).mono ?_; rintro e w2 ⟨rfl, hb2⟩; have k0 : Blk w2 w.heap.size #[.int .i64 v, .int .u32 c, .string (bs d)] 24 := Blk.call (by (repeat (first | assumption | exact Blk.new (by simp) | refine Blk.alloc ?_ _ | refine Blk.drew ?_ | refine Blk.drewN ?_ _))) hb2; have k1 : Blk w2 (w.heap.size + 1) #[.int .i64 0, .int .u32 0, .string ⟨#[]⟩] 24 := Blk.call (by (repeat (first | assumption | exact Blk.new (by simp) | refine Blk.alloc ?_ _ | refine Blk.drew ?_ | refine Blk.drewN ?_ _))) hb2))
      have hB2 : Below w.heap.size w w2 := by (repeat (first | exact Below.refl _ _ | assumption | refine pb_alloc ?_ _ | refine pb_drew ?_ | refine pb_drewN ?_ _ | refine pb_set ?_ (by simp; try omega) _ | refine pb_trans ?_ (by assumption)))
      go_loopw [9] (fun _ wr => ∃ (s : Int) (d' : List UInt8), Blk wr w.heap.size #[.int .i64 s, .int .u32 c, .string (bs d')] 24 ∧ Blk wr (w.heap.size + 1) #[.int .i64 0, .int .u32 0, .string ⟨#[]⟩] 24 ∧
          1 ≤ s ∧ s ≤ 3 ∧ d'.length ≤ 1000 ∧ mig to c s d' = mig to c v d ∧ Below w.heap.size w wr)
        (fun _ wr => (to - intOf ((wr.cell? ⟨w.heap.size, 0, none⟩).getD undef)).natAbs)
      case atStart => exact ⟨v, d, k0, k1, hv1, hv3, hd0, rfl, hB2⟩
      case round =>
        clear k0 k1 hb2 hB2
        obtain ⟨s, d', k0, k1, hs1, hs3, hdl, hdm, hBr⟩ := hrel
        have c0 := k0.cell
        have f0 := k0.frozen
        have c1 := k1.cell
        have f1 := k1.frozen
        by_cases hst : s = to
        · subst hst
          have hq : (s != s) = false := by simp
          rw [mig_done] at hdm
          have hp : migrateP v c d s = ((s, c, d'), 0) := by
            unfold migrateP
            rw [if_neg (by simp [hck]), bs_size] at *
            rw [if_neg (by simp [hr]), ← hdm]
          have hl := k0.lt
          go_wp2
          have r1 := (((k1.set (o := 0) (.int .i64 s)).set (o := 1) (.int .u32 c)).set (o := 2) (.string (bs d'))).cell
          rw [hp]
          exact bodyPost_ret (v := .tuple #[stV (s, c, d'), .int .i64 0]) (by simp [results, Tryd.results13, go_sem, r1, stV]) rfl ⟨rfl, ((hBr.setCell (Nat.le_add_right _ _) _).setCell (Nat.le_add_right _ _) _).setCell (Nat.le_add_right _ _) _⟩
        · have hq : (s != to) = true := by simp [hst]
          have hm0 : Hid (wr.cell? ⟨w.heap.size, 0, none⟩ = some (.int .i64 s)) := k0.cell 0
          rcases refTurn_any s to c d' wr hs1 hs3 ht1 ht3 hst hdl with ⟨d2, hturn, hd2, hcall⟩ | ⟨hturn, a1, b1, e1, hcall⟩
          · have hl := k0.lt
            have hl1 := k1.lt
            go_wp2_with (go_at_call 27; refine hcall.mono ?_; rintro e w3 ⟨rfl, hb3⟩; replace k0 := k0.call hb3; replace k1 := k1.call hb3; clear c0 f0 c1 f1; have c0 := k0.cell; have f0 := k0.frozen; have hl3 := k0.lt)
            have kk0 := (((k0.set (o := 0) (.int .i64 (nextV s to))).set (o := 1) (.int .u32 c)).set (o := 2) (.string (bs d2))).alloc (.cells #[.int .i64 (nextV s to), .int .u32 c, .string (bs d2)] 24)
            have kk1 := (((k1.other (p := ⟨w.heap.size, 0, none⟩) (by simp) (.int .i64 (nextV s to))).other (p := ⟨w.heap.size, 1, none⟩) (by simp) (.int .u32 c)).other (p := ⟨w.heap.size, 2, none⟩) (by simp) (.string (bs d2))).alloc (.cells #[.int .i64 (nextV s to), .int .u32 c, .string (bs d2)] 24)
            have hB3 : Below w.heap.size w w3 := pb_trans hBr hb3
            have hm1 := kk0.cell 0
            have hn1 : 1 ≤ nextV s to ∧ nextV s to ≤ 3 ∧ (to - nextV s to).natAbs < (to - s).natAbs := by unfold nextV; split <;> omega
            go_roundw
            case rel => exact ⟨nextV s to, d2, kk0, kk1, hn1.1, hn1.2.1, hd2, by rw [← hdm, mig_step to s c d' hst, hturn]; rfl, pb_alloc (((hB3.setCell (Nat.le_refl _) _).setCell (Nat.le_refl _) _).setCell (Nat.le_refl _) _) _⟩
            case measure => rw [hm1, hm0.out]; exact hn1.2.2
          · have hp : migrateP v c d to = ((0, 0, []), 132) := by
              unfold migrateP
              rw [if_neg (by simp [hck])]
              rw [bs_size] at hr
              rw [if_neg (by simp [hr]), ← hdm, mig_step to s c d' hst, hturn]; rfl
            go_wp2_with (go_at_call 27; refine hcall.mono ?_; rintro e w3 ⟨rfl, hb3⟩; replace k0 := k0.call hb3; replace k1 := k1.call hb3; clear c0 f0 c1 f1; have c1 := k1.cell; have f1 := k1.frozen; have hl3 := k1.lt)
            have hB3 : Below w.heap.size w w3 := pb_trans hBr hb3
            have kk1 := (((k1.set (o := 0) (.int .i64 0)).set (o := 1) (.int .u32 0)).set (o := 2) (.string ⟨#[]⟩)).alloc (.cells #[.int .i64 a1, .int .u32 b1, .string (bs e1)] 24)
            have r1 := kk1.cell
            rw [hp]
            exact bodyPost_ret (v := .tuple #[stV (0, 0, []), .int .i64 132]) (by simp [results, Tryd.results13, go_sem, r1, stV]; rfl) rfl ⟨rfl, pb_alloc (((hB3.setCell (Nat.le_add_right _ _) _).setCell (Nat.le_add_right _ _) _).setCell (Nat.le_add_right _ _) _) _⟩
    · have hr0 : rightB v (bs d).size = false := by simpa using hr
      have hp : migrateP v c d to = ((0, 0, []), 132) := by
        unfold migrateP
        rw [if_neg (by simp [hck])]
        rw [bs_size] at hr0
        rw [if_pos hr0]
      clear hr
      go_enter Tryd.func13, Tryd.ntmps13
      go_wp2_with (first
        | (go_at_call 23; refine (refCheck_any _ _ _).mono ?_; rintro e w1 ⟨rfl, rfl⟩)
        | (go_at_call 15; refine (refRight_any _ _ _ _).mono ?_; rintro e w2 ⟨rfl, hb2⟩; have k1 : Blk w2 (w.heap.size + 1) #[.int .i64 0, .int .u32 0, .string ⟨#[]⟩] 24 := Blk.call (by (repeat (first | assumption | exact Blk.new (by simp) | refine Blk.alloc ?_ _ | refine Blk.drew ?_ | refine Blk.drewN ?_ _))) hb2; have c1 := k1.cell; have f1 := k1.frozen))
      have hB2 : Below w.heap.size w w2 := by (repeat (first | exact Below.refl _ _ | assumption | refine pb_alloc ?_ _ | refine pb_drew ?_ | refine pb_drewN ?_ _ | refine pb_set ?_ (by simp; try omega) _ | refine pb_trans ?_ (by assumption)))
      have r1 := ((k1.set (o := 0) (.int .i64 0)).set (o := 1) (.int .u32 0)).set (o := 2) (.string ⟨#[]⟩) |>.cell
      rw [hp]
      exact bodyPost_ret (v := .tuple #[stV (0, 0, []), .int .i64 132]) (by simp [results, Tryd.results13, go_sem, r1, stV]; rfl) rfl ⟨rfl, ((hB2.setCell (Nat.le_add_right _ _) _).setCell (Nat.le_add_right _ _) _).setCell (Nat.le_add_right _ _) _⟩
  · have hn0 : (checkE v to != 0) = true := by simp [hck]
    have hp : migrateP v c d to = ((0, 0, []), checkE v to) := by
      unfold migrateP
      rw [if_pos hck]
    go_enter Tryd.func13, Tryd.ntmps13
    go_wp2_with (go_at_call 23; refine (refCheck_any _ _ _).mono ?_; rintro e w1 ⟨rfl, rfl⟩)
    have k1 : Blk ((w.alloc (.cells #[.int .i64 v, .int .u32 c, .string (bs d)] 24)).alloc (.cells #[.int .i64 0, .int .u32 0, .string ⟨#[]⟩] 24)) (w.heap.size + 1) #[.int .i64 0, .int .u32 0, .string ⟨#[]⟩] 24 := by (repeat (first | assumption | exact Blk.new (by simp) | refine Blk.alloc ?_ _ | refine Blk.drew ?_ | refine Blk.drewN ?_ _))
    have r1 := k1.cell
    rw [hp]
    exact bodyPost_ret (v := .tuple #[stV (0, 0, []), .int .i64 (checkE v to)]) (by simp [results, Tryd.results13, go_sem, stV]; rfl) rfl ⟨rfl, by (repeat (first | exact Below.refl _ _ | assumption | refine pb_alloc ?_ _ | refine pb_drew ?_ | refine pb_drewN ?_ _ | refine pb_set ?_ (by simp; try omega) _ | refine pb_trans ?_ (by assumption)))⟩

/-- Migrate, its result written out. -/
theorem migrate_eq {a : Addr} {v : Int} {c : Nat} {d : List UInt8} {to : Int} {v' : Int} {c' : Nat} {d' : List UInt8} {e' : Int} (h : migrateP v c d to = ((v', c', d'), e')) (w : World) (he : ErrAt w a) :
    Calls Tryd.prog 12 #[.agg #[.int .i64 v, .int .u32 c, .string (bs d)], .int .i64 to] w fun e w' =>
      e = .returned (.tuple #[.agg #[.int .i64 v', .int .u32 c', .string (bs d')], .int .i64 e']) ∧ Below w.heap.size w w' := by
  have hm := migrate_any a v c d to w he
  rw [h] at hm
  exact hm
theorem refMigrate_eq {v : Int} {c : Nat} {d : List UInt8} {to : Int} {v' : Int} {c' : Nat} {d' : List UInt8} {e' : Int} (h : migrateP v c d to = ((v', c', d'), e')) (w : World) :
    Calls Tryd.prog 13 #[.agg #[.int .i64 v, .int .u32 c, .string (bs d)], .int .i64 to] w fun e w' =>
      e = .returned (.tuple #[.agg #[.int .i64 v', .int .u32 c', .string (bs d')], .int .i64 e']) ∧ Below w.heap.size w w' := by
  have hm := refMigrate_any v c d to w
  rw [h] at hm
  exact hm

/-- The first state of a version. -/
def beginP (v : Int) : (Int × Nat × List UInt8) × Int := if v = 1 then ((1, 0, []), 0) else migrateP 1 0 [] v
theorem begin_eq {a : Addr} {v : Int} {v' : Int} {c' : Nat} {d' : List UInt8} {e' : Int} (h : beginP v = ((v', c', d'), e')) (w : World) (he : ErrAt w a) :
    Calls Tryd.prog 16 #[.int .i64 v] w fun e w' => e = .returned (.tuple #[.agg #[.int .i64 v', .int .u32 c', .string (bs d')], .int .i64 e']) ∧ Below w.heap.size w w' := by
  have hE : ∀ W, Below w.heap.size w W → ErrAt W a := fun W hW => he.below hW he.lt
  clear he
  unfold beginP at h
  by_cases h1 : v = 1
  · have h1' : (v == 1) = true := by simp [h1]
    rw [if_pos h1] at h
    cases h
    go_enter Tryd.func16, Tryd.ntmps16
    go_wp2
    exact bodyPost_ret (v := .tuple #[.agg #[.int .i64 1, .int .u32 0, .string ⟨#[]⟩], .int .i64 0]) (by simp [results, Tryd.results16, go_sem]) rfl ⟨rfl, by (repeat (first | exact Below.refl _ _ | assumption | refine pb_alloc ?_ _ | refine pb_drew ?_ | refine pb_drewN ?_ _ | refine pb_set ?_ (by simp; try omega) _ | refine pb_trans ?_ (by assumption)))⟩
  · have h1' : (v == 1) = false := by simp [h1]
    rw [if_neg h1] at h
    go_enter Tryd.func16, Tryd.ntmps16
    go_wp2_with (go_at_call 12; refine (migrate_eq h _ (hE _ (by (repeat (first | exact Below.refl _ _ | assumption | refine pb_alloc ?_ _ | refine pb_drew ?_ | refine pb_drewN ?_ _ | refine pb_set ?_ (by simp; try omega) _ | refine pb_trans ?_ (by assumption)))))).mono ?_; rintro e w1 ⟨rfl, hb1⟩; have k0 : Blk w1 w.heap.size #[.int .i64 0, .int .u32 0, .string ⟨#[]⟩] 24 := Blk.call (by (repeat (first | assumption | exact Blk.new (by simp) | refine Blk.alloc ?_ _ | refine Blk.drew ?_ | refine Blk.drewN ?_ _))) hb1; have c0 := k0.cell; have f0 := k0.frozen)
    have r1 := (((k0.set (o := 0) (.int .i64 v')).set (o := 1) (.int .u32 c')).set (o := 2) (.string (bs d'))).cell
    have hB : Below w.heap.size w w1 := by (repeat (first | exact Below.refl _ _ | assumption | refine pb_alloc ?_ _ | refine pb_drew ?_ | refine pb_drewN ?_ _ | refine pb_set ?_ (by simp; try omega) _ | refine pb_trans ?_ (by assumption)))
    exact bodyPost_ret (v := .tuple #[stV (v', c', d'), .int .i64 e']) (by simp [results, Tryd.results16, go_sem, r1, stV]) rfl ⟨rfl, ((hB.setCell (Nat.le_refl _) _).setCell (Nat.le_refl _) _).setCell (Nat.le_refl _) _⟩
theorem refBegin_eq {v : Int} {v' : Int} {c' : Nat} {d' : List UInt8} {e' : Int} (h : beginP v = ((v', c', d'), e')) (w : World) :
    Calls Tryd.prog 20 #[.int .i64 v] w fun e w' => e = .returned (.tuple #[.agg #[.int .i64 v', .int .u32 c', .string (bs d')], .int .i64 e']) ∧ Below w.heap.size w w' := by
  unfold beginP at h
  by_cases h1 : v = 1
  · have h1' : (v == 1) = true := by simp [h1]
    rw [if_pos h1] at h
    cases h
    go_enter Tryd.func20, Tryd.ntmps20
    go_wp2
    exact bodyPost_ret (v := .tuple #[.agg #[.int .i64 1, .int .u32 0, .string ⟨#[]⟩], .int .i64 0]) (by simp [results, Tryd.results20, go_sem]) rfl ⟨rfl, by (repeat (first | exact Below.refl _ _ | assumption | refine pb_alloc ?_ _ | refine pb_drew ?_ | refine pb_drewN ?_ _ | refine pb_set ?_ (by simp; try omega) _ | refine pb_trans ?_ (by assumption)))⟩
  · have h1' : (v == 1) = false := by simp [h1]
    rw [if_neg h1] at h
    go_enter Tryd.func20, Tryd.ntmps20
    go_wp2_with (go_at_call 13; refine (refMigrate_eq h _).mono ?_; rintro e w1 ⟨rfl, hb1⟩; have k0 : Blk w1 w.heap.size #[.int .i64 0, .int .u32 0, .string ⟨#[]⟩] 24 := Blk.call (by (repeat (first | assumption | exact Blk.new (by simp) | refine Blk.alloc ?_ _ | refine Blk.drew ?_ | refine Blk.drewN ?_ _))) hb1; have c0 := k0.cell; have f0 := k0.frozen)
    have r1 := (((k0.set (o := 0) (.int .i64 v')).set (o := 1) (.int .u32 c')).set (o := 2) (.string (bs d'))).cell
    have hB : Below w.heap.size w w1 := by (repeat (first | exact Below.refl _ _ | assumption | refine pb_alloc ?_ _ | refine pb_drew ?_ | refine pb_drewN ?_ _ | refine pb_set ?_ (by simp; try omega) _ | refine pb_trans ?_ (by assumption)))
    exact bodyPost_ret (v := .tuple #[stV (v', c', d'), .int .i64 e']) (by simp [results, Tryd.results20, go_sem, r1, stV]) rfl ⟨rfl, ((hB.setCell (Nat.le_refl _) _).setCell (Nat.le_refl _) _).setCell (Nat.le_refl _) _⟩

/-- The laws' cut: at most eleven hundred bytes. -/
theorem lawCut_any (v : Int) (c : Int) (d : List UInt8) (w : World) (hd : d.length ≤ 9223372036854775807) :
    Calls Tryd.prog 11 #[.agg #[.int .i64 v, .int .u32 c, .string (bs d)]] w fun e w' => e = .returned (.agg #[.int .i64 v, .int .u32 c, .string (bs (d.take 1100))]) ∧ Below w.heap.size w w' := by
  have hz : (bs d).size ≤ 9223372036854775807 := by rw [bs_size]; exact hd
  have hsz := bs_size d
  go_enter Tryd.func11, Tryd.ntmps11
  have hx : (bs d).extract 0 (min (d.length : Int) 1100).toNat = bs (d.take 1100) := by
    rw [extract_take]
    congr 1
    by_cases h : d.length ≤ 1100
    · rw [List.take_of_length_le (by omega), List.take_of_length_le h]
    · rw [show (min (d.length : Int) 1100).toNat = 1100 by omega]
  go_wp2
  exact bodyPost_ret (v := .agg #[.int .i64 v, .int .u32 c, .string (bs (d.take 1100))]) (by simp [results, Tryd.results11, go_sem]) rfl ⟨rfl, by (repeat (first | exact Below.refl _ _ | assumption | refine pb_alloc ?_ _ | refine pb_drew ?_ | refine pb_drewN ?_ _ | refine pb_set ?_ (by simp; try omega) _ | refine pb_trans ?_ (by assumption)))⟩

/-- What the laws show first is so. -/
theorem shown_any (a : Addr) (w : World) (he : ErrAt w a) : Calls Tryd.prog 10 #[] w fun e w' => e = .returned (.bool true) ∧ Below w.heap.size w w' := by
  have hE : ∀ W, Below w.heap.size w W → ErrAt W a := fun W hW => he.below hW he.lt
  clear he
  have h1 : migrateP 1 5 [120] 3 = ((3, 5, [98, 120, 5, 0, 0, 0]), 0) := by decide
  have h2 : migrateP 2 0 [120] 1 = ((0, 0, []), 132) := by decide
  have h3 : checkE 1 1 = 131 := by decide
  have m1 : Calls Tryd.prog 12 #[.agg #[.int .i64 1, .int .u32 5, .string ⟨#[120]⟩], .int .i64 3] w fun e w' => e = .returned (.tuple #[.agg #[.int .i64 3, .int .u32 5, .string ⟨#[98, 120, 5, 0, 0, 0]⟩], .int .i64 0]) ∧ Below w.heap.size w w' := migrate_eq h1 w (hE w (Below.refl _ _))
  have m2 : ∀ W, ErrAt W a → Calls Tryd.prog 12 #[.agg #[.int .i64 2, .int .u32 0, .string ⟨#[120]⟩], .int .i64 1] W fun e w' => e = .returned (.tuple #[.agg #[.int .i64 0, .int .u32 0, .string ⟨#[]⟩], .int .i64 132]) ∧ Below W.heap.size W w' := fun W hW => migrate_eq h2 W hW
  have m3 : ∀ W, Calls Tryd.prog 22 #[.int .i64 1, .int .i64 1] W fun e w' => e = .returned (.int .i64 131) ∧ Below W.heap.size W w' := fun W => by have := check_any 1 1 W; rw [h3] at this; exact this
  clear h1 h2 h3
  go_enter Tryd.func10, Tryd.ntmps10
  go_wp2_with fail
  refine m1.mono ?_
  rintro e w1 ⟨rfl, hb1⟩
  go_wp2_with fail
  refine (m2 _ (hE _ (by (repeat (first | exact Below.refl _ _ | assumption | refine pb_alloc ?_ _ | refine pb_drew ?_ | refine pb_drewN ?_ _ | refine pb_set ?_ (by simp; try omega) _ | refine pb_trans ?_ (by assumption)))))).mono ?_
  rintro e w2 ⟨rfl, hb2⟩
  have k0 : Blk w2 w1.heap.size #[.int .i64 3, .int .u32 5, .string ⟨#[98, 120, 5, 0, 0, 0]⟩] 24 := Blk.call (by (repeat (first | assumption | exact Blk.new (by simp) | refine Blk.alloc ?_ _ | refine Blk.drew ?_ | refine Blk.drewN ?_ _))) hb2
  have c0 := k0.cell
  have hl := k0.lt
  go_wp2_with fail
  refine (m3 _).mono ?_
  rintro e w3 ⟨rfl, hb3⟩
  go_wp2_with fail
  go_ret
  exact ⟨rfl, by (repeat (first | exact Below.refl _ _ | assumption | refine pb_alloc ?_ _ | refine pb_drew ?_ | refine pb_drewN ?_ _ | refine pb_set ?_ (by simp; try omega) _ | refine pb_trans ?_ (by assumption)))⟩
end Go.Proofs.YtpiccdmaakipaaaDoor
