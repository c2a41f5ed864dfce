/- PROVED HERE: WALKS: ids.first, ids.Unpack. Condition: the text is no longer than Go lets it be. WALK: ids.Unpack. Condition: the text is no longer than Go lets it be. -/
import Derived.Test.YtaopeioebpfdeaaGreatDoorK06
import Derived.Test.YtaopeioebpfdeaaGreatDoorK27
namespace Go.Proofs.YtaopeioebpfdeaaGreatDoor
open Go Go.RowKit Go.Shelf Go.Extern.Stop Go.Stop Go.Extern
attribute [local go_sem] Oper.semAt_some wide_fn wide_depth

theorem firstM_size (s : List UInt8) : (firstM s).2 = 0 ∨ (9 ≤ (firstM s).2 ∧ (firstM s).2 ≤ s.length) := by
  unfold firstM
  split
  · exact .inl rfl
  · split
    · exact .inl rfl
    · split
      · exact .inl rfl
      · right; simp only; omega
/-- What first comes to. -/
def firstMV (r : MsgD × Nat) : Value := .tuple #[msgV r.1, .int .i64 (r.2 : Nat)]
set_option maxRecDepth 8000 in
set_option maxHeartbeats 2000000 in
theorem firstM_any (s : List UInt8) (hl : s.length ≤ 1073741824) (w : World) : Calls Tryz.prog 120 #[.string (bs s)] w fun e w' => e = .returned (firstMV (firstM s)) ∧ Below w.heap.size w w' := by
  have hsz := bs_size s
  by_cases h9 : s.length < 9
  · have hf : firstM s = (((0, 0), []), 0) := by unfold firstM; rw [if_pos h9]
    rw [hf]
    unfold firstMV msgV
    have t0 : decide (((bs s).size : Int) < 9) = true := by rw [hsz]; simp; omega
    replace hsz : Hid (_ = _) := hsz
    replace hf : Hid (_ = _) := hf
    go_enter Tryz.func120, Tryz.ntmps120
    go_wp2
    exact bodyPost_ret (v := .tuple #[.agg #[.int .i64 0, .int .u32 0, .string ⟨#[]⟩], .int .i64 0]) (by simp [results, Tryz.results120, go_sem]) rfl ⟨rfl, by (repeat (first | exact Below.refl _ _ | with_reducible assumption | refine pb_alloc ?_ _ | refine pb_drew ?_ | refine pb_drewN ?_ _ | refine pb_set ?_ (by simp; try omega) _ | refine pb_trans ?_ (by with_reducible assumption)))⟩
  have t0 : decide (((bs s).size : Int) < 9) = false := by rw [hsz]; simp; omega
  have b9 : (9 : Int) ≤ ((bs s).size : Int) := by omega
  have b5 : (5 : Int) ≤ ((bs s).size : Int) := by omega
  have c5 : ¬ (bs s).size < 5 := by omega
  have c9 : ¬ (bs s).size < 9 := by omega
  have hks : 0 < (bs s).size := by omega
  obtain ⟨x, hx⟩ : ∃ x, (bs s)[0] = x := ⟨_, rfl⟩
  have hhd : s.head? = some x := by
    cases s with
    | nil => simp at h9
    | cons y s => exact congrArg some hx
  have hex1 := extract_mid s 1 5
  have hex2 := extract_mid s 5 9
  rw [show 5 - 1 = 4 from rfl] at hex1
  rw [show 9 - 5 = 4 from rfl] at hex2
  have hl1 : ((s.drop 1).take 4).length = 4 := by rw [List.length_take, List.length_drop]; omega
  have hl2 : ((s.drop 5).take 4).length = 4 := by rw [List.length_take, List.length_drop]; omega
  have hf0 : firstM s = if 1000 < getP ((s.drop 5).take 4) ∨ s.length < 9 + getP ((s.drop 5).take 4) then (((0, 0), []), 0)
    else if rightM ((((s.head?.getD 0).toNat : Int), getP ((s.drop 1).take 4)), (s.drop 9).take (getP ((s.drop 5).take 4))) = false then (((0, 0), []), 0)
    else (((((s.head?.getD 0).toNat : Int), getP ((s.drop 1).take 4)), (s.drop 9).take (getP ((s.drop 5).take 4))), 9 + getP ((s.drop 5).take 4)) := by
    unfold firstM; rw [if_neg h9]
  rw [hhd] at hf0
  simp only [Option.getD_some] at hf0
  have hget1 := fun W => get_any ((s.drop 1).take 4) (by omega) W
  have hget2 := fun W => get_any ((s.drop 5).take 4) (by omega) W
  rw [getV_four hl1] at hget1
  rw [getV_four hl2] at hget2
  have hg2 := getP_lt ((s.drop 5).take 4)
  generalize (s.drop 1).take 4 = d1 at *
  generalize (s.drop 5).take 4 = d2 at *
  generalize getP d1 = c at *
  generalize getP d2 = n at *
  have hexd := extract_mid s 9 (9 + n)
  rw [show 9 + n - 9 = n by omega] at hexd
  have hwx : IntKind.i64.wrap (x.toNat : Int) = x.toNat := by have := x.toNat_lt; rw [IntKind.wrap_i64]; omega
  have hwn : IntKind.i64.wrap (n : Int) = n := by rw [IntKind.wrap_i64]; omega
  have hw9 : IntKind.i64.wrap (9 + (n : Int)) = 9 + n := by rw [IntKind.wrap_i64]; omega
  replace hget1 : Hid (∀ _, _) := hget1
  replace hget2 : Hid (∀ _, _) := hget2
  replace hhd : Hid (_ = _) := hhd
  by_cases h1 : 1000 < n
  · rw [if_pos (.inl h1)] at hf0
    rw [hf0]
    unfold firstMV msgV
    have t1 : decide ((1000 : Int) < (n : Int)) = true := by simp; omega
    replace hsz : Hid (_ = _) := hsz
    replace hf0 : Hid (_ = _) := hf0
    go_enter Tryz.func120, Tryz.ntmps120
    go_wp2_with fail
    refine (hget1.out _).mono ?_
    rintro e w1 ⟨rfl, hb1⟩
    have k1 : Blk w1 w.heap.size #[.int .i64 0, .int .u32 0, .string ⟨#[]⟩] 34 := Blk.call (by (repeat (first | with_reducible assumption | (refine Blk.new ?_; simp; done) | refine Blk.alloc ?_ _ | refine Blk.drew ?_ | refine Blk.drewN ?_ _ | refine Blk.call ?_ (by with_reducible assumption)))) hb1
    have hbw1 : Below w.heap.size w w1 := by (repeat (first | exact Below.refl _ _ | with_reducible assumption | refine pb_alloc ?_ _ | refine pb_drew ?_ | refine pb_drewN ?_ _ | refine pb_set ?_ (by simp; try omega) _ | refine pb_trans ?_ (by with_reducible assumption)))
    go_wp2_with fail
    refine (hget2.out _).mono ?_
    rintro e w2 ⟨rfl, hb2⟩
    have k2 := k1.call hb2
    have hbw2 := pb_trans hbw1 hb2
    have c2 := k2.cell
    have f2 := k2.frozen
    have l2 := k2.lt
    clear k1 hbw1 hb1 hb2
    have rr := (((k2.set (o := 0) (.int .i64 0)).set (o := 1) (.int .u32 0)).set (o := 2) (.string ⟨#[]⟩)).cell
    go_wp2
    exact bodyPost_ret (v := .tuple #[.agg #[.int .i64 0, .int .u32 0, .string ⟨#[]⟩], .int .i64 0]) (by simp [results, Tryz.results120, go_sem, rr]) rfl ⟨rfl, pb_set (pb_set (pb_set hbw2 (by simp) _) (by simp) _) (by simp) _⟩
  · have t1 : decide ((1000 : Int) < (n : Int)) = false := by simp; omega
    by_cases h2 : s.length < 9 + n
    · rw [if_pos (.inr h2)] at hf0
      rw [hf0]
      unfold firstMV msgV
      have t2 : decide (((bs s).size : Int) < 9 + (n : Int)) = true := by rw [hsz]; simp; omega
      replace hsz : Hid (_ = _) := hsz
      replace hf0 : Hid (_ = _) := hf0
      go_enter Tryz.func120, Tryz.ntmps120
      go_wp2_with fail
      refine (hget1.out _).mono ?_
      rintro e w1 ⟨rfl, hb1⟩
      have k1 : Blk w1 w.heap.size #[.int .i64 0, .int .u32 0, .string ⟨#[]⟩] 34 := Blk.call (by (repeat (first | with_reducible assumption | (refine Blk.new ?_; simp; done) | refine Blk.alloc ?_ _ | refine Blk.drew ?_ | refine Blk.drewN ?_ _ | refine Blk.call ?_ (by with_reducible assumption)))) hb1
      have hbw1 : Below w.heap.size w w1 := by (repeat (first | exact Below.refl _ _ | with_reducible assumption | refine pb_alloc ?_ _ | refine pb_drew ?_ | refine pb_drewN ?_ _ | refine pb_set ?_ (by simp; try omega) _ | refine pb_trans ?_ (by with_reducible assumption)))
      go_wp2_with fail
      refine (hget2.out _).mono ?_
      rintro e w2 ⟨rfl, hb2⟩
      have k2 := k1.call hb2
      have hbw2 := pb_trans hbw1 hb2
      have c2 := k2.cell
      have f2 := k2.frozen
      have l2 := k2.lt
      clear k1 hbw1 hb1 hb2
      have rr := (((k2.set (o := 0) (.int .i64 0)).set (o := 1) (.int .u32 0)).set (o := 2) (.string ⟨#[]⟩)).cell
      go_wp2
      exact bodyPost_ret (v := .tuple #[.agg #[.int .i64 0, .int .u32 0, .string ⟨#[]⟩], .int .i64 0]) (by simp [results, Tryz.results120, go_sem, rr]) rfl ⟨rfl, pb_set (pb_set (pb_set hbw2 (by simp) _) (by simp) _) (by simp) _⟩
    · rw [if_neg (by omega)] at hf0
      have t2 : decide (((bs s).size : Int) < 9 + (n : Int)) = false := by rw [hsz]; simp; omega
      have y1 : 9 + (n : Int) ≤ ((bs s).size : Int) := by omega
      have y0 : (9 : Int) ≤ 9 + (n : Int) := by omega
      have hwr : (9 + (n : Int)).toNat = 9 + n := by omega
      generalize (s.drop 9).take n = d at *
      have hright := fun W => right_any (x.toNat : Int) c d W
      replace hsz : Hid (_ = _) := hsz
      cases hr : rightM (((x.toNat : Int), c), d)
      · rw [if_pos hr] at hf0
        rw [hr] at hright
        rw [hf0]
        unfold firstMV msgV
        replace hf0 : Hid (_ = _) := hf0
        replace hright : Hid (∀ _, _) := hright
        go_enter Tryz.func120, Tryz.ntmps120
        go_wp2_with fail
        refine (hget1.out _).mono ?_
        rintro e w1 ⟨rfl, hb1⟩
        have k1 : Blk w1 w.heap.size #[.int .i64 0, .int .u32 0, .string ⟨#[]⟩] 34 := Blk.call (by (repeat (first | with_reducible assumption | (refine Blk.new ?_; simp; done) | refine Blk.alloc ?_ _ | refine Blk.drew ?_ | refine Blk.drewN ?_ _ | refine Blk.call ?_ (by with_reducible assumption)))) hb1
        have hbw1 : Below w.heap.size w w1 := by (repeat (first | exact Below.refl _ _ | with_reducible assumption | refine pb_alloc ?_ _ | refine pb_drew ?_ | refine pb_drewN ?_ _ | refine pb_set ?_ (by simp; try omega) _ | refine pb_trans ?_ (by with_reducible assumption)))
        go_wp2_with fail
        refine (hget2.out _).mono ?_
        rintro e w2 ⟨rfl, hb2⟩
        have k2 := k1.call hb2
        have hbw2 := pb_trans hbw1 hb2
        have c2 := k2.cell
        have f2 := k2.frozen
        have l2 := k2.lt
        clear k1 hbw1 hb1 hb2
        go_wp2_with fail
        apply wp_one (Wp := fun w' => Below w2.heap.size w2 w' ∧ Blk w' w2.heap.size #[.int .i64 (x.toNat : Int), .int .u32 c, .string (bs d)] 34)
        case h =>
          go_region_with fail
          all_goals go_simp
          all_goals exact sameAt ⟨by (repeat (first | exact Below.refl _ _ | with_reducible assumption | refine pb_alloc ?_ _ | refine pb_drew ?_ | refine pb_drewN ?_ _ | refine pb_set ?_ (by simp; try omega) _ | refine pb_trans ?_ (by with_reducible assumption))), by (repeat (first | with_reducible assumption | (refine Blk.new ?_; simp; done) | refine Blk.alloc ?_ _ | refine Blk.drew ?_ | refine Blk.drewN ?_ _ | refine Blk.call ?_ (by with_reducible assumption)))⟩
        case' h2 =>
        rintro w3 ⟨hb3, kM3⟩
        have cM3 := kM3.cell
        have k3 := k2.call hb3
        clear c2 f2 l2 k2
        go_wp2_with fail
        refine (hright.out _).mono ?_
        rintro e w4 ⟨rfl, hb4⟩
        have kM4 := kM3.call hb4
        have kA4 := k3.call hb4
        have hbw4 := pb_trans (pb_trans hbw2 hb3) hb4
        have cM4 := kM4.cell
        have cA4 := kA4.cell
        have fA4 := kA4.frozen
        have lA4 := kA4.lt
        have rr := (((kA4.set (o := 0) (.int .i64 0)).set (o := 1) (.int .u32 0)).set (o := 2) (.string ⟨#[]⟩)).cell
        go_wp2
        exact bodyPost_ret (v := .tuple #[.agg #[.int .i64 0, .int .u32 0, .string ⟨#[]⟩], .int .i64 0]) (by simp [results, Tryz.results120, go_sem, rr]) rfl ⟨rfl, pb_set (pb_set (pb_set hbw4 (by simp) _) (by simp) _) (by simp) _⟩
      · rw [if_neg (by simp [hr])] at hf0
        rw [hr] at hright
        rw [hf0]
        unfold firstMV msgV
        replace hf0 : Hid (_ = _) := hf0
        replace hright : Hid (∀ _, _) := hright
        go_enter Tryz.func120, Tryz.ntmps120
        go_wp2_with fail
        refine (hget1.out _).mono ?_
        rintro e w1 ⟨rfl, hb1⟩
        have k1 : Blk w1 w.heap.size #[.int .i64 0, .int .u32 0, .string ⟨#[]⟩] 34 := Blk.call (by (repeat (first | with_reducible assumption | (refine Blk.new ?_; simp; done) | refine Blk.alloc ?_ _ | refine Blk.drew ?_ | refine Blk.drewN ?_ _ | refine Blk.call ?_ (by with_reducible assumption)))) hb1
        have hbw1 : Below w.heap.size w w1 := by (repeat (first | exact Below.refl _ _ | with_reducible assumption | refine pb_alloc ?_ _ | refine pb_drew ?_ | refine pb_drewN ?_ _ | refine pb_set ?_ (by simp; try omega) _ | refine pb_trans ?_ (by with_reducible assumption)))
        go_wp2_with fail
        refine (hget2.out _).mono ?_
        rintro e w2 ⟨rfl, hb2⟩
        have k2 := k1.call hb2
        have hbw2 := pb_trans hbw1 hb2
        have c2 := k2.cell
        have f2 := k2.frozen
        have l2 := k2.lt
        clear k1 hbw1 hb1 hb2
        go_wp2_with fail
        apply wp_one (Wp := fun w' => Below w2.heap.size w2 w' ∧ Blk w' w2.heap.size #[.int .i64 (x.toNat : Int), .int .u32 c, .string (bs d)] 34)
        case h =>
          go_region_with fail
          all_goals go_simp
          all_goals exact sameAt ⟨by (repeat (first | exact Below.refl _ _ | with_reducible assumption | refine pb_alloc ?_ _ | refine pb_drew ?_ | refine pb_drewN ?_ _ | refine pb_set ?_ (by simp; try omega) _ | refine pb_trans ?_ (by with_reducible assumption))), by (repeat (first | with_reducible assumption | (refine Blk.new ?_; simp; done) | refine Blk.alloc ?_ _ | refine Blk.drew ?_ | refine Blk.drewN ?_ _ | refine Blk.call ?_ (by with_reducible assumption)))⟩
        case' h2 =>
        rintro w3 ⟨hb3, kM3⟩
        have cM3 := kM3.cell
        have k3 := k2.call hb3
        clear c2 f2 l2 k2
        go_wp2_with fail
        refine (hright.out _).mono ?_
        rintro e w4 ⟨rfl, hb4⟩
        have kM4 := kM3.call hb4
        have kA4 := k3.call hb4
        have hbw4 := pb_trans (pb_trans hbw2 hb3) hb4
        have cM4 := kM4.cell
        have cA4 := kA4.cell
        have fA4 := kA4.frozen
        have lA4 := kA4.lt
        have rr := (((kA4.set (o := 0) (.int .i64 x.toNat)).set (o := 1) (.int .u32 c)).set (o := 2) (.string (bs d))).cell
        go_wp2
        exact bodyPost_ret (v := .tuple #[.agg #[.int .i64 x.toNat, .int .u32 c, .string (bs d)], .int .i64 (9 + (n : Int))]) (by simp [results, Tryz.results120, go_sem, rr]) rfl ⟨rfl, pb_set (pb_set (pb_set hbw4 (by simp) _) (by simp) _) (by simp) _⟩
end Go.Proofs.YtaopeioebpfdeaaGreatDoor
namespace Go.Proofs.YtaopeioebpfdeaaGreatDoor
open Go Go.RowKit Go.Shelf Go.Extern.Stop Go.Stop Go.Extern
attribute [local go_sem] Oper.semAt_some wide_fn wide_depth

theorem unpackN_len : ∀ (n : Nat) (s : List UInt8) (l : List MsgD), unpackN n s = some l → l.length = n
  | 0, s, l, h => by
    unfold unpackN at h
    split at h
    · cases h; rfl
    · cases h
  | n + 1, s, l, h => by
    unfold unpackN at h
    split at h
    · cases h
    · cases hu : unpackN n (s.drop (firstM s).2) with
      | none => rw [hu] at h; cases h
      | some l' =>
        rw [hu] at h
        cases h
        simp [unpackN_len n _ l' hu]
/-- What Unpack comes to. -/
def UnpackPost (r : List MsgD × Int) (w : World) (e : Ending) (w' : World) : Prop :=
  ∃ v, e = .returned (.tuple #[v, .int .i64 r.2]) ∧ Below w.heap.size w w' ∧ Row w' 34 3 v r.1.length (r.1.flatMap msgCells) ∧ ∀ g, v.ownBlock = some g → w.heap.size ≤ g
set_option maxRecDepth 8000 in
set_option maxHeartbeats 2000000 in
theorem unpack_any (s : List UInt8) (hl : s.length ≤ 1073741824) (w : World) : Calls Tryz.prog 86 #[.string (bs s)] w (UnpackPost (unpackP s) w) := by
  have hsz := bs_size s
  cases hs : s with
  | nil =>
    subst hs
    have hp : unpackP [] = ([], 101) := rfl
    rw [hp]
    have t0 : decide (((bs []).size : Int) < 1) = true := by rw [hsz]; simp
    replace hsz : Hid (_ = _) := hsz
    replace hp : Hid (_ = _) := hp
    go_enter Tryz.func86, Tryz.ntmps86
    go_wp2
    go_ret2
    exact ⟨_, rfl, Below.refl _ _, row_nil _ _ _, by simp [Value.ownBlock]⟩
  | cons b r0 =>
    have hp : unpackP (b :: r0) = if 64 < b.toNat then ([], 101) else (match unpackN b.toNat r0 with | none => (([] : List MsgD), (101 : Int)) | some l => (l, 0)) := rfl
    rw [← hs] at hp ⊢
    have t0 : decide (((bs s).size : Int) < 1) = false := by rw [hsz, hs]; simp; omega
    have hks : 0 < (bs s).size := by rw [hsz, hs]; simp
    obtain ⟨x, hx⟩ : ∃ x, (bs s)[0] = x := ⟨_, rfl⟩
    have hxb : x = b := by
      subst hs
      rw [← hx]; rfl
    subst hxb
    by_cases h64 : 64 < x.toNat
    · rw [if_pos h64] at hp
      rw [hp]
      have t1 : decide ((64 : Int) < (x.toNat : Int)) = true := by simp; omega
      replace hsz : Hid (_ = _) := hsz
      replace hp : Hid (_ = _) := hp
      replace hs : Hid (_ = _) := hs
      go_enter Tryz.func86, Tryz.ntmps86
      go_wp2
      go_ret2
      exact ⟨_, rfl, Below.refl _ _, row_nil _ _ _, by simp [Value.ownBlock]⟩
    · rw [if_neg h64] at hp
      have t1 : decide ((64 : Int) < (x.toNat : Int)) = false := by simp; omega
      have y1 : (1 : Int) ≤ ((bs s).size : Int) := by omega
      have hxd : (bs s).extract 1 (bs s).size = bs r0 := by rw [extract_drop, hs]; rfl
      have hwx : IntKind.i64.wrap (x.toNat : Int) = x.toNat := by rw [IntKind.wrap_i64]; omega
      have hr0 : r0.length ≤ 1073741824 := by rw [hs] at hl; simp at hl; omega
      obtain ⟨n, hxn⟩ : ∃ n, x.toNat = n := ⟨_, rfl⟩
      rw [hxn] at h64 hp t1 hwx
      have hn : n ≤ 64 := by omega
      replace hsz : Hid (_ = _) := hsz
      replace hs : Hid (_ = _) := hs
      replace hp : Hid (_ = _) := hp
      go_enter Tryz.func86, Tryz.ntmps86
      go_wp2
      go_loopw [4, 5, 21] (fun p4 p5 p21 wr => ∃ (k : Nat) (acc : List MsgD) (r : List UInt8), k ≤ n ∧ p21 = .int .i64 k ∧ p5 = .string (bs r) ∧ r.length ≤ r0.length ∧ acc.length = k ∧ unpackN n r0 = (unpackN (n - k) r).map (acc ++ ·) ∧ Row wr 34 3 p4 acc.length (acc.flatMap msgCells) ∧ (∀ g, p4.ownBlock = some g → w.heap.size ≤ g) ∧ Below w.heap.size w wr) (fun _ _ p21 _ => n - (intOf p21).toNat)
      case atStart => exact ⟨0, [], r0, Nat.zero_le _, rfl, rfl, Nat.le_refl _, rfl, by simp, row_nil _ _ _, by simp [Value.ownBlock], Below.refl _ _⟩
      case round =>
        obtain ⟨k, acc, r, hk, rfl, rfl, hr, hacc, hun, hrow, hown, hbw⟩ := hrel
        clear hxd y1
        by_cases hlt : k < n
        · have hfm := fun W => firstM_any r (by omega) W
          have hfs := firstM_size r
          have hsr := bs_size r
          have hus : unpackN (n - k) r = if (firstM r).2 = 0 then none else (unpackN (n - (k + 1)) (r.drop (firstM r).2)).map ((firstM r).1 :: ·) := by
            rw [show n - k = (n - (k + 1)) + 1 by omega]; rfl
          obtain ⟨⟨⟨⟨mi, mc⟩, md⟩, m⟩, hm⟩ : ∃ q, firstM r = q := ⟨_, rfl⟩
          rw [hm] at hfm hfs hus
          unfold firstMV msgV at hfm
          simp only at hfm hfs hus
          obtain ⟨ra, rn, rc, rfl⟩ := hrow.shape
          replace hfm : Hid (∀ _, _) := hfm
          replace hm : Hid (_ = _) := hm
          replace hown : Hid (∀ _, _) := hown
          replace hacc : Hid (_ = _) := hacc
          by_cases hm0 : m = 0
          · subst hm0
            rw [if_pos rfl] at hus
            rw [hus] at hun
            have hpp := hp.out
            rw [hun] at hpp
            have t2 : ((0 : Int) == 0) = true := rfl
            replace hrow : Hid (Row _ _ _ _ _ _) := hrow
            replace hus : Hid (_ = _) := hus
            replace hun : Hid (_ = _) := hun
            replace hpp : Hid (_ = _) := hpp
            replace hsr : Hid (_ = _) := hsr
            go_wp2_with fail
            refine (hfm.out _).mono ?_
            rintro e w1 ⟨rfl, hb1⟩
            go_wp2
            go_ret2
            rw [hpp.out]
            exact ⟨_, rfl, pb_alloc (pb_trans hbw hb1) _, row_nil _ _ _, by simp [Value.ownBlock]⟩
          · rw [if_neg hm0] at hus
            have t2 : ((m : Int) == 0) = false := by simpa using hm0
            have y1 : (m : Int) ≤ ((bs r).size : Int) := by omega
            have hxd := extract_drop r m
            have hun2 : unpackN n r0 = (unpackN (n - (k + 1)) (r.drop m)).map ((acc ++ [((mi, mc), md)]) ++ ·) := by
              rw [hun, hus]; cases unpackN (n - (k + 1)) (r.drop m) <;> simp
            have hrl : (r.drop m).length ≤ r0.length := by simp; omega
            generalize r.drop m = r' at *
            replace hus : Hid (_ = _) := hus
            replace hun : Hid (_ = _) := hun
            replace hun2 : Hid (_ = _) := hun2
            replace hsr : Hid (_ = _) := hsr
            go_wp2_with fail
            refine (hfm.out _).mono ?_
            rintro e w1 ⟨rfl, hb1⟩
            have hb2 : Below wr.heap.size wr (w1.alloc (.cells #[.int .i64 mi, .int .u32 mc, .string (bs md)] 34)) := pb_alloc hb1 _
            have hrow2 := hrow.below hb2
            obtain ⟨v', W4, hrun, hrow4, hgr, hown4⟩ := row_append msgT (hrow2.below ((Below.refl _ _).alloc (Nat.le_refl _) (.cells #[.int .i64 mi, .int .u32 mc, .string (bs md)] 34))) (src_blk (n := 1) (size := 3) (cap := 1) (Blk.new (w := w1.alloc (.cells #[.int .i64 mi, .int .u32 mc, .string (bs md)] 34)) (cs := #[.int .i64 mi, .int .u32 mc, .string (bs md)]) (t := 34) rfl) rfl (Nat.le_refl 1)) (msgCells_one [((mi, mc), md)]) (by have := hacc.out; omega) 42
            obtain ⟨sa, sm, sc, rfl⟩ := hrow4.shape
            have hz1 : (w1.alloc (.cells #[.int .i64 mi, .int .u32 mc, .string (bs md)] 34)).heap.size = w1.heap.size + 1 := by simp
            rw [hz1] at hrun
            replace hrow4 : Hid (Row _ _ _ _ _ _) := hrow4
            replace hown4 : Hid (_ ∨ _) := hown4
            replace hrow2 : Hid (Row _ _ _ _ _ _) := hrow2
            replace hrow : Hid (Row _ _ _ _ _ _) := hrow
            replace hrun : Hid (_ = _) := hrun
            go_wp2_with (at_builtin
                         refine wpList_append_by rfl _ _ _ rfl rfl rfl hrun.out ?_)
            go_roundw
            case rel =>
              have hbW2 := pb_trans hbw hb2
              refine ⟨k + 1, acc ++ [((mi, mc), md)], r', by omega, by go_num, rfl, hrl, by simp [hacc.out], hun2.out, ?_, fun g hg => ?_, ?_⟩
              · rw [List.length_append, List.length_singleton, List.flatMap_append]; exact hrow4.out
              · have h5 := hown4.out
                rw [hg] at h5
                rcases h5 with h | h
                · exact hown.out g h.symm
                · have := hbW2.size; simp at h; omega
              · exact (hbW2.alloc (hbW2.size) _).grown hgr (by have := hbW2.size; simp; omega) (fun j hj => hown.out j hj)
            case measure => simp [intOf]; omega
        · obtain rfl : k = n := by omega
          have hsr : (bs r).toList.isEmpty = r.isEmpty := by rw [bs_toList]
          rw [show k - k = 0 by omega] at hun
          have hu0 : unpackN 0 r = if r = [] then some [] else none := rfl
          rw [hu0] at hun
          obtain ⟨ra, rn, rc, rfl⟩ := hrow.shape
          by_cases hre : r = []
          · rw [if_pos hre] at hun
            have hpp := hp.out
            rw [hun] at hpp
            have hpp' : unpackP s = (acc, 0) := by rw [hpp]; simp
            rw [show r.isEmpty = true by simp [hre]] at hsr
            replace hrow : Hid (Row _ _ _ _ _ _) := hrow
            replace hun : Hid (_ = _) := hun
            replace hre : Hid (_ = _) := hre
            replace hpp : Hid (_ = _) := hpp
            replace hpp' : Hid (_ = _) := hpp'
            go_wp2
            go_ret2
            rw [hpp'.out]
            exact ⟨_, rfl, hbw, hrow.out, hown⟩
          · rw [if_neg hre] at hun
            have hpp := hp.out
            rw [hun] at hpp
            rw [show r.isEmpty = false by simp [hre]] at hsr
            replace hrow : Hid (Row _ _ _ _ _ _) := hrow
            replace hun : Hid (_ = _) := hun
            replace hre : Hid (_ → _) := hre
            replace hpp : Hid (_ = _) := hpp
            go_wp2
            go_ret2
            rw [hpp.out]
            exact ⟨_, rfl, hbw, row_nil _ _ _, by simp [Value.ownBlock]⟩
end Go.Proofs.YtaopeioebpfdeaaGreatDoor
