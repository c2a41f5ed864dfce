/- PROVED HERE: WALKS: paxos' number, read. Condition: the text is no longer than Go lets it be. -/
import Derived.Test.YtaopeioebpfdeaaGreatDoorK26
namespace Go.Proofs.YtaopeioebpfdeaaGreatDoor
open Go Go.RowKit Go.Shelf Go.Extern.Stop Go.Stop Go.Extern
attribute [local go_sem] Oper.semAt_some wide_fn wide_depth

theorem bits_or_u64 (a b : Nat) (ha : a < 18446744073709551616) (hb : b < 18446744073709551616) : bits .or .u64 (a : Int) (b : Int) = ((a ||| b : Nat) : Int) := by
  have hx : a ||| b < 2 ^ 64 := Nat.or_lt_two_pow (by omega) (by omega)
  have h1 : (BitVec.ofInt 64 (a : Int)).toNat = a := by
    rw [BitVec.ofInt_natCast, BitVec.toNat_ofNat]; exact Nat.mod_eq_of_lt (by omega)
  have h2 : (BitVec.ofInt 64 (b : Int)).toNat = b := by
    rw [BitVec.ofInt_natCast, BitVec.toNat_ofNat]; exact Nat.mod_eq_of_lt (by omega)
  show IntKind.u64.wrap ((BitVec.ofInt 64 (a : Int) ||| BitVec.ofInt 64 (b : Int)).toNat : Int) = _
  rw [BitVec.toNat_or, h1, h2, IntKind.wrap_u64]
  omega
theorem getP_lt (d : List UInt8) : getP d < 4294967296 := by
  unfold getP
  split
  · rename_i h
    have := getN_lt d
    rw [h] at this
    exact Nat.lt_of_lt_of_le this (by decide)
  · omega
theorem getV_four {d : List UInt8} (h : d.length = 4) : getV d = .tuple #[.int .u32 (getP d : Nat), .int .i64 0] := by unfold getV; rw [if_pos h]
theorem or_high (h l : Nat) (hh : h < 4294967296) (hl : l < 4294967296) : bits .or .u64 (IntKind.u64.wrap ((h : Int) * 4294967296)) (l : Int) = ((l + 4294967296 * h : Nat) : Int) := by
  have h3 : IntKind.u64.wrap ((h : Int) * 4294967296) = ((h * 4294967296 : Nat) : Int) := by rw [IntKind.wrap_u64]; omega
  have h4 := Nat.two_pow_add_eq_or_of_lt (i := 32) hl h
  rw [h3, bits_or_u64 _ _ (by omega) (by omega)]
  rw [show h * 4294967296 = 2 ^ 32 * h by omega, ← h4]
  omega
theorem or_high2 (h l : Nat) (hh : h < 4294967296) (hl : l < 4294967296) : bits .or .u64 ((h : Int) * 4294967296) (l : Int) = ((l + 4294967296 * h : Nat) : Int) := by
  have h3 : IntKind.u64.wrap ((h : Int) * 4294967296) = (h : Int) * 4294967296 := by rw [IntKind.wrap_u64]; omega
  rw [← h3]; exact or_high h l hh hl
set_option maxRecDepth 8000 in
theorem number_any (s : List UInt8) (hs : s.length = 8) (w : World) : Calls Tryz.prog 148 #[.string (bs s)] w fun e w' => e = .returned (.int .u64 (getP (s.take 4) + 4294967296 * getP (s.drop 4) : Nat)) ∧ Below w.heap.size w w' := by
  have hsz := bs_size s
  have hx0 := extract_take s 4
  have hx1 := extract_drop s 4
  have hl1 : (s.take 4).length = 4 := by rw [List.length_take]; omega
  have hl2 : (s.drop 4).length = 4 := by rw [List.length_drop]; omega
  have g1 := fun W => get_any (s.take 4) (by omega) W
  have g2 := fun W => get_any (s.drop 4) (by omega) W
  rw [getV_four hl1] at g1
  rw [getV_four hl2] at g2
  have hb1 := getP_lt (s.take 4)
  have hb2 := getP_lt (s.drop 4)
  generalize s.take 4 = d1 at *
  generalize s.drop 4 = d2 at *
  generalize getP d1 = n1 at *
  generalize getP d2 = n2 at *
  have hor := or_high n2 n1 hb2 hb1
  have hor2 := or_high2 n2 n1 hb2 hb1
  replace hor2 : Hid (_ = _) := hor2
  have hw1 : IntKind.u64.wrap (n2 : Int) = (n2 : Int) := by rw [IntKind.wrap_u64]; omega
  have hw2 : IntKind.u64.wrap (n1 : Int) = (n1 : Int) := by rw [IntKind.wrap_u64]; omega
  have y1 : (4 : Int) ≤ ((bs s).size : Int) := by omega
  replace hsz : Hid (_ = _) := hsz
  replace g1 : Hid (∀ _, _) := g1
  replace g2 : Hid (∀ _, _) := g2
  go_enter Tryz.func148, Tryz.ntmps148
  go_wp2_with fail
  refine (g1.out _).mono ?_
  rintro e w1 ⟨rfl, hc1⟩
  go_wp2_with fail
  refine (g2.out _).mono ?_
  rintro e w2 ⟨rfl, hc2⟩
  go_wp2
  go_ret
  exact ⟨by rw [← hor2.out]; rfl, pb_trans hc1 hc2⟩

/-- What read comes to. -/
def ReadRecPost (r : Option (UInt8 × Int × Nat × List UInt8)) (w : World) (e : Ending) (w' : World) : Prop :=
  ∃ a b c d, e = .returned (.tuple #[.agg #[.int .u8 a, .int .i64 b, .int .u64 c, .string d], .bool r.isSome]) ∧ (∀ k i n x, r = some (k, i, n, x) → a = k.toNat ∧ b = i ∧ c = n ∧ d = bs x) ∧ Below w.heap.size w w'
theorem mid_split (s : List UInt8) : ((s.drop 5).take 8).take 4 = (s.drop 5).take 4 ∧ ((s.drop 5).take 8).drop 4 = (s.drop 9).take 4 := by
  constructor
  · rw [List.take_take]; rfl
  · rw [List.drop_take, List.drop_drop]
set_option maxRecDepth 8000 in
set_option maxHeartbeats 2000000 in
theorem pxRead_any (s : List UInt8) (hl : s.length ≤ 1073741824) (w : World) : Calls Tryz.prog 121 #[.string (bs s)] w (ReadRecPost (readRec s) w) := by
  have hsz := bs_size s
  by_cases h5 : s.length < 5
  · have hr : readRec s = none := by unfold readRec; rw [if_pos h5]
    rw [hr]
    have t0 : decide (((bs s).size : Int) < 5) = true := by rw [hsz]; simp; omega
    replace hsz : Hid (_ = _) := hsz
    replace hr : Hid (_ = _) := hr
    go_enter Tryz.func121, Tryz.ntmps121
    go_wp2
    exact bodyPost_ret (v := .tuple #[.agg #[.int .u8 0, .int .i64 0, .int .u64 0, .string ⟨#[]⟩], .bool false]) (by simp [results, Tryz.results121, go_sem]) rfl ⟨0, 0, 0, ⟨#[]⟩, rfl, by simp, by (repeat (first | exact Below.refl _ _ | with_reducible assumption | refine pb_alloc ?_ _ | refine pb_drew ?_ | refine pb_drewN ?_ _ | refine pb_set ?_ (by simp; try omega) _ | refine pb_trans ?_ (by with_reducible assumption)))⟩
  have t0 : decide (((bs s).size : Int) < 5) = false := by rw [hsz]; simp; omega
  have b5 : (5 : Int) ≤ ((bs s).size : Int) := by omega
  have hks : 0 < (bs s).size := by omega
  obtain ⟨x, hx⟩ : ∃ x, (bs s)[0] = x := ⟨_, rfl⟩
  have hhd : s.head? = some x := by
    cases s with
    | nil => simp at h5
    | cons y s => exact congrArg some hx
  have hex := extract_mid s 1 5
  rw [show 5 - 1 = 4 from rfl] at hex
  have hdl : ((s.drop 1).take 4).length = 4 := by rw [List.length_take, List.length_drop]; omega
  have hf0 : readRec s = if 10000 < getP ((s.drop 1).take 4) ∨ isInstP (getP ((s.drop 1).take 4)) = false then none
    else if s.head? = some 100 then (if (s.drop 5).length ≤ 4000 then some (100, (getP ((s.drop 1).take 4) : Int), 0, s.drop 5) else none)
    else if s.head? = some 112 ∨ s.head? = some 118 then
      (if s.length < 13 then none
       else if s.head? = some 112 ∧ s.drop 13 ≠ [] then none
       else if 1 ≤ getP ((s.drop 5).take 4) + 4294967296 * getP ((s.drop 9).take 4) ∧ (s.drop 13).length ≤ 4000 then some (s.head?.getD 0, (getP ((s.drop 1).take 4) : Int), getP ((s.drop 5).take 4) + 4294967296 * getP ((s.drop 9).take 4), s.drop 13) else none)
    else none := by unfold readRec; rw [if_neg h5]
  rw [hhd] at hf0
  simp only [Option.some.injEq, Option.getD_some] at hf0
  generalize (s.drop 1).take 4 = d at *
  have hget := fun W => get_any d (by omega) W
  rw [getV_four hdl] at hget
  have hgl := getP_lt d
  generalize getP d = n at *
  have hin := fun W => isInst_any (n : Int) W
  have hwn : IntKind.i64.wrap (n : Int) = n := by rw [IntKind.wrap_i64]; omega
  have c5 : ¬ (bs s).size < 5 := by omega
  replace hget : Hid (∀ _, _) := hget
  replace hhd : Hid (_ = _) := hhd
  by_cases hbad : 10000 < n ∨ isInstP (n : Int) = false
  · rw [if_pos hbad] at hf0
    rw [hf0]
    replace hf0 : Hid (_ = _) := hf0
    replace hsz : Hid (_ = _) := hsz
    by_cases h1 : 10000 < n
    · have t1 : decide ((10000 : Int) < (n : Int)) = true := by simp; omega
      replace hin : Hid (∀ _, _) := hin
      clear hbad
      go_enter Tryz.func121, Tryz.ntmps121
      go_wp2_with fail
      refine (hget.out _).mono ?_
      rintro e w1 ⟨rfl, hb1⟩
      have k1 : Blk w1 w.heap.size #[.int .u8 0, .int .i64 0, .int .u64 0, .string ⟨#[]⟩] 201 := Blk.call (by (repeat (first | with_reducible assumption | (refine Blk.new ?_; simp; done) | refine Blk.alloc ?_ _ | refine Blk.drew ?_ | refine Blk.drewN ?_ _ | refine Blk.call ?_ (by with_reducible assumption)))) hb1
      have c1 := k1.cell
      have f1 := k1.frozen
      have l1 := k1.lt
      have hbw : Below w.heap.size w w1 := by (repeat (first | exact Below.refl _ _ | with_reducible assumption | refine pb_alloc ?_ _ | refine pb_drew ?_ | refine pb_drewN ?_ _ | refine pb_set ?_ (by simp; try omega) _ | refine pb_trans ?_ (by with_reducible assumption)))
      have rr := (((((k1).set (o := 0) (.int .u8 0)).set (o := 1) (.int .i64 0)).set (o := 2) (.int .u64 0)).set (o := 3) (.string ⟨#[]⟩)).cell
      go_wp2
      exact bodyPost_ret (v := .tuple #[.agg #[.int .u8 0, .int .i64 0, .int .u64 0, .string ⟨#[]⟩], .bool false]) (by simp [results, Tryz.results121, go_sem, rr]) rfl ⟨0, 0, 0, ⟨#[]⟩, rfl, by simp, pb_set (pb_set (pb_set (pb_set hbw (by simp) _) (by simp) _) (by simp) _) (by simp) _⟩
    · have t1 : decide ((10000 : Int) < (n : Int)) = false := by simp; omega
      rw [hbad.resolve_left h1] at hin
      replace hin : Hid (∀ _, _) := hin
      clear hbad
      go_enter Tryz.func121, Tryz.ntmps121
      go_wp2_with fail
      refine (hget.out _).mono ?_
      rintro e w1 ⟨rfl, hb1⟩
      have k1 : Blk w1 w.heap.size #[.int .u8 0, .int .i64 0, .int .u64 0, .string ⟨#[]⟩] 201 := Blk.call (by (repeat (first | with_reducible assumption | (refine Blk.new ?_; simp; done) | refine Blk.alloc ?_ _ | refine Blk.drew ?_ | refine Blk.drewN ?_ _ | refine Blk.call ?_ (by with_reducible assumption)))) hb1
      have c1 := k1.cell
      have f1 := k1.frozen
      have l1 := k1.lt
      have hbw : Below w.heap.size w w1 := by (repeat (first | exact Below.refl _ _ | with_reducible assumption | refine pb_alloc ?_ _ | refine pb_drew ?_ | refine pb_drewN ?_ _ | refine pb_set ?_ (by simp; try omega) _ | refine pb_trans ?_ (by with_reducible assumption)))
      go_wp2_with fail
      refine (hin.out _).mono ?_
      rintro e w2 ⟨rfl, hw2⟩
      obtain rfl := hw2.symm
      have rr := (((((k1).set (o := 0) (.int .u8 0)).set (o := 1) (.int .i64 0)).set (o := 2) (.int .u64 0)).set (o := 3) (.string ⟨#[]⟩)).cell
      go_wp2
      exact bodyPost_ret (v := .tuple #[.agg #[.int .u8 0, .int .i64 0, .int .u64 0, .string ⟨#[]⟩], .bool false]) (by simp [results, Tryz.results121, go_sem, rr]) rfl ⟨0, 0, 0, ⟨#[]⟩, rfl, by simp, pb_set (pb_set (pb_set (pb_set hbw (by simp) _) (by simp) _) (by simp) _) (by simp) _⟩
  · rw [if_neg hbad] at hf0
    have hi1 : isInstP (n : Int) = true := by cases h : isInstP (n : Int); exact absurd (.inr h) hbad; rfl
    have hn4 : ¬ 10000 < n := fun h => hbad (.inl h)
    have t1 : decide ((10000 : Int) < (n : Int)) = false := by simp; omega
    rw [hi1] at hin
    replace hin : Hid (∀ _, _) := hin
    replace hi1 : Hid (_ = _) := hi1
    clear hbad
    by_cases hx1 : x = 100
    · subst hx1
      rw [if_pos rfl] at hf0
      have hxd := extract_drop s 5
      have hv := bs_size (s.drop 5)
      have t2 : (((100 : UInt8).toNat : Int) == 100) = true := rfl
      generalize s.drop 5 = v at *
      have t4 : decide (((bs v).size : Int) ≤ 4000) = decide (v.length ≤ 4000) := by rw [hv]; exact decide_eq_decide.2 (by omega)
      replace hsz : Hid (_ = _) := hsz
      replace hv : Hid (_ = _) := hv
      replace hf0 : Hid (_ = _) := hf0
      clear c5
      go_enter Tryz.func121, Tryz.ntmps121
      go_wp2_with fail
      refine (hget.out _).mono ?_
      rintro e w1 ⟨rfl, hb1⟩
      have k1 : Blk w1 w.heap.size #[.int .u8 0, .int .i64 0, .int .u64 0, .string ⟨#[]⟩] 201 := Blk.call (by (repeat (first | with_reducible assumption | (refine Blk.new ?_; simp; done) | refine Blk.alloc ?_ _ | refine Blk.drew ?_ | refine Blk.drewN ?_ _ | refine Blk.call ?_ (by with_reducible assumption)))) hb1
      have c1 := k1.cell
      have f1 := k1.frozen
      have l1 := k1.lt
      have hbw : Below w.heap.size w w1 := by (repeat (first | exact Below.refl _ _ | with_reducible assumption | refine pb_alloc ?_ _ | refine pb_drew ?_ | refine pb_drewN ?_ _ | refine pb_set ?_ (by simp; try omega) _ | refine pb_trans ?_ (by with_reducible assumption)))
      go_wp2_with fail
      refine (hin.out _).mono ?_
      rintro e w2 ⟨rfl, hw2⟩
      obtain rfl := hw2.symm
      go_wp2_with fail
      have kA : Blk (w1.alloc (.cells #[.int .u8 100, .int .i64 n, .int .u64 0, .string (bs v)] 201)) w1.heap.size #[.int .u8 100, .int .i64 n, .int .u64 0, .string (bs v)] 201 := Blk.new rfl
      have kT := k1.alloc (.cells #[.int .u8 100, .int .i64 n, .int .u64 0, .string (bs v)] 201)
      have hbT := pb_alloc hbw (.cells #[.int .u8 100, .int .i64 n, .int .u64 0, .string (bs v)] 201)
      have hneA : w1.heap.size ≠ w.heap.size := by omega
      have hso : Hid ((readRec s).isSome = decide (v.length ≤ 4000)) := by
        have h := hf0.out
        by_cases hv4 : v.length ≤ 4000
        · rw [if_pos hv4] at h; show (readRec s).isSome = _; rw [h]; simp [hv4]
        · rw [if_neg hv4] at h; show (readRec s).isSome = _; rw [h]; simp [hv4]
      have hfld : Hid (∀ k i m y, readRec s = some (k, i, m, y) → (100 : Int) = k.toNat ∧ (n : Int) = i ∧ (0 : Int) = m ∧ bs v = bs y) := by
        intro k i m y h
        have h2 := hf0.out
        rw [h] at h2
        split at h2
        · cases h2; exact ⟨rfl, rfl, rfl, rfl⟩
        · cases h2
      refine wp_region_sched [(0, true), (1, true), (2, true), (3, true), (4, true), (5, false), (6, true)] none (fun w' => Blk w' w1.heap.size #[.int .u8 100, .int .i64 n, .int .u64 0, .string (bs v)] 201 ∧ True) (by kernel_rfl) (by kernel_rfl) ⟨kA.drew, trivial⟩ ?_
      (repeat (refine wpSched_quiet (v := ?_) rfl rfl (fun w' hS => ?_) (fun K hK => ?_); rotate_left; (focus ((try have e1 := hS.1.cell); (try have e2 := hS.2.1.cell); (try have e3 := hS.2.2.1.cell); (try have e4 := hS.2.2.2.1.cell); (try have f1 := hS.1); (try have f2 := hS.2.1); (try have f3 := hS.2.2.1); (try have f4 := hS.2.2.2.1); (try have f5 := hS.2.2.2.2.1); clear hS; go_simp; (try with_reducible rfl))); (go_simp; refine hK _ ?_; clear hK K)))
      refine wpSched_loud rfl (fun K hK => ?_)
      have cT := kT.cell
      have fT := kT.frozen
      have lT := kT.lt
      go_wp2
      refine hK.out _ _ (fun _ => ⟨Blk.drew (Blk.new (by simp)), trivial⟩) ?_
      clear hK K
      (repeat (refine wpSched_quiet (v := ?_) rfl rfl (fun w' hS => ?_) (fun K hK => ?_); rotate_left; (focus ((try have e1 := hS.1.cell); (try have e2 := hS.2.1.cell); (try have e3 := hS.2.2.1.cell); (try have e4 := hS.2.2.2.1.cell); (try have f1 := hS.1); (try have f2 := hS.2.1); (try have f3 := hS.2.2.1); (try have f4 := hS.2.2.2.1); (try have f5 := hS.2.2.2.2.1); clear hS; go_simp; (try with_reducible rfl))); (go_simp; refine hK _ ?_; clear hK K)))
      refine wpSched_nil ?_
      have rr := (((((k1.set (o := 0) (.int .u8 100)).set (o := 1) (.int .i64 n)).set (o := 2) (.int .u64 0)).set (o := 3) (.string (bs v))).alloc (.cells #[.int .u8 100, .int .i64 n, .int .u64 0, .string (bs v)] 201)).cell
      have hbz := pb_drew (pb_alloc (pb_set (pb_set (pb_set (pb_set hbw (p := ⟨w.heap.size, 0, none⟩) (by simp) (.int .u8 100)) (p := ⟨w.heap.size, 1, none⟩) (by simp) (.int .i64 n)) (p := ⟨w.heap.size, 2, none⟩) (by simp) (.int .u64 0)) (p := ⟨w.heap.size, 3, none⟩) (by simp) (.string (bs v))) (.cells #[.int .u8 100, .int .i64 n, .int .u64 0, .string (bs v)] 201))
      go_wp2
      exact bodyPost_ret (v := .tuple #[.agg #[.int .u8 100, .int .i64 n, .int .u64 0, .string (bs v)], .bool (decide<|v.length≤4000)]) (by simp [results, Tryz.results121, go_sem, rr]) rfl ⟨100, n, 0, bs v, by rw [hso.out], hfld.out, hbz⟩
    · rw [if_neg hx1] at hf0
      have t2 : ((x.toNat : Int) == 100) = false := by
        simp only [beq_eq_false_iff_ne, ne_eq]
        intro hc
        exact hx1 (UInt8.toNat_inj.1 (by simpa using (by omega : x.toNat = 100)))
      by_cases hx2 : x = 112
      · subst hx2
        rw [if_pos (.inl rfl)] at hf0
        have t3 : (((112 : UInt8).toNat : Int) == 112) = true := rfl
        have t2' : (((112 : UInt8).toNat : Int) == 100) = false := rfl
        clear t2 hx1
        by_cases h13 : s.length < 13
        · rw [if_pos h13] at hf0
          rw [hf0]
          have t4 : decide (((bs s).size : Int) < 13) = true := by rw [hsz]; simp; omega
          replace hsz : Hid (_ = _) := hsz
          replace hf0 : Hid (_ = _) := hf0
          clear c5
          go_enter Tryz.func121, Tryz.ntmps121
          go_wp2_with fail
          refine (hget.out _).mono ?_
          rintro e w1 ⟨rfl, hb1⟩
          have k1 : Blk w1 w.heap.size #[.int .u8 0, .int .i64 0, .int .u64 0, .string ⟨#[]⟩] 201 := Blk.call (by (repeat (first | with_reducible assumption | (refine Blk.new ?_; simp; done) | refine Blk.alloc ?_ _ | refine Blk.drew ?_ | refine Blk.drewN ?_ _ | refine Blk.call ?_ (by with_reducible assumption)))) hb1
          have c1 := k1.cell
          have f1 := k1.frozen
          have l1 := k1.lt
          have hbw : Below w.heap.size w w1 := by (repeat (first | exact Below.refl _ _ | with_reducible assumption | refine pb_alloc ?_ _ | refine pb_drew ?_ | refine pb_drewN ?_ _ | refine pb_set ?_ (by simp; try omega) _ | refine pb_trans ?_ (by with_reducible assumption)))
          go_wp2_with fail
          refine (hin.out _).mono ?_
          rintro e w2 ⟨rfl, hw2⟩
          obtain rfl := hw2.symm
          have rr := (((((k1.set (o := 0) (.int .u8 0)).set (o := 1) (.int .i64 0)).set (o := 2) (.int .u64 0)).set (o := 3) (.string ⟨#[]⟩)).alloc (.cells #[.int .u8 112, .int .i64 n, .int .u64 0, .string ⟨#[]⟩] 201)).cell
          go_wp2
          exact bodyPost_ret (v := .tuple #[.agg #[.int .u8 0, .int .i64 0, .int .u64 0, .string ⟨#[]⟩], .bool false]) (by simp [results, Tryz.results121, go_sem, rr]) rfl ⟨0, 0, 0, ⟨#[]⟩, rfl, by simp, pb_alloc (pb_set (pb_set (pb_set (pb_set hbw (by simp) _) (by simp) _) (by simp) _) (by simp) _) _⟩
        · rw [if_neg h13] at hf0
          have t4 : decide (((bs s).size : Int) < 13) = false := by rw [hsz]; simp; omega
          have b13 : (13 : Int) ≤ ((bs s).size : Int) := by omega
          have c13 : ¬ (bs s).size < 13 := by omega
          have hxm := extract_mid s 5 13
          rw [show 13 - 5 = 8 from rfl] at hxm
          have hml : ((s.drop 5).take 8).length = 8 := by rw [List.length_take, List.length_drop]; omega
          have hnum := fun W => number_any ((s.drop 5).take 8) hml W
          rw [(mid_split s).1, (mid_split s).2] at hnum
          have hxd := extract_drop s 13
          have hv := bs_size (s.drop 13)
          have hem : (bs (s.drop 13)).toList.isEmpty = (s.drop 13).isEmpty := by rw [bs_toList]
          generalize (s.drop 5).take 8 = u at *
          generalize getP ((s.drop 5).take 4) + 4294967296 * getP ((s.drop 9).take 4) = m at *
          generalize s.drop 13 = v at *
          have t6 : decide (((bs v).size : Int) ≤ 4000) = decide (v.length ≤ 4000) := by rw [hv]; exact decide_eq_decide.2 (by omega)
          replace hnum : Hid (∀ _, _) := hnum
          replace hsz : Hid (_ = _) := hsz
          replace hv : Hid (_ = _) := hv
          replace hml : Hid (_ = _) := hml
          clear c5
          by_cases hve : v = []
          · rw [if_neg (by simp [hve])] at hf0
            have hee : v.isEmpty = true := by simp [hve]
            rw [hee] at hem
            replace hve : Hid (_ = _) := hve
            replace hee : Hid (_ = _) := hee
            replace hf0 : Hid (_ = _) := hf0
            have hso : Hid ((readRec s).isSome = (decide (1 ≤ m) && decide (v.length ≤ 4000))) := by
              have h := hf0.out
              by_cases hv4 : 1 ≤ m ∧ v.length ≤ 4000
              · rw [if_pos hv4] at h; show (readRec s).isSome = _; rw [h]; simp [hv4.1, hv4.2]
              · rw [if_neg hv4] at h; show (readRec s).isSome = _; rw [h]
                rw [Classical.not_and_iff_not_or_not] at hv4
                rcases hv4 with h1 | h1 <;> simp [h1]
            have hfld : Hid (∀ k i m' y, readRec s = some (k, i, m', y) → (112 : Int) = k.toNat ∧ (n : Int) = i ∧ (m : Int) = m' ∧ bs v = bs y) := by
              intro k i m' y h
              have h2 := hf0.out
              rw [h] at h2
              split at h2
              · cases h2; exact ⟨rfl, rfl, rfl, rfl⟩
              · cases h2
            have t5' : decide ((1 : Int) ≤ (m : Int)) = decide (1 ≤ m) := decide_eq_decide.2 (by omega)
            cases h1m : decide (1 ≤ m)
            ·
              rw [h1m] at t5' hso
              replace h1m : Hid (_ = _) := h1m
              go_enter Tryz.func121, Tryz.ntmps121
              go_wp2_with fail
              refine (hget.out _).mono ?_
              rintro e w1 ⟨rfl, hb1⟩
              have k1 : Blk w1 w.heap.size #[.int .u8 0, .int .i64 0, .int .u64 0, .string ⟨#[]⟩] 201 := Blk.call (by (repeat (first | with_reducible assumption | (refine Blk.new ?_; simp; done) | refine Blk.alloc ?_ _ | refine Blk.drew ?_ | refine Blk.drewN ?_ _ | refine Blk.call ?_ (by with_reducible assumption)))) hb1
              have c1 := k1.cell
              have f1 := k1.frozen
              have l1 := k1.lt
              have hbw : Below w.heap.size w w1 := by (repeat (first | exact Below.refl _ _ | with_reducible assumption | refine pb_alloc ?_ _ | refine pb_drew ?_ | refine pb_drewN ?_ _ | refine pb_set ?_ (by simp; try omega) _ | refine pb_trans ?_ (by with_reducible assumption)))
              go_wp2_with fail
              refine (hin.out _).mono ?_
              rintro e w2 ⟨rfl, hw2⟩
              obtain rfl := hw2.symm
              have kA0 : Blk (w1.alloc (.cells #[.int .u8 112, .int .i64 n, .int .u64 0, .string ⟨#[]⟩] 201)) w1.heap.size #[.int .u8 112, .int .i64 n, .int .u64 0, .string ⟨#[]⟩] 201 := Blk.new rfl
              go_wp2_with fail
              refine (hnum.out _).mono ?_
              rintro e w3 ⟨rfl, hb3⟩
              have kA3 := kA0.call hb3
              have k13 := (k1.alloc (.cells #[.int .u8 112, .int .i64 n, .int .u64 0, .string ⟨#[]⟩] 201)).call hb3
              have hbw3 : Below w.heap.size w w3 := pb_trans (pb_alloc hbw _) hb3
              have hlw1 : w.heap.size < w1.heap.size := by omega
              have hneA : w1.heap.size ≠ w.heap.size := by omega
              clear c1 f1 l1 kA0 k1 hb3
              have kA4 := (kA3.set (o := 2) (.int .u64 m)).set (o := 3) (.string (bs v))
              have k14 := (k13.other (p := ⟨w1.heap.size, 2, none⟩) (Ne.symm hneA) (.int .u64 m)).other (p := ⟨w1.heap.size, 3, none⟩) (Ne.symm hneA) (.string (bs v))
              have hb4 : Below w.heap.size w ((w3.setCell ⟨w1.heap.size, 2, none⟩ (.int .u64 m)).setCell ⟨w1.heap.size, 3, none⟩ (.string (bs v))) := pb_set (pb_set hbw3 (p := ⟨w1.heap.size, 2, none⟩) (by simp; omega) _) (p := ⟨w1.heap.size, 3, none⟩) (by simp; omega) _
              have cA3 := kA3.cell
              have fA3 := kA3.frozen
              have lA3 := kA3.lt
              have c13' := k13.cell
              have f13 := k13.frozen
              have l13 := k13.lt
              have cA4 := kA4.cell
              go_wp2_with fail
              refine wp_region_sched [(0, true), (1, true), (2, true), (3, true), (4, true), (5, true), (6, true), (7, true), (8, true), (9, true), (10, false), (11, true)] none (fun w' => Blk w' w1.heap.size #[.int .u8 112, .int .i64 n, .int .u64 m, .string (bs v)] 201 ∧ True) (by kernel_rfl) (by kernel_rfl) ⟨kA4.drew, trivial⟩ ?_
              clear cA3 fA3 c13' f13
              (repeat (refine wpSched_quiet (v := ?_) rfl rfl (fun w' hS => ?_) (fun K hK => ?_); rotate_left; (focus ((try have e1 := hS.1.cell); (try have e2 := hS.2.1.cell); (try have e3 := hS.2.2.1.cell); (try have e4 := hS.2.2.2.1.cell); (try have f1 := hS.1); (try have f2 := hS.2.1); (try have f3 := hS.2.2.1); (try have f4 := hS.2.2.2.1); (try have f5 := hS.2.2.2.2.1); clear hS; go_simp; (try with_reducible rfl))); (go_simp; refine hK _ ?_; clear hK K)))
              (repeat (refine wpSched_unwanted rfl rfl (fun K hK => ?_); go_simp; refine hK _ ?_; clear hK K))
              (repeat (refine wpSched_quiet (v := ?_) rfl rfl (fun w' hS => ?_) (fun K hK => ?_); rotate_left; (focus ((try have e1 := hS.1.cell); (try have e2 := hS.2.1.cell); (try have e3 := hS.2.2.1.cell); (try have e4 := hS.2.2.2.1.cell); (try have f1 := hS.1); (try have f2 := hS.2.1); (try have f3 := hS.2.2.1); (try have f4 := hS.2.2.2.1); (try have f5 := hS.2.2.2.2.1); clear hS; go_simp; (try with_reducible rfl))); (go_simp; refine hK _ ?_; clear hK K)))
              refine wpSched_loud rfl (fun K hK => ?_)
              have cT := k14.cell
              have fT := k14.frozen
              have lT := k14.lt
              go_wp2
              have kA5 := (((kA4.other (p := ⟨w.heap.size, 0, none⟩) hneA (.int .u8 112)).other (p := ⟨w.heap.size, 1, none⟩) hneA (.int .i64 n)).other (p := ⟨w.heap.size, 2, none⟩) hneA (.int .u64 m)).other (p := ⟨w.heap.size, 3, none⟩) hneA (.string (bs v))
              refine hK.out _ _ (fun _ => ⟨kA5.drew, trivial⟩) ?_
              clear hK K
              (repeat (refine wpSched_quiet (v := ?_) rfl rfl (fun w' hS => ?_) (fun K hK => ?_); rotate_left; (focus ((try have e1 := hS.1.cell); (try have e2 := hS.2.1.cell); (try have e3 := hS.2.2.1.cell); (try have e4 := hS.2.2.2.1.cell); (try have f1 := hS.1); (try have f2 := hS.2.1); (try have f3 := hS.2.2.1); (try have f4 := hS.2.2.2.1); (try have f5 := hS.2.2.2.2.1); clear hS; go_simp; (try with_reducible rfl))); (go_simp; refine hK _ ?_; clear hK K)))
              refine wpSched_nil ?_
              have rr := ((((k14.set (o := 0) (.int .u8 112)).set (o := 1) (.int .i64 n)).set (o := 2) (.int .u64 m)).set (o := 3) (.string (bs v))).cell
              have hbz := pb_drew (pb_set (pb_set (pb_set (pb_set hb4 (p := ⟨w.heap.size, 0, none⟩) (by simp) (.int .u8 112)) (p := ⟨w.heap.size, 1, none⟩) (by simp) (.int .i64 n)) (p := ⟨w.heap.size, 2, none⟩) (by simp) (.int .u64 m)) (p := ⟨w.heap.size, 3, none⟩) (by simp) (.string (bs v)))
              go_wp2
              exact bodyPost_ret (v := .tuple #[.agg #[.int .u8 112, .int .i64 n, .int .u64 m, .string (bs v)], .bool false]) (by simp [results, Tryz.results121, go_sem, rr]) rfl ⟨112, n, m, bs v, by rw [hso.out]; rfl, hfld.out, hbz⟩
            ·
              rw [h1m] at t5' hso
              replace h1m : Hid (_ = _) := h1m
              go_enter Tryz.func121, Tryz.ntmps121
              go_wp2_with fail
              refine (hget.out _).mono ?_
              rintro e w1 ⟨rfl, hb1⟩
              have k1 : Blk w1 w.heap.size #[.int .u8 0, .int .i64 0, .int .u64 0, .string ⟨#[]⟩] 201 := Blk.call (by (repeat (first | with_reducible assumption | (refine Blk.new ?_; simp; done) | refine Blk.alloc ?_ _ | refine Blk.drew ?_ | refine Blk.drewN ?_ _ | refine Blk.call ?_ (by with_reducible assumption)))) hb1
              have c1 := k1.cell
              have f1 := k1.frozen
              have l1 := k1.lt
              have hbw : Below w.heap.size w w1 := by (repeat (first | exact Below.refl _ _ | with_reducible assumption | refine pb_alloc ?_ _ | refine pb_drew ?_ | refine pb_drewN ?_ _ | refine pb_set ?_ (by simp; try omega) _ | refine pb_trans ?_ (by with_reducible assumption)))
              go_wp2_with fail
              refine (hin.out _).mono ?_
              rintro e w2 ⟨rfl, hw2⟩
              obtain rfl := hw2.symm
              have kA0 : Blk (w1.alloc (.cells #[.int .u8 112, .int .i64 n, .int .u64 0, .string ⟨#[]⟩] 201)) w1.heap.size #[.int .u8 112, .int .i64 n, .int .u64 0, .string ⟨#[]⟩] 201 := Blk.new rfl
              go_wp2_with fail
              refine (hnum.out _).mono ?_
              rintro e w3 ⟨rfl, hb3⟩
              have kA3 := kA0.call hb3
              have k13 := (k1.alloc (.cells #[.int .u8 112, .int .i64 n, .int .u64 0, .string ⟨#[]⟩] 201)).call hb3
              have hbw3 : Below w.heap.size w w3 := pb_trans (pb_alloc hbw _) hb3
              have hlw1 : w.heap.size < w1.heap.size := by omega
              have hneA : w1.heap.size ≠ w.heap.size := by omega
              clear c1 f1 l1 kA0 k1 hb3
              have kA4 := (kA3.set (o := 2) (.int .u64 m)).set (o := 3) (.string (bs v))
              have k14 := (k13.other (p := ⟨w1.heap.size, 2, none⟩) (Ne.symm hneA) (.int .u64 m)).other (p := ⟨w1.heap.size, 3, none⟩) (Ne.symm hneA) (.string (bs v))
              have hb4 : Below w.heap.size w ((w3.setCell ⟨w1.heap.size, 2, none⟩ (.int .u64 m)).setCell ⟨w1.heap.size, 3, none⟩ (.string (bs v))) := pb_set (pb_set hbw3 (p := ⟨w1.heap.size, 2, none⟩) (by simp; omega) _) (p := ⟨w1.heap.size, 3, none⟩) (by simp; omega) _
              have cA3 := kA3.cell
              have fA3 := kA3.frozen
              have lA3 := kA3.lt
              have c13' := k13.cell
              have f13 := k13.frozen
              have l13 := k13.lt
              have cA4 := kA4.cell
              go_wp2_with fail
              refine wp_region_sched [(0, true), (1, true), (2, true), (3, true), (4, true), (5, true), (6, true), (7, true), (8, true), (9, true), (10, false), (11, true)] none (fun w' => Blk w' w1.heap.size #[.int .u8 112, .int .i64 n, .int .u64 m, .string (bs v)] 201 ∧ True) (by kernel_rfl) (by kernel_rfl) ⟨kA4.drew, trivial⟩ ?_
              clear cA3 fA3 c13' f13
              (repeat (refine wpSched_quiet (v := ?_) rfl rfl (fun w' hS => ?_) (fun K hK => ?_); rotate_left; (focus ((try have e1 := hS.1.cell); (try have e2 := hS.2.1.cell); (try have e3 := hS.2.2.1.cell); (try have e4 := hS.2.2.2.1.cell); (try have f1 := hS.1); (try have f2 := hS.2.1); (try have f3 := hS.2.2.1); (try have f4 := hS.2.2.2.1); (try have f5 := hS.2.2.2.2.1); clear hS; go_simp; (try with_reducible rfl))); (go_simp; refine hK _ ?_; clear hK K)))
              (repeat (refine wpSched_unwanted rfl rfl (fun K hK => ?_); go_simp; refine hK _ ?_; clear hK K))
              (repeat (refine wpSched_quiet (v := ?_) rfl rfl (fun w' hS => ?_) (fun K hK => ?_); rotate_left; (focus ((try have e1 := hS.1.cell); (try have e2 := hS.2.1.cell); (try have e3 := hS.2.2.1.cell); (try have e4 := hS.2.2.2.1.cell); (try have f1 := hS.1); (try have f2 := hS.2.1); (try have f3 := hS.2.2.1); (try have f4 := hS.2.2.2.1); (try have f5 := hS.2.2.2.2.1); clear hS; go_simp; (try with_reducible rfl))); (go_simp; refine hK _ ?_; clear hK K)))
              refine wpSched_loud rfl (fun K hK => ?_)
              have cT := k14.cell
              have fT := k14.frozen
              have lT := k14.lt
              go_wp2
              have kA5 := (((kA4.other (p := ⟨w.heap.size, 0, none⟩) hneA (.int .u8 112)).other (p := ⟨w.heap.size, 1, none⟩) hneA (.int .i64 n)).other (p := ⟨w.heap.size, 2, none⟩) hneA (.int .u64 m)).other (p := ⟨w.heap.size, 3, none⟩) hneA (.string (bs v))
              refine hK.out _ _ (fun _ => ⟨kA5.drew, trivial⟩) ?_
              clear hK K
              (repeat (refine wpSched_quiet (v := ?_) rfl rfl (fun w' hS => ?_) (fun K hK => ?_); rotate_left; (focus ((try have e1 := hS.1.cell); (try have e2 := hS.2.1.cell); (try have e3 := hS.2.2.1.cell); (try have e4 := hS.2.2.2.1.cell); (try have f1 := hS.1); (try have f2 := hS.2.1); (try have f3 := hS.2.2.1); (try have f4 := hS.2.2.2.1); (try have f5 := hS.2.2.2.2.1); clear hS; go_simp; (try with_reducible rfl))); (go_simp; refine hK _ ?_; clear hK K)))
              refine wpSched_nil ?_
              have rr := ((((k14.set (o := 0) (.int .u8 112)).set (o := 1) (.int .i64 n)).set (o := 2) (.int .u64 m)).set (o := 3) (.string (bs v))).cell
              have hbz := pb_drew (pb_set (pb_set (pb_set (pb_set hb4 (p := ⟨w.heap.size, 0, none⟩) (by simp) (.int .u8 112)) (p := ⟨w.heap.size, 1, none⟩) (by simp) (.int .i64 n)) (p := ⟨w.heap.size, 2, none⟩) (by simp) (.int .u64 m)) (p := ⟨w.heap.size, 3, none⟩) (by simp) (.string (bs v)))
              go_wp2
              exact bodyPost_ret (v := .tuple #[.agg #[.int .u8 112, .int .i64 n, .int .u64 m, .string (bs v)], .bool (decide<|v.length≤4000)]) (by simp [results, Tryz.results121, go_sem, rr]) rfl ⟨112, n, m, bs v, by rw [hso.out]; rfl, hfld.out, hbz⟩
          · rw [if_pos ⟨rfl, hve⟩] at hf0
            rw [hf0]
            have hee : v.isEmpty = false := by simp [hve]
            rw [hee] at hem
            replace hve : Hid (_ → _) := hve
            replace hee : Hid (_ = _) := hee
            replace hf0 : Hid (_ = _) := hf0
            go_enter Tryz.func121, Tryz.ntmps121
            go_wp2_with fail
            refine (hget.out _).mono ?_
            rintro e w1 ⟨rfl, hb1⟩
            have k1 : Blk w1 w.heap.size #[.int .u8 0, .int .i64 0, .int .u64 0, .string ⟨#[]⟩] 201 := Blk.call (by (repeat (first | with_reducible assumption | (refine Blk.new ?_; simp; done) | refine Blk.alloc ?_ _ | refine Blk.drew ?_ | refine Blk.drewN ?_ _ | refine Blk.call ?_ (by with_reducible assumption)))) hb1
            have c1 := k1.cell
            have f1 := k1.frozen
            have l1 := k1.lt
            have hbw : Below w.heap.size w w1 := by (repeat (first | exact Below.refl _ _ | with_reducible assumption | refine pb_alloc ?_ _ | refine pb_drew ?_ | refine pb_drewN ?_ _ | refine pb_set ?_ (by simp; try omega) _ | refine pb_trans ?_ (by with_reducible assumption)))
            go_wp2_with fail
            refine (hin.out _).mono ?_
            rintro e w2 ⟨rfl, hw2⟩
            obtain rfl := hw2.symm
            have kA0 : Blk (w1.alloc (.cells #[.int .u8 112, .int .i64 n, .int .u64 0, .string ⟨#[]⟩] 201)) w1.heap.size #[.int .u8 112, .int .i64 n, .int .u64 0, .string ⟨#[]⟩] 201 := Blk.new rfl
            go_wp2_with fail
            refine (hnum.out _).mono ?_
            rintro e w3 ⟨rfl, hb3⟩
            have kA3 := kA0.call hb3
            have k13 := (k1.alloc (.cells #[.int .u8 112, .int .i64 n, .int .u64 0, .string ⟨#[]⟩] 201)).call hb3
            have hbw3 : Below w.heap.size w w3 := pb_trans (pb_alloc hbw _) hb3
            have hlw1 : w.heap.size < w1.heap.size := by omega
            have hneA : w1.heap.size ≠ w.heap.size := by omega
            clear c1 f1 l1 kA0 k1 hb3
            have kA4 := (kA3.set (o := 2) (.int .u64 m)).set (o := 3) (.string (bs v))
            have k14 := (k13.other (p := ⟨w1.heap.size, 2, none⟩) (Ne.symm hneA) (.int .u64 m)).other (p := ⟨w1.heap.size, 3, none⟩) (Ne.symm hneA) (.string (bs v))
            have hb4 : Below w.heap.size w ((w3.setCell ⟨w1.heap.size, 2, none⟩ (.int .u64 m)).setCell ⟨w1.heap.size, 3, none⟩ (.string (bs v))) := pb_set (pb_set hbw3 (p := ⟨w1.heap.size, 2, none⟩) (by simp; omega) _) (p := ⟨w1.heap.size, 3, none⟩) (by simp; omega) _
            have cA3 := kA3.cell
            have fA3 := kA3.frozen
            have lA3 := kA3.lt
            have c13' := k13.cell
            have f13 := k13.frozen
            have l13 := k13.lt
            have cA4 := kA4.cell
            have c14 := k14.cell
            have f14 := k14.frozen
            have l14 := k14.lt
            have rr := ((((k14.set (o := 0) (.int .u8 0)).set (o := 1) (.int .i64 0)).set (o := 2) (.int .u64 0)).set (o := 3) (.string ⟨#[]⟩)).cell
            go_wp2
            exact bodyPost_ret (v := .tuple #[.agg #[.int .u8 0, .int .i64 0, .int .u64 0, .string ⟨#[]⟩], .bool false]) (by simp [results, Tryz.results121, go_sem, rr]) rfl ⟨0, 0, 0, ⟨#[]⟩, rfl, by simp, pb_set (pb_set (pb_set (pb_set hb4 (by simp) _) (by simp) _) (by simp) _) (by simp) _⟩
      · by_cases hx3 : x = 118
        · subst hx3
          rw [if_pos (.inr rfl)] at hf0
          have t3 : (((118 : UInt8).toNat : Int) == 112) = false := rfl
          have t3' : (((118 : UInt8).toNat : Int) == 118) = true := rfl
          clear t2 hx1 hx2
          by_cases h13 : s.length < 13
          · rw [if_pos h13] at hf0
            rw [hf0]
            have t4 : decide (((bs s).size : Int) < 13) = true := by rw [hsz]; simp; omega
            replace hsz : Hid (_ = _) := hsz
            replace hf0 : Hid (_ = _) := hf0
            clear c5
            go_enter Tryz.func121, Tryz.ntmps121
            go_wp2_with fail
            refine (hget.out _).mono ?_
            rintro e w1 ⟨rfl, hb1⟩
            have k1 : Blk w1 w.heap.size #[.int .u8 0, .int .i64 0, .int .u64 0, .string ⟨#[]⟩] 201 := Blk.call (by (repeat (first | with_reducible assumption | (refine Blk.new ?_; simp; done) | refine Blk.alloc ?_ _ | refine Blk.drew ?_ | refine Blk.drewN ?_ _ | refine Blk.call ?_ (by with_reducible assumption)))) hb1
            have c1 := k1.cell
            have f1 := k1.frozen
            have l1 := k1.lt
            have hbw : Below w.heap.size w w1 := by (repeat (first | exact Below.refl _ _ | with_reducible assumption | refine pb_alloc ?_ _ | refine pb_drew ?_ | refine pb_drewN ?_ _ | refine pb_set ?_ (by simp; try omega) _ | refine pb_trans ?_ (by with_reducible assumption)))
            go_wp2_with fail
            refine (hin.out _).mono ?_
            rintro e w2 ⟨rfl, hw2⟩
            obtain rfl := hw2.symm
            have rr := (((((k1.set (o := 0) (.int .u8 0)).set (o := 1) (.int .i64 0)).set (o := 2) (.int .u64 0)).set (o := 3) (.string ⟨#[]⟩)).alloc (.cells #[.int .u8 118, .int .i64 n, .int .u64 0, .string ⟨#[]⟩] 201)).cell
            go_wp2
            exact bodyPost_ret (v := .tuple #[.agg #[.int .u8 0, .int .i64 0, .int .u64 0, .string ⟨#[]⟩], .bool false]) (by simp [results, Tryz.results121, go_sem, rr]) rfl ⟨0, 0, 0, ⟨#[]⟩, rfl, by simp, pb_alloc (pb_set (pb_set (pb_set (pb_set hbw (by simp) _) (by simp) _) (by simp) _) (by simp) _) _⟩
          · rw [if_neg h13] at hf0
            have t4 : decide (((bs s).size : Int) < 13) = false := by rw [hsz]; simp; omega
            have b13 : (13 : Int) ≤ ((bs s).size : Int) := by omega
            have c13 : ¬ (bs s).size < 13 := by omega
            have hxm := extract_mid s 5 13
            rw [show 13 - 5 = 8 from rfl] at hxm
            have hml : ((s.drop 5).take 8).length = 8 := by rw [List.length_take, List.length_drop]; omega
            have hnum := fun W => number_any ((s.drop 5).take 8) hml W
            rw [(mid_split s).1, (mid_split s).2] at hnum
            have hxd := extract_drop s 13
            have hv := bs_size (s.drop 13)
            have hem : (bs (s.drop 13)).toList.isEmpty = (s.drop 13).isEmpty := by rw [bs_toList]
            generalize (s.drop 5).take 8 = u at *
            generalize getP ((s.drop 5).take 4) + 4294967296 * getP ((s.drop 9).take 4) = m at *
            generalize s.drop 13 = v at *
            have t6 : decide (((bs v).size : Int) ≤ 4000) = decide (v.length ≤ 4000) := by rw [hv]; exact decide_eq_decide.2 (by omega)
            replace hnum : Hid (∀ _, _) := hnum
            replace hsz : Hid (_ = _) := hsz
            replace hv : Hid (_ = _) := hv
            replace hml : Hid (_ = _) := hml
            clear c5
            rw [if_neg (by simp)] at hf0
            replace hf0 : Hid (_ = _) := hf0
            have hso : Hid ((readRec s).isSome = (decide (1 ≤ m) && decide (v.length ≤ 4000))) := by
              have h := hf0.out
              by_cases hv4 : 1 ≤ m ∧ v.length ≤ 4000
              · rw [if_pos hv4] at h; show (readRec s).isSome = _; rw [h]; simp [hv4.1, hv4.2]
              · rw [if_neg hv4] at h; show (readRec s).isSome = _; rw [h]
                rw [Classical.not_and_iff_not_or_not] at hv4
                rcases hv4 with h1 | h1 <;> simp [h1]
            have hfld : Hid (∀ k i m' y, readRec s = some (k, i, m', y) → (118 : Int) = k.toNat ∧ (n : Int) = i ∧ (m : Int) = m' ∧ bs v = bs y) := by
              intro k i m' y h
              have h2 := hf0.out
              rw [h] at h2
              split at h2
              · cases h2; exact ⟨rfl, rfl, rfl, rfl⟩
              · cases h2
            have t5' : decide ((1 : Int) ≤ (m : Int)) = decide (1 ≤ m) := decide_eq_decide.2 (by omega)
            cases h1m : decide (1 ≤ m)
            ·
              rw [h1m] at t5' hso
              replace h1m : Hid (_ = _) := h1m
              go_enter Tryz.func121, Tryz.ntmps121
              go_wp2_with fail
              refine (hget.out _).mono ?_
              rintro e w1 ⟨rfl, hb1⟩
              have k1 : Blk w1 w.heap.size #[.int .u8 0, .int .i64 0, .int .u64 0, .string ⟨#[]⟩] 201 := Blk.call (by (repeat (first | with_reducible assumption | (refine Blk.new ?_; simp; done) | refine Blk.alloc ?_ _ | refine Blk.drew ?_ | refine Blk.drewN ?_ _ | refine Blk.call ?_ (by with_reducible assumption)))) hb1
              have c1 := k1.cell
              have f1 := k1.frozen
              have l1 := k1.lt
              have hbw : Below w.heap.size w w1 := by (repeat (first | exact Below.refl _ _ | with_reducible assumption | refine pb_alloc ?_ _ | refine pb_drew ?_ | refine pb_drewN ?_ _ | refine pb_set ?_ (by simp; try omega) _ | refine pb_trans ?_ (by with_reducible assumption)))
              go_wp2_with fail
              refine (hin.out _).mono ?_
              rintro e w2 ⟨rfl, hw2⟩
              obtain rfl := hw2.symm
              have kA0 : Blk (w1.alloc (.cells #[.int .u8 118, .int .i64 n, .int .u64 0, .string ⟨#[]⟩] 201)) w1.heap.size #[.int .u8 118, .int .i64 n, .int .u64 0, .string ⟨#[]⟩] 201 := Blk.new rfl
              go_wp2_with fail
              refine (hnum.out _).mono ?_
              rintro e w3 ⟨rfl, hb3⟩
              have kA3 := kA0.call hb3
              have k13 := (k1.alloc (.cells #[.int .u8 118, .int .i64 n, .int .u64 0, .string ⟨#[]⟩] 201)).call hb3
              have hbw3 : Below w.heap.size w w3 := pb_trans (pb_alloc hbw _) hb3
              have hlw1 : w.heap.size < w1.heap.size := by omega
              have hneA : w1.heap.size ≠ w.heap.size := by omega
              clear c1 f1 l1 kA0 k1 hb3
              have kA4 := (kA3.set (o := 2) (.int .u64 m)).set (o := 3) (.string (bs v))
              have k14 := (k13.other (p := ⟨w1.heap.size, 2, none⟩) (Ne.symm hneA) (.int .u64 m)).other (p := ⟨w1.heap.size, 3, none⟩) (Ne.symm hneA) (.string (bs v))
              have hb4 : Below w.heap.size w ((w3.setCell ⟨w1.heap.size, 2, none⟩ (.int .u64 m)).setCell ⟨w1.heap.size, 3, none⟩ (.string (bs v))) := pb_set (pb_set hbw3 (p := ⟨w1.heap.size, 2, none⟩) (by simp; omega) _) (p := ⟨w1.heap.size, 3, none⟩) (by simp; omega) _
              have cA3 := kA3.cell
              have fA3 := kA3.frozen
              have lA3 := kA3.lt
              have c13' := k13.cell
              have f13 := k13.frozen
              have l13 := k13.lt
              have cA4 := kA4.cell
              go_wp2_with fail
              refine wp_region_sched [(0, true), (1, true), (2, true), (3, true), (4, true), (5, true), (6, true), (7, true), (8, true), (9, true), (10, false), (11, true)] none (fun w' => Blk w' w1.heap.size #[.int .u8 118, .int .i64 n, .int .u64 m, .string (bs v)] 201 ∧ True) (by kernel_rfl) (by kernel_rfl) ⟨kA4.drew, trivial⟩ ?_
              clear cA3 fA3 c13' f13
              (repeat (refine wpSched_quiet (v := ?_) rfl rfl (fun w' hS => ?_) (fun K hK => ?_); rotate_left; (focus ((try have e1 := hS.1.cell); (try have e2 := hS.2.1.cell); (try have e3 := hS.2.2.1.cell); (try have e4 := hS.2.2.2.1.cell); (try have f1 := hS.1); (try have f2 := hS.2.1); (try have f3 := hS.2.2.1); (try have f4 := hS.2.2.2.1); (try have f5 := hS.2.2.2.2.1); clear hS; go_simp; (try with_reducible rfl))); (go_simp; refine hK _ ?_; clear hK K)))
              (repeat (refine wpSched_unwanted rfl rfl (fun K hK => ?_); go_simp; refine hK _ ?_; clear hK K))
              (repeat (refine wpSched_quiet (v := ?_) rfl rfl (fun w' hS => ?_) (fun K hK => ?_); rotate_left; (focus ((try have e1 := hS.1.cell); (try have e2 := hS.2.1.cell); (try have e3 := hS.2.2.1.cell); (try have e4 := hS.2.2.2.1.cell); (try have f1 := hS.1); (try have f2 := hS.2.1); (try have f3 := hS.2.2.1); (try have f4 := hS.2.2.2.1); (try have f5 := hS.2.2.2.2.1); clear hS; go_simp; (try with_reducible rfl))); (go_simp; refine hK _ ?_; clear hK K)))
              refine wpSched_loud rfl (fun K hK => ?_)
              have cT := k14.cell
              have fT := k14.frozen
              have lT := k14.lt
              go_wp2
              have kA5 := (((kA4.other (p := ⟨w.heap.size, 0, none⟩) hneA (.int .u8 118)).other (p := ⟨w.heap.size, 1, none⟩) hneA (.int .i64 n)).other (p := ⟨w.heap.size, 2, none⟩) hneA (.int .u64 m)).other (p := ⟨w.heap.size, 3, none⟩) hneA (.string (bs v))
              refine hK.out _ _ (fun _ => ⟨kA5.drew, trivial⟩) ?_
              clear hK K
              (repeat (refine wpSched_quiet (v := ?_) rfl rfl (fun w' hS => ?_) (fun K hK => ?_); rotate_left; (focus ((try have e1 := hS.1.cell); (try have e2 := hS.2.1.cell); (try have e3 := hS.2.2.1.cell); (try have e4 := hS.2.2.2.1.cell); (try have f1 := hS.1); (try have f2 := hS.2.1); (try have f3 := hS.2.2.1); (try have f4 := hS.2.2.2.1); (try have f5 := hS.2.2.2.2.1); clear hS; go_simp; (try with_reducible rfl))); (go_simp; refine hK _ ?_; clear hK K)))
              refine wpSched_nil ?_
              have rr := ((((k14.set (o := 0) (.int .u8 118)).set (o := 1) (.int .i64 n)).set (o := 2) (.int .u64 m)).set (o := 3) (.string (bs v))).cell
              have hbz := pb_drew (pb_set (pb_set (pb_set (pb_set hb4 (p := ⟨w.heap.size, 0, none⟩) (by simp) (.int .u8 118)) (p := ⟨w.heap.size, 1, none⟩) (by simp) (.int .i64 n)) (p := ⟨w.heap.size, 2, none⟩) (by simp) (.int .u64 m)) (p := ⟨w.heap.size, 3, none⟩) (by simp) (.string (bs v)))
              go_wp2
              exact bodyPost_ret (v := .tuple #[.agg #[.int .u8 118, .int .i64 n, .int .u64 m, .string (bs v)], .bool false]) (by simp [results, Tryz.results121, go_sem, rr]) rfl ⟨118, n, m, bs v, by rw [hso.out]; rfl, hfld.out, hbz⟩
            ·
              rw [h1m] at t5' hso
              replace h1m : Hid (_ = _) := h1m
              go_enter Tryz.func121, Tryz.ntmps121
              go_wp2_with fail
              refine (hget.out _).mono ?_
              rintro e w1 ⟨rfl, hb1⟩
              have k1 : Blk w1 w.heap.size #[.int .u8 0, .int .i64 0, .int .u64 0, .string ⟨#[]⟩] 201 := Blk.call (by (repeat (first | with_reducible assumption | (refine Blk.new ?_; simp; done) | refine Blk.alloc ?_ _ | refine Blk.drew ?_ | refine Blk.drewN ?_ _ | refine Blk.call ?_ (by with_reducible assumption)))) hb1
              have c1 := k1.cell
              have f1 := k1.frozen
              have l1 := k1.lt
              have hbw : Below w.heap.size w w1 := by (repeat (first | exact Below.refl _ _ | with_reducible assumption | refine pb_alloc ?_ _ | refine pb_drew ?_ | refine pb_drewN ?_ _ | refine pb_set ?_ (by simp; try omega) _ | refine pb_trans ?_ (by with_reducible assumption)))
              go_wp2_with fail
              refine (hin.out _).mono ?_
              rintro e w2 ⟨rfl, hw2⟩
              obtain rfl := hw2.symm
              have kA0 : Blk (w1.alloc (.cells #[.int .u8 118, .int .i64 n, .int .u64 0, .string ⟨#[]⟩] 201)) w1.heap.size #[.int .u8 118, .int .i64 n, .int .u64 0, .string ⟨#[]⟩] 201 := Blk.new rfl
              go_wp2_with fail
              refine (hnum.out _).mono ?_
              rintro e w3 ⟨rfl, hb3⟩
              have kA3 := kA0.call hb3
              have k13 := (k1.alloc (.cells #[.int .u8 118, .int .i64 n, .int .u64 0, .string ⟨#[]⟩] 201)).call hb3
              have hbw3 : Below w.heap.size w w3 := pb_trans (pb_alloc hbw _) hb3
              have hlw1 : w.heap.size < w1.heap.size := by omega
              have hneA : w1.heap.size ≠ w.heap.size := by omega
              clear c1 f1 l1 kA0 k1 hb3
              have kA4 := (kA3.set (o := 2) (.int .u64 m)).set (o := 3) (.string (bs v))
              have k14 := (k13.other (p := ⟨w1.heap.size, 2, none⟩) (Ne.symm hneA) (.int .u64 m)).other (p := ⟨w1.heap.size, 3, none⟩) (Ne.symm hneA) (.string (bs v))
              have hb4 : Below w.heap.size w ((w3.setCell ⟨w1.heap.size, 2, none⟩ (.int .u64 m)).setCell ⟨w1.heap.size, 3, none⟩ (.string (bs v))) := pb_set (pb_set hbw3 (p := ⟨w1.heap.size, 2, none⟩) (by simp; omega) _) (p := ⟨w1.heap.size, 3, none⟩) (by simp; omega) _
              have cA3 := kA3.cell
              have fA3 := kA3.frozen
              have lA3 := kA3.lt
              have c13' := k13.cell
              have f13 := k13.frozen
              have l13 := k13.lt
              have cA4 := kA4.cell
              go_wp2_with fail
              refine wp_region_sched [(0, true), (1, true), (2, true), (3, true), (4, true), (5, true), (6, true), (7, true), (8, true), (9, true), (10, false), (11, true)] none (fun w' => Blk w' w1.heap.size #[.int .u8 118, .int .i64 n, .int .u64 m, .string (bs v)] 201 ∧ True) (by kernel_rfl) (by kernel_rfl) ⟨kA4.drew, trivial⟩ ?_
              clear cA3 fA3 c13' f13
              (repeat (refine wpSched_quiet (v := ?_) rfl rfl (fun w' hS => ?_) (fun K hK => ?_); rotate_left; (focus ((try have e1 := hS.1.cell); (try have e2 := hS.2.1.cell); (try have e3 := hS.2.2.1.cell); (try have e4 := hS.2.2.2.1.cell); (try have f1 := hS.1); (try have f2 := hS.2.1); (try have f3 := hS.2.2.1); (try have f4 := hS.2.2.2.1); (try have f5 := hS.2.2.2.2.1); clear hS; go_simp; (try with_reducible rfl))); (go_simp; refine hK _ ?_; clear hK K)))
              (repeat (refine wpSched_unwanted rfl rfl (fun K hK => ?_); go_simp; refine hK _ ?_; clear hK K))
              (repeat (refine wpSched_quiet (v := ?_) rfl rfl (fun w' hS => ?_) (fun K hK => ?_); rotate_left; (focus ((try have e1 := hS.1.cell); (try have e2 := hS.2.1.cell); (try have e3 := hS.2.2.1.cell); (try have e4 := hS.2.2.2.1.cell); (try have f1 := hS.1); (try have f2 := hS.2.1); (try have f3 := hS.2.2.1); (try have f4 := hS.2.2.2.1); (try have f5 := hS.2.2.2.2.1); clear hS; go_simp; (try with_reducible rfl))); (go_simp; refine hK _ ?_; clear hK K)))
              refine wpSched_loud rfl (fun K hK => ?_)
              have cT := k14.cell
              have fT := k14.frozen
              have lT := k14.lt
              go_wp2
              have kA5 := (((kA4.other (p := ⟨w.heap.size, 0, none⟩) hneA (.int .u8 118)).other (p := ⟨w.heap.size, 1, none⟩) hneA (.int .i64 n)).other (p := ⟨w.heap.size, 2, none⟩) hneA (.int .u64 m)).other (p := ⟨w.heap.size, 3, none⟩) hneA (.string (bs v))
              refine hK.out _ _ (fun _ => ⟨kA5.drew, trivial⟩) ?_
              clear hK K
              (repeat (refine wpSched_quiet (v := ?_) rfl rfl (fun w' hS => ?_) (fun K hK => ?_); rotate_left; (focus ((try have e1 := hS.1.cell); (try have e2 := hS.2.1.cell); (try have e3 := hS.2.2.1.cell); (try have e4 := hS.2.2.2.1.cell); (try have f1 := hS.1); (try have f2 := hS.2.1); (try have f3 := hS.2.2.1); (try have f4 := hS.2.2.2.1); (try have f5 := hS.2.2.2.2.1); clear hS; go_simp; (try with_reducible rfl))); (go_simp; refine hK _ ?_; clear hK K)))
              refine wpSched_nil ?_
              have rr := ((((k14.set (o := 0) (.int .u8 118)).set (o := 1) (.int .i64 n)).set (o := 2) (.int .u64 m)).set (o := 3) (.string (bs v))).cell
              have hbz := pb_drew (pb_set (pb_set (pb_set (pb_set hb4 (p := ⟨w.heap.size, 0, none⟩) (by simp) (.int .u8 118)) (p := ⟨w.heap.size, 1, none⟩) (by simp) (.int .i64 n)) (p := ⟨w.heap.size, 2, none⟩) (by simp) (.int .u64 m)) (p := ⟨w.heap.size, 3, none⟩) (by simp) (.string (bs v)))
              go_wp2
              exact bodyPost_ret (v := .tuple #[.agg #[.int .u8 118, .int .i64 n, .int .u64 m, .string (bs v)], .bool (decide<|v.length≤4000)]) (by simp [results, Tryz.results121, go_sem, rr]) rfl ⟨118, n, m, bs v, by rw [hso.out]; rfl, hfld.out, hbz⟩
        · rw [if_neg (by simp [hx2, hx3])] at hf0
          rw [hf0]
          have t3 : ((x.toNat : Int) == 112) = false := by
            simp only [beq_eq_false_iff_ne, ne_eq]
            intro hc
            exact hx2 (UInt8.toNat_inj.1 (by simpa using (by omega : x.toNat = 112)))
          have t4 : ((x.toNat : Int) == 118) = false := by
            simp only [beq_eq_false_iff_ne, ne_eq]
            intro hc
            exact hx3 (UInt8.toNat_inj.1 (by simpa using (by omega : x.toNat = 118)))
          replace hsz : Hid (_ = _) := hsz
          replace hf0 : Hid (_ = _) := hf0
          replace hx1 : Hid (_ → _) := hx1
          replace hx2 : Hid (_ → _) := hx2
          replace hx3 : Hid (_ → _) := hx3
          clear c5
          go_enter Tryz.func121, Tryz.ntmps121
          go_wp2_with fail
          refine (hget.out _).mono ?_
          rintro e w1 ⟨rfl, hb1⟩
          have k1 : Blk w1 w.heap.size #[.int .u8 0, .int .i64 0, .int .u64 0, .string ⟨#[]⟩] 201 := Blk.call (by (repeat (first | with_reducible assumption | (refine Blk.new ?_; simp; done) | refine Blk.alloc ?_ _ | refine Blk.drew ?_ | refine Blk.drewN ?_ _ | refine Blk.call ?_ (by with_reducible assumption)))) hb1
          have c1 := k1.cell
          have f1 := k1.frozen
          have l1 := k1.lt
          have hbw : Below w.heap.size w w1 := by (repeat (first | exact Below.refl _ _ | with_reducible assumption | refine pb_alloc ?_ _ | refine pb_drew ?_ | refine pb_drewN ?_ _ | refine pb_set ?_ (by simp; try omega) _ | refine pb_trans ?_ (by with_reducible assumption)))
          go_wp2_with fail
          refine (hin.out _).mono ?_
          rintro e w2 ⟨rfl, hw2⟩
          obtain rfl := hw2.symm
          have rr := (((((k1.set (o := 0) (.int .u8 0)).set (o := 1) (.int .i64 0)).set (o := 2) (.int .u64 0)).set (o := 3) (.string ⟨#[]⟩)).alloc (.cells #[.int .u8 x.toNat, .int .i64 n, .int .u64 0, .string ⟨#[]⟩] 201)).cell
          go_wp2
          exact bodyPost_ret (v := .tuple #[.agg #[.int .u8 0, .int .i64 0, .int .u64 0, .string ⟨#[]⟩], .bool false]) (by simp [results, Tryz.results121, go_sem, rr]) rfl ⟨0, 0, 0, ⟨#[]⟩, rfl, by simp, pb_alloc (pb_set (pb_set (pb_set (pb_set hbw (by simp) _) (by simp) _) (by simp) _) (by simp) _) _⟩
end Go.Proofs.YtaopeioebpfdeaaGreatDoor
