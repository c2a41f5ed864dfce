/- WALK: a statement of the registry as a Go function (how full a state may be): it returns true, whatever the input, where the registry's error variable holds its error. -/
import Derived.Test.YtpiccdmaakipaaaDoorRegPlain
import Derived.Test.YtpiccdmaakipaaaDoorLib2
namespace Go.Proofs.YtpiccdmaakipaaaDoor
open Go Go.RowKit Go.Shelf Go.Extern.Stop Go.Stop Go.Extern
attribute [local go_sem] Oper.semAt_some wide_fn wide_depth

theorem info_byte : (Tryd.prog.info? 5).map (fun i => (i.zero, i.size, i.bytes)) = some (some (.int .u8 0), 1, 1) := by kernel_rfl
theorem strOfNums_zeros (n : Nat) : strOfNums (List.replicate n (0 : Int)) = bs (List.replicate n 0) := by
  unfold strOfNums bs
  simp [List.map_replicate]

/-- What comes of a data of n zero bytes. -/
theorem full_eq (n : Nat) (to : Int) (h2 : 2 ≤ to) (h3 : to ≤ 3) :
    ∃ v' c' d' e', migrateP 1 0 (List.replicate n 0) to = ((v', c', d'), e') ∧ (e' = 0 ∨ e' = 132) ∧ (e' = 0 ↔ (n : Int) + (if to = 3 then 5 else 1) ≤ 1000) := by
  have hck : checkE 1 to = 0 := by
    obtain rfl | rfl : to = 2 ∨ to = 3 := by omega
    · decide
    · decide
  have hmig : mig to 0 1 (List.replicate n 0) = if (n : Int) + (if to = 3 then 5 else 1) ≤ 1000 then some ((98 :: List.replicate n 0) ++ (if to = 3 then le4 0 else [])) else none := by
    rw [mig_step to 1 0 _ (by omega)]
    have hn : nextV 1 to = 2 := by unfold nextV; split <;> omega
    rw [hn]
    have ht : turnD 1 2 0 (List.replicate n 0) = fit ([98] ++ List.replicate n 0) := by simp [turnD]
    rw [ht]
    by_cases h : to = 2
    · subst h
      unfold fit
      by_cases hf : ([98] ++ List.replicate n (0 : UInt8)).length ≤ 1000
      · rw [if_pos hf, if_pos (by simp at hf ⊢; omega), Option.bind_some, mig_done]
        simp
      · rw [if_neg hf, if_neg (by simp at hf ⊢; omega)]
        rfl
    · obtain rfl : to = 3 := by omega
      unfold fit
      by_cases hf : ([98] ++ List.replicate n (0 : UInt8)).length ≤ 1000
      · rw [if_pos hf, Option.bind_some, mig_step 3 2 0 _ (by decide)]
        have hn3 : nextV 2 3 = 3 := by decide
        rw [hn3]
        have ht2 : turnD 2 3 0 ([98] ++ List.replicate n 0) = fit (([98] ++ List.replicate n 0) ++ le4 0) := by simp [turnD]
        rw [ht2]
        unfold fit
        by_cases hf2 : (([98] ++ List.replicate n (0 : UInt8)) ++ le4 0).length ≤ 1000
        · rw [if_pos hf2, if_pos (by simp [le4_length] at hf2 ⊢; omega), Option.bind_some, mig_done]
          simp
        · rw [if_neg hf2, if_neg (by simp [le4_length] at hf2 ⊢; omega)]
          rfl
      · rw [if_neg hf, if_neg (by simp at hf ⊢; omega)]
        rfl
  unfold migrateP
  rw [if_neg (by simp [hck])]
  by_cases hl : (List.replicate n (0 : UInt8)).length ≤ 1000
  · rw [if_neg (by rw [right_of hck hl]; decide), hmig]
    by_cases hf : (n : Int) + (if to = 3 then 5 else 1) ≤ 1000
    · rw [if_pos hf]; exact ⟨_, _, _, _, rfl, .inl rfl, by simp [hf]⟩
    · rw [if_neg hf]; exact ⟨_, _, _, _, rfl, .inr rfl, by simp [hf]⟩
  · have hr : rightB 1 (List.replicate n (0 : UInt8)).length = false := by simp [rightB] at hl ⊢; omega
    rw [if_pos hr]
    exact ⟨_, _, _, _, rfl, .inr rfl, by simp at hl; split <;> simp <;> omega⟩

set_option maxRecDepth 8000 in
set_option maxHeartbeats 4000000 in
theorem full_true (a : Addr) (n to : Int) (w : World) (he : ErrAt w a) :
    Calls Tryd.prog 6 #[.int .i64 n, .int .i64 to] w fun e w' => e = .returned (.bool true) ∧ Below w.heap.size w w' := by
  have hE : ∀ W, Below w.heap.size w W → ErrAt W a := fun W hW => he.below hW he.lt
  clear he
  by_cases hin : 990 ≤ n ∧ n ≤ 1010 ∧ 2 ≤ to ∧ to ≤ 3
  · obtain ⟨h1, h2, h3, h4⟩ := hin
    obtain ⟨N, hnN⟩ : ∃ N : Nat, n = N := ⟨n.toNat, by omega⟩
    have t1 : decide (n < 990) = false := by simp; omega
    have t2 : decide (1010 < n) = false := by simp; omega
    have t3 : decide (to < 2) = false := by simp; omega
    have t4 : decide ((3 : Int) < to) = false := by simp; omega
    obtain ⟨v', c', d', e', hm, he', hiff⟩ := full_eq N to h3 h4
    rw [← hnN] at hiff
    obtain ⟨i0, hi, hz0, hz1, hz2⟩ := info_parts info_byte
    by_cases hto : to = 3
    · rw [if_pos hto] at hiff
      have hto' : (to == 3) = true := by simp [hto]
      have hres1 : ((e' == 0) == decide (n + 5 ≤ 1000)) = true := by
        rcases he' with rfl | rfl
        · simp at hiff ⊢; omega
        · simp at hiff ⊢; omega
      have hres2 : (e' == 0) = false → (e' == 132) = true := by
        rcases he' with rfl | rfl <;> simp
      have hN : Hid (N ≤ 1010) := by unfold Hid; omega
      replace hm : Hid (migrateP 1 0 (List.replicate N 0) to = ((v', c', d'), e')) := hm
      replace hi : Hid (_ = _) := hi
      replace hnN : Hid (_ = _) := hnN
      have hnw : IntKind.i64.wrap (n + 5) = n + 5 := by rw [IntKind.wrap_i64]; omega
      clear he' hiff h1 h2 h3 h4 hto
      go_enter Tryd.func6, Tryd.ntmps6
      go_wp2_with (first
        | (at_make
           refine wpList_make_full _ rfl _ _ 32 rfl 0 5 i0 (.int .u8 0) 1 Tryd.underlying32 hi.out hz0 hz1 .i64 .i64 _ _ N rfl rfl hnN.out hnN.out (by rw [hz2]; have := hN.out; omega) (by unfold maxLen; have := hN.out; omega) (Nat.zero_le _) ?_
           intro wm hown hgrow
           have hk := run_convert_bytes_arg (P := Tryd.prog) wm 32 5 Tryd.underlying32 Tryd.underlying5 w1.heap.size 0 N N (List.replicate N 0) (by simp) (fun i hi => by
             have hc := hown.cellAt i (by omega)
             rw [show (Value.int .u8 0).cells = #[.int .u8 0] from rfl, toList_madeCells_one] at hc
             rw [Nat.zero_add, hc]
             simp [hi, List.getD]) 9 Tryd.underlying9
           rw [strOfNums_zeros] at hk
           have hBm : Below w.heap.size w wm := hb1.grown hgrow hb1.size (by simp)
           clear hown)
        | (go_at_call 10; refine (shown_any a _ (hE _ (by (repeat (first | exact Below.refl _ _ | assumption | refine pb_alloc ?_ _ | refine pb_drew ?_ | refine pb_drewN ?_ _ | refine pb_set ?_ (by simp; try omega) _ | refine pb_trans ?_ (by assumption)))))).mono ?_; rintro e w1 ⟨rfl, hb1⟩)
        | (go_at_call 12; refine (migrate_eq hm.out _ (hE _ (by (repeat (first | exact Below.refl _ _ | assumption | refine pb_alloc ?_ _ | refine pb_drew ?_ | refine pb_drewN ?_ _ | refine pb_set ?_ (by simp; try omega) _ | refine pb_trans ?_ (by assumption)))))).mono ?_; rintro e w3 ⟨rfl, hb3⟩; have hl3 := Nat.lt_of_lt_of_le (Nat.zero_lt_one) (Nat.le_refl 1)))
      all_goals first
        | (go_ret; exact ⟨by simp_all, by (repeat (first | exact Below.refl _ _ | assumption | refine pb_alloc ?_ _ | refine pb_drew ?_ | refine pb_drewN ?_ _ | refine pb_set ?_ (by simp; try omega) _ | refine pb_trans ?_ (by assumption)))⟩)
        | trace_state
    · rw [if_neg hto] at hiff
      have hto' : (to == 3) = false := by simp [hto]
      have hres1 : ((e' == 0) == decide (n + 1 ≤ 1000)) = true := by
        rcases he' with rfl | rfl
        · simp at hiff ⊢; omega
        · simp at hiff ⊢; omega
      have hres2 : (e' == 0) = false → (e' == 132) = true := by
        rcases he' with rfl | rfl <;> simp
      have hN : Hid (N ≤ 1010) := by unfold Hid; omega
      replace hm : Hid (migrateP 1 0 (List.replicate N 0) to = ((v', c', d'), e')) := hm
      replace hi : Hid (_ = _) := hi
      replace hnN : Hid (_ = _) := hnN
      have hnw : IntKind.i64.wrap (n + 1) = n + 1 := by rw [IntKind.wrap_i64]; omega
      clear he' hiff h1 h2 h3 h4 hto
      go_enter Tryd.func6, Tryd.ntmps6
      go_wp2_with (first
        | (at_make
           refine wpList_make_full _ rfl _ _ 32 rfl 0 5 i0 (.int .u8 0) 1 Tryd.underlying32 hi.out hz0 hz1 .i64 .i64 _ _ N rfl rfl hnN.out hnN.out (by rw [hz2]; have := hN.out; omega) (by unfold maxLen; have := hN.out; omega) (Nat.zero_le _) ?_
           intro wm hown hgrow
           have hk := run_convert_bytes_arg (P := Tryd.prog) wm 32 5 Tryd.underlying32 Tryd.underlying5 w1.heap.size 0 N N (List.replicate N 0) (by simp) (fun i hi => by
             have hc := hown.cellAt i (by omega)
             rw [show (Value.int .u8 0).cells = #[.int .u8 0] from rfl, toList_madeCells_one] at hc
             rw [Nat.zero_add, hc]
             simp [hi, List.getD]) 9 Tryd.underlying9
           rw [strOfNums_zeros] at hk
           have hBm : Below w.heap.size w wm := hb1.grown hgrow hb1.size (by simp)
           clear hown)
        | (go_at_call 10; refine (shown_any a _ (hE _ (by (repeat (first | exact Below.refl _ _ | assumption | refine pb_alloc ?_ _ | refine pb_drew ?_ | refine pb_drewN ?_ _ | refine pb_set ?_ (by simp; try omega) _ | refine pb_trans ?_ (by assumption)))))).mono ?_; rintro e w1 ⟨rfl, hb1⟩)
        | (go_at_call 12; refine (migrate_eq hm.out _ (hE _ (by (repeat (first | exact Below.refl _ _ | assumption | refine pb_alloc ?_ _ | refine pb_drew ?_ | refine pb_drewN ?_ _ | refine pb_set ?_ (by simp; try omega) _ | refine pb_trans ?_ (by assumption)))))).mono ?_; rintro e w3 ⟨rfl, hb3⟩; have hl3 := Nat.lt_of_lt_of_le (Nat.zero_lt_one) (Nat.le_refl 1)))
      all_goals first
        | (go_ret; exact ⟨by simp_all, by (repeat (first | exact Below.refl _ _ | assumption | refine pb_alloc ?_ _ | refine pb_drew ?_ | refine pb_drewN ?_ _ | refine pb_set ?_ (by simp; try omega) _ | refine pb_trans ?_ (by assumption)))⟩)
        | trace_state
  · have hout : (decide (n < 990) || decide (1010 < n) || decide (to < 2) || decide (3 < to)) = true := by
      simp; omega
    clear hin
    by_cases q1 : n < 990
    · have q1' : decide (n < 990) = true := by simp [q1]
      clear hout
      go_enter Tryd.func6, Tryd.ntmps6
      go_wp2_with (go_at_call 10; refine (shown_any a _ (hE _ (by (repeat (first | exact Below.refl _ _ | assumption | refine pb_alloc ?_ _ | refine pb_drew ?_ | refine pb_drewN ?_ _ | refine pb_set ?_ (by simp; try omega) _ | refine pb_trans ?_ (by assumption)))))).mono ?_; rintro e w1 ⟨rfl, hb1⟩)
      go_ret
      exact ⟨rfl, by (repeat (first | exact Below.refl _ _ | assumption | refine pb_alloc ?_ _ | refine pb_drew ?_ | refine pb_drewN ?_ _ | refine pb_set ?_ (by simp; try omega) _ | refine pb_trans ?_ (by assumption)))⟩
    by_cases q2 : 1010 < n
    · have q1' : decide (n < 990) = false := by simp; omega
      have q2' : decide (1010 < n) = true := by simp [q2]
      clear hout q1 q2
      go_enter Tryd.func6, Tryd.ntmps6
      go_wp2_with (go_at_call 10; refine (shown_any a _ (hE _ (by (repeat (first | exact Below.refl _ _ | assumption | refine pb_alloc ?_ _ | refine pb_drew ?_ | refine pb_drewN ?_ _ | refine pb_set ?_ (by simp; try omega) _ | refine pb_trans ?_ (by assumption)))))).mono ?_; rintro e w1 ⟨rfl, hb1⟩)
      go_ret
      exact ⟨rfl, by (repeat (first | exact Below.refl _ _ | assumption | refine pb_alloc ?_ _ | refine pb_drew ?_ | refine pb_drewN ?_ _ | refine pb_set ?_ (by simp; try omega) _ | refine pb_trans ?_ (by assumption)))⟩
    have q1' : decide (n < 990) = false := by simp; omega
    have q2' : decide (1010 < n) = false := by simp; omega
    by_cases q3 : to < 2
    · have q3' : decide (to < 2) = true := by simp [q3]
      clear hout q1 q2 q3
      go_enter Tryd.func6, Tryd.ntmps6
      go_wp2_with (go_at_call 10; refine (shown_any a _ (hE _ (by (repeat (first | exact Below.refl _ _ | assumption | refine pb_alloc ?_ _ | refine pb_drew ?_ | refine pb_drewN ?_ _ | refine pb_set ?_ (by simp; try omega) _ | refine pb_trans ?_ (by assumption)))))).mono ?_; rintro e w1 ⟨rfl, hb1⟩)
      go_ret
      exact ⟨rfl, by (repeat (first | exact Below.refl _ _ | assumption | refine pb_alloc ?_ _ | refine pb_drew ?_ | refine pb_drewN ?_ _ | refine pb_set ?_ (by simp; try omega) _ | refine pb_trans ?_ (by assumption)))⟩
    have q3' : decide (to < 2) = false := by simp; omega
    have q4' : decide (3 < to) = true := by simp at hout ⊢; omega
    clear hout q1 q2 q3
    go_enter Tryd.func6, Tryd.ntmps6
    go_wp2_with (go_at_call 10; refine (shown_any a _ (hE _ (by (repeat (first | exact Below.refl _ _ | assumption | refine pb_alloc ?_ _ | refine pb_drew ?_ | refine pb_drewN ?_ _ | refine pb_set ?_ (by simp; try omega) _ | refine pb_trans ?_ (by assumption)))))).mono ?_; rintro e w1 ⟨rfl, hb1⟩)
    go_ret
    exact ⟨rfl, by (repeat (first | exact Below.refl _ _ | assumption | refine pb_alloc ?_ _ | refine pb_drew ?_ | refine pb_drewN ?_ _ | refine pb_set ?_ (by simp; try omega) _ | refine pb_trans ?_ (by assumption)))⟩
end Go.Proofs.YtpiccdmaakipaaaDoor
