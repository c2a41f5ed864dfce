/- WALKS: the registry's four turns, each by what it gives. No condition beyond what each says. -/
import Derived.Test.YtpiccdmaakipaaaDoorReg2
import Derived.Deep.RegionWith
namespace Go.Proofs.YtpiccdmaakipaaaDoor
open Go Go.RowKit Go.Shelf Go.Extern.Stop Go.Stop Go.Extern
attribute [local go_sem] Oper.semAt_some

theorem cutPrefix_any (l p : List UInt8) (w : World) : Calls Tryd.prog 37 #[.string (bs l), .string (bs p)] w fun e w' =>
    e = .returned (.tuple #[.string (bs (Lib.trimPrefix l p)), .bool (Lib.hasPrefix l p)]) ∧ w' = w := by
  have h := Tryd.strings_CutPrefix (bs l) (bs p) w
  rw [bs_data, bs_data] at h
  exact h
theorem cutSuffix_any (l p : List UInt8) (w : World) (hl : l.length ≤ 9223372036854775807) : Calls Tryd.prog 34 #[.string (bs l), .string (bs p)] w fun e w' =>
    e = .returned (.tuple #[.string (bs (Lib.trimSuffix l p)), .bool (Lib.hasSuffix l p)]) ∧ w' = w := by
  have h := Tryd.strings_CutSuffix (bs l) (bs p) w (by rw [bs_size]; exact hl)
  rw [bs_data, bs_data] at h
  exact h
theorem join2 (a b : List UInt8) : Lib.join [a, b] [] = a ++ b := by simp [Lib.join, List.intercalate]

/-- strings.Join over two texts that lie in one block. -/
theorem join_two (bk c : Nat) (x y : List UInt8) (w : World) (hx : w.cell? ⟨bk, 0, none⟩ = some (.string (bs x))) (hy : w.cell? ⟨bk, 1, none⟩ = some (.string (bs y))) (hbk : bk < w.heap.size) (hc : 2 ≤ c)
    (hl : (x ++ y).length ≤ 140737488355328) : Calls Tryd.prog 43 #[.slice (some ⟨bk, 0, none⟩) 2 c, .string ⟨#[]⟩] w fun e w' => e = .returned (.string (bs (x ++ y))) ∧ Below w.heap.size w w' := by
  have hj := Tryd.strings_Join bk 0 c [bs x, bs y] ⟨#[]⟩ w (fun j z hz => by
    obtain rfl | rfl | h : j = 0 ∨ j = 1 ∨ 2 ≤ j := by omega
    · simp at hz; subst hz; exact hx
    · simp at hz; subst hz; exact hy
    · rw [List.getElem?_eq_none (by simpa using h)] at hz; cases hz) hbk (by simp) (by simpa using hc) (by
      simp only [List.map_cons, List.map_nil, bs_data]
      rw [join2]; omega)
  simp only [List.map_cons, List.map_nil, bs_data] at hj
  rw [join2] at hj
  exact hj

/-- registry.laid over two texts that lie in one block. -/
theorem laid_fits (bk c : Nat) (x y : List UInt8) (w : World) (hx : w.cell? ⟨bk, 0, none⟩ = some (.string (bs x))) (hy : w.cell? ⟨bk, 1, none⟩ = some (.string (bs y))) (hbk : bk < w.heap.size) (hc : 2 ≤ c)
    (hl : (x ++ y).length ≤ 1000) : Calls Tryd.prog 30 #[.slice (some ⟨bk, 0, none⟩) 2 c] w fun e w' => e = .returned (.tuple #[.string (bs (x ++ y)), .nilIface]) ∧ Below w.heap.size w w' := by
  have hj := join_two bk c x y w hx hy hbk hc (by omega)
  have hle : decide (((bs (x ++ y)).size : Int) ≤ 1000) = true := by rw [bs_size]; simp only [decide_eq_true_eq]; omega
  clear hx hy hl
  go_enter Tryd.func30, Tryd.ntmps30
  go_wp2_with (first | (go_at_call 43; refine hj.mono ?_; rintro e w' ⟨rfl, hb⟩) | (go_at_call 35; refine (cut_yes _ _).mono ?_; rintro e w' ⟨rfl, rfl⟩))
  go_ret2
  exact ⟨rfl, by assumption⟩
theorem laid_full (a : Addr) (bk c : Nat) (x y : List UInt8) (w : World) (he : ErrAt w a) (hx : w.cell? ⟨bk, 0, none⟩ = some (.string (bs x))) (hy : w.cell? ⟨bk, 1, none⟩ = some (.string (bs y))) (hbk : bk < w.heap.size) (hc : 2 ≤ c)
    (hl : 1000 < (x ++ y).length) (hl2 : (x ++ y).length ≤ 140737488355328) : Calls Tryd.prog 30 #[.slice (some ⟨bk, 0, none⟩) 2 c] w fun e w' => e = .returned (.tuple #[.string ByteArray.empty, .iface 93 (.pointer (some a))]) ∧ Below w.heap.size w w' := by
  have hj := join_two bk c x y w hx hy hbk hc hl2
  have hle : decide (((bs (x ++ y)).size : Int) ≤ 1000) = false := by rw [bs_size]; simp only [decide_eq_false_iff_not]; omega
  have hlt := he.lt
  clear hx hy hl hl2
  go_enter Tryd.func30, Tryd.ntmps30
  go_wp2_with (first | (go_at_call 43; refine hj.mono ?_; rintro e w' ⟨rfl, hb⟩; have hE := he.below hb hlt; have hs := hb.size) | (go_at_call 35; refine (cut_no _ a _ hE).mono ?_; rintro e w' ⟨rfl, hb2⟩))
  go_ret2
  exact ⟨rfl, Below.trans (by assumption) (Below.mono (by assumption) (by assumption))⟩

/-- From 1 to 2: a 'b' ahead. -/
theorem turn12_fits (v : Int) (c : Nat) (d : List UInt8) (w : World) (hl : ([98] ++ d).length ≤ 1000) :
    Calls Tryd.prog 29 #[.agg #[.int .i64 v, .int .u32 c, .string (bs d)]] w fun e w' => e = .returned (.tuple #[.string (bs ([98] ++ d)), .nilIface]) ∧ Below w.heap.size w w' := by
  have hc0 : ((w.alloc (.cells #[.int .i64 v, .int .u32 ↑c, .string (bs d)] 24)).alloc (.cells #[.string ⟨#[98]⟩, .string (bs d)] 9)).cell? ⟨w.heap.size + 1, 0, none⟩ = some (.string (bs [98])) := by simp; rfl
  have hc1 : ((w.alloc (.cells #[.int .i64 v, .int .u32 ↑c, .string (bs d)] 24)).alloc (.cells #[.string ⟨#[98]⟩, .string (bs d)] 9)).cell? ⟨w.heap.size + 1, 1, none⟩ = some (.string (bs d)) := by simp
  go_enter Tryd.func29, Tryd.ntmps29
  go_wp2_with (go_at_call 30; (with_reducible refine (laid_fits (w.heap.size + 1) _ [98] d _ hc0 hc1 (by simp) (by omega) hl).mono ?_); rintro e w' ⟨rfl, hb⟩)
  go_ret2
  exact ⟨rfl, (((Below.refl _ _).alloc (Nat.le_refl _) _).alloc (by simp) _).trans (Below.mono (by assumption) (by simp; omega))⟩
theorem turn12_full (a : Addr) (v : Int) (c : Nat) (d : List UInt8) (w : World) (he : ErrAt w a) (hl : 1000 < ([98] ++ d).length) (hl2 : d.length ≤ 1000) :
    Calls Tryd.prog 29 #[.agg #[.int .i64 v, .int .u32 c, .string (bs d)]] w fun e w' => e = .returned (.tuple #[.string ByteArray.empty, .iface 93 (.pointer (some a))]) ∧ Below w.heap.size w w' := by
  have hc0 : ((w.alloc (.cells #[.int .i64 v, .int .u32 ↑c, .string (bs d)] 24)).alloc (.cells #[.string ⟨#[98]⟩, .string (bs d)] 9)).cell? ⟨w.heap.size + 1, 0, none⟩ = some (.string (bs [98])) := by simp; rfl
  have hc1 : ((w.alloc (.cells #[.int .i64 v, .int .u32 ↑c, .string (bs d)] 24)).alloc (.cells #[.string ⟨#[98]⟩, .string (bs d)] 9)).cell? ⟨w.heap.size + 1, 1, none⟩ = some (.string (bs d)) := by simp
  have hb0 : Below w.heap.size w ((w.alloc (.cells #[.int .i64 v, .int .u32 ↑c, .string (bs d)] 24)).alloc (.cells #[.string ⟨#[98]⟩, .string (bs d)] 9)) := ((Below.refl _ _).alloc (Nat.le_refl _) _).alloc (by simp) _
  have hE := he.below hb0 he.lt
  clear he
  go_enter Tryd.func29, Tryd.ntmps29
  go_wp2_with (go_at_call 30; (with_reducible refine (laid_full a (w.heap.size + 1) _ [98] d _ hE hc0 hc1 (by simp) (by omega) hl (by simp; omega)).mono ?_); rintro e w' ⟨rfl, hb⟩)
  go_ret2
  exact ⟨rfl, hb0.trans (Below.mono (by assumption) (by simp; omega))⟩

set_option maxHeartbeats 1000000 in
/-- From 2 to 3: the count behind. -/
theorem turn23_fits (v : Int) (c : Nat) (d : List UInt8) (w : World) (hl : (d ++ le4 c).length ≤ 1000) :
    Calls Tryd.prog 31 #[.agg #[.int .i64 v, .int .u32 c, .string (bs d)]] w fun e w' => e = .returned (.tuple #[.string (bs (d ++ le4 c)), .nilIface]) ∧ Below w.heap.size w w' := by
  go_enter Tryd.func31, Tryd.ntmps31
  go_wp2
  go_region_with (first
    | (go_at_call 32; (with_reducible refine (put_any _ _).mono ?_); rintro e w1 ⟨rfl, hb⟩; have hz := hb.size; obtain ⟨hcA, hfA⟩ := bcell hb)
    | (go_at_call 30; (with_reducible refine (laid_fits _ _ d (le4 c) _ (by simp) (by simp) (by simp) (by omega) hl).mono ?_); rintro e w2 ⟨rfl, hb2⟩))
  all_goals go_wp2
  all_goals go_ret2
  all_goals exact ⟨rfl, by (repeat (first | exact Below.refl _ _ | assumption | refine pb_alloc ?_ _ | refine pb_drew ?_ | refine pb_drewN ?_ _ | refine pb_set ?_ (by simp; try omega) _ | refine pb_trans ?_ (by assumption)))⟩
set_option maxHeartbeats 1000000 in
theorem turn23_full (a : Addr) (v : Int) (c : Nat) (d : List UInt8) (w : World) (he : ErrAt w a) (hl : 1000 < (d ++ le4 c).length) (hl2 : d.length ≤ 1000) :
    Calls Tryd.prog 31 #[.agg #[.int .i64 v, .int .u32 c, .string (bs d)]] w fun e w' => e = .returned (.tuple #[.string ByteArray.empty, .iface 93 (.pointer (some a))]) ∧ Below w.heap.size w w' := by
  have hl3 : (d ++ le4 c).length ≤ 140737488355328 := by simp [le4_length]; omega
  have hE : ∀ W, Below w.heap.size w W → ErrAt W a := fun W hW => he.below hW he.lt
  clear he
  go_enter Tryd.func31, Tryd.ntmps31
  go_wp2
  go_region_with (first
    | (go_at_call 32; (with_reducible refine (put_any _ _).mono ?_); rintro e w1 ⟨rfl, hb⟩; have hz := hb.size; obtain ⟨hcA, hfA⟩ := bcell hb)
    | (go_at_call 30; (with_reducible refine (laid_full a _ _ d (le4 c) _ (hE _ (by (repeat (first | exact Below.refl _ _ | assumption | refine pb_alloc ?_ _ | refine pb_drew ?_ | refine pb_drewN ?_ _ | refine pb_set ?_ (by simp; try omega) _ | refine pb_trans ?_ (by assumption))))) (by simp) (by simp) (by simp) (by omega) hl hl3).mono ?_); rintro e w2 ⟨rfl, hb2⟩))
  all_goals go_wp2
  all_goals go_ret2
  all_goals exact ⟨rfl, by (repeat (first | exact Below.refl _ _ | assumption | refine pb_alloc ?_ _ | refine pb_drew ?_ | refine pb_drewN ?_ _ | refine pb_set ?_ (by simp; try omega) _ | refine pb_trans ?_ (by assumption)))⟩

/-- From 3 to 2: the count is cut off behind. -/
theorem turn32_any (v : Int) (c : Nat) (d : List UInt8) (w : World) (hd : d.length ≤ 1000) (hs : Lib.hasSuffix d (le4 c) = true) :
    Calls Tryd.prog 33 #[.agg #[.int .i64 v, .int .u32 c, .string (bs d)]] w fun e w' => e = .returned (.tuple #[.string (bs (Lib.trimSuffix d (le4 c))), .nilIface]) ∧ Below w.heap.size w w' := by
  go_enter Tryd.func33, Tryd.ntmps33
  go_wp2
  go_region_with (first
    | (go_at_call 32; (with_reducible refine (put_any _ _).mono ?_); rintro e w1 ⟨rfl, hb⟩; have hz := hb.size; obtain ⟨hcA, hfA⟩ := bcell hb)
    | (go_at_call 34; (with_reducible refine (cutSuffix_any _ _ _ (by omega)).mono ?_); rintro e w2 ⟨rfl, rfl⟩))
  all_goals go_wp2_with (go_at_call 35; (with_reducible refine (cut_yes _ _).mono ?_); rintro e w2 ⟨rfl, rfl⟩)
  all_goals go_ret2
  all_goals exact ⟨rfl, by (repeat (first | exact Below.refl _ _ | assumption | refine pb_alloc ?_ _ | refine pb_drew ?_ | refine pb_drewN ?_ _ | refine pb_set ?_ (by simp; try omega) _ | refine pb_trans ?_ (by assumption)))⟩
theorem turn32_no (a : Addr) (v : Int) (c : Nat) (d : List UInt8) (w : World) (he : ErrAt w a) (hd : d.length ≤ 1000) (hs : Lib.hasSuffix d (le4 c) = false) :
    Calls Tryd.prog 33 #[.agg #[.int .i64 v, .int .u32 c, .string (bs d)]] w fun e w' => e = .returned (.tuple #[.string ByteArray.empty, .iface 93 (.pointer (some a))]) ∧ Below w.heap.size w w' := by
  have hE : ∀ W, Below w.heap.size w W → ErrAt W a := fun W hW => he.below hW he.lt
  clear he
  go_enter Tryd.func33, Tryd.ntmps33
  go_wp2
  go_region_with (first
    | (go_at_call 32; (with_reducible refine (put_any _ _).mono ?_); rintro e w1 ⟨rfl, hb⟩; have hz := hb.size; obtain ⟨hcA, hfA⟩ := bcell hb)
    | (go_at_call 34; (with_reducible refine (cutSuffix_any _ _ _ (by omega)).mono ?_); rintro e w2 ⟨rfl, rfl⟩))
  all_goals go_wp2_with (go_at_call 35; (with_reducible refine (cut_no _ a _ (hE _ (by (repeat (first | exact Below.refl _ _ | assumption | refine pb_alloc ?_ _ | refine pb_drew ?_ | refine pb_drewN ?_ _ | refine pb_set ?_ (by simp; try omega) _ | refine pb_trans ?_ (by assumption)))))).mono ?_); rintro e w2 ⟨rfl, hb2⟩)
  all_goals go_ret2
  all_goals exact ⟨rfl, by (repeat (first | exact Below.refl _ _ | assumption | refine pb_alloc ?_ _ | refine pb_drew ?_ | refine pb_drewN ?_ _ | refine pb_set ?_ (by simp; try omega) _ | refine pb_trans ?_ (by assumption)))⟩

/-- From 2 to 1: the 'b' is cut off ahead. -/
theorem turn21_any (v : Int) (c : Nat) (d : List UInt8) (w : World) (hs : Lib.hasPrefix d [98] = true) :
    Calls Tryd.prog 36 #[.agg #[.int .i64 v, .int .u32 c, .string (bs d)]] w fun e w' => e = .returned (.tuple #[.string (bs (Lib.trimPrefix d [98])), .nilIface]) ∧ Below w.heap.size w w' := by
  have hp := fun W => cutPrefix_any d [98] W
  rw [hs] at hp
  clear hs
  go_enter Tryd.func36, Tryd.ntmps36
  go_wp2_with (first
    | (go_at_call 37; refine (hp _).mono ?_; rintro e w2 ⟨rfl, rfl⟩)
    | (go_at_call 35; (with_reducible refine (cut_yes _ _).mono ?_); rintro e w2 ⟨rfl, rfl⟩))
  go_ret2
  exact ⟨rfl, by (repeat (first | exact Below.refl _ _ | assumption | refine pb_alloc ?_ _ | refine pb_drew ?_ | refine pb_drewN ?_ _ | refine pb_set ?_ (by simp; try omega) _ | refine pb_trans ?_ (by assumption)))⟩
theorem turn21_no (a : Addr) (v : Int) (c : Nat) (d : List UInt8) (w : World) (he : ErrAt w a) (hs : Lib.hasPrefix d [98] = false) :
    Calls Tryd.prog 36 #[.agg #[.int .i64 v, .int .u32 c, .string (bs d)]] w fun e w' => e = .returned (.tuple #[.string ByteArray.empty, .iface 93 (.pointer (some a))]) ∧ Below w.heap.size w w' := by
  have hp := fun W => cutPrefix_any d [98] W
  rw [hs] at hp
  have hE : ∀ W, Below w.heap.size w W → ErrAt W a := fun W hW => he.below hW he.lt
  clear hs he
  go_enter Tryd.func36, Tryd.ntmps36
  go_wp2_with (first
    | (go_at_call 37; refine (hp _).mono ?_; rintro e w2 ⟨rfl, rfl⟩)
    | (go_at_call 35; (with_reducible refine (cut_no _ a _ (hE _ (by (repeat (first | exact Below.refl _ _ | assumption | refine pb_alloc ?_ _ | refine pb_drew ?_ | refine pb_drewN ?_ _ | refine pb_set ?_ (by simp; try omega) _ | refine pb_trans ?_ (by assumption)))))).mono ?_); rintro e w2 ⟨rfl, hb2⟩))
  go_ret2
  exact ⟨rfl, by (repeat (first | exact Below.refl _ _ | assumption | refine pb_alloc ?_ _ | refine pb_drew ?_ | refine pb_drewN ?_ _ | refine pb_set ?_ (by simp; try omega) _ | refine pb_trans ?_ (by assumption)))⟩
end Go.Proofs.YtpiccdmaakipaaaDoor
