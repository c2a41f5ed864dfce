/- WALKS of the registry's Right and Protocol. No condition. WALKS: registry.laid and registry.cut; errors.Is at the registry's one error. No condition beyond what each says. WALKS: the registry's four turns, each by what it gives. No condition beyond what each says. -/
import Derived.Test.YtlfledeldhhllaaGreatDoorVer
import Derived.Test.YtlfledeldhhllaaGreatDoorCrc
import Derived.Outline
import Derived.Test.YtlfledeldhhllaaGreatDoorShelf
import Derived.LaidEql
import Derived.Stop.Asserts
import Derived.RowKitTokens
import Derived.BigQuiet
import Derived.Deep.QuietTactic
import Derived.Laws.BytesArg
import Derived.WalkSmall
import Derived.Deep.RegionWith
namespace Go.Proofs.YtlfledeldhhllaaGreatDoor
open Go Go.RowKit Go.Shelf
attribute [local go_sem] Oper.semAt_some

/-- A state is right: its version is one, its data has at most 1000 bytes. -/
def rightB (v : Int) (n : Nat) : Bool := known v && decide (n ≤ 1000)
theorem rgRight_any (v : Int) (c : Int) (d : ByteArray) (w : World) : Calls Tryz.prog 42 #[.agg #[.int .i64 v, .int .u32 c, .string d]] w fun e w' => e = .returned (.bool (rightB v d.size)) ∧ Below w.heap.size w w' := by
  cases hv : known v
  · go_enter Tryz.func42, Tryz.ntmps42
    go_wp2_with (go_at_call 28; refine (known_any _ _).mono ?_; rintro e w' ⟨rfl, hb⟩; obtain ⟨hcA, hfA⟩ := bcell hb; have hz := hb.size)
    go_ret
    exact ⟨by simp [rightB, hv], ((Below.refl _ _).alloc (Nat.le_refl _) _).trans (Below.mono (by assumption) (by simp))⟩
  · go_enter Tryz.func42, Tryz.ntmps42
    go_wp2_with (go_at_call 28; refine (known_any _ _).mono ?_; rintro e w' ⟨rfl, hb⟩; obtain ⟨hcA, hfA⟩ := bcell hb; have hz := hb.size)
    go_ret
    refine ⟨?_, ((Below.refl _ _).alloc (Nat.le_refl _) _).trans (Below.mono (by assumption) (by simp))⟩
    simp [rightB, hv]
    try omega
/-- A version's protocol, and the error's number. -/
def protoP (v : Int) : Int × Int := if known v then (if v = 1 then (1, 0) else (2, 0)) else (0, 130)
end Go.Proofs.YtlfledeldhhllaaGreatDoor

namespace Go.Proofs.YtlfledeldhhllaaGreatDoor
open Go Go.RowKit Go.Shelf Go.Extern.Stop Go.Stop Go.Extern
attribute [local go_sem] Oper.semAt_some

/-- The registry's one error, held by its variable. -/
def ErrAt (w : World) (a : Addr) : Prop := w.cell? ⟨0, 0, none⟩ = some (.iface 169 (.pointer (some a)))
theorem ErrAt.below {B : Nat} {w w' : World} {a : Addr} (h : ErrAt w a) (hb : Below B w w') (hB : 0 < B) : ErrAt w' a := (hb.cell hB).trans h
theorem ErrAt.lt {w : World} {a : Addr} (h : ErrAt w a) : 0 < w.heap.size := by
  unfold ErrAt World.cell? at h
  rcases Nat.lt_or_ge 0 w.heap.size with h' | h'
  · exact h'
  · simp [Array.getElem?_eq_none h'] at h
/-- registry.cut: the data, if that is what there must be. -/
theorem cut_yes (s : ByteArray) (w : World) : Calls Tryz.prog 59 #[.string s, .bool true] w fun e w' => e = .returned (.tuple #[.string s, .nilIface]) ∧ w' = w := by
  go_enter Tryz.func59, Tryz.ntmps59
  go_wp2
  go_ret2
  exact ⟨rfl, rfl⟩
theorem cut_no (s : ByteArray) (a : Addr) (w : World) (he : ErrAt w a) : Calls Tryz.prog 59 #[.string s, .bool false] w fun e w' => e = .returned (.tuple #[.string ByteArray.empty, .iface 169 (.pointer (some a))]) ∧ Below w.heap.size w w' := by
  unfold ErrAt at he
  go_enter Tryz.func59, Tryz.ntmps59
  go_wp2
  go_quiet (fail)
  go_wp2
  go_ret2
  exact ⟨rfl, below_drewN (Below.refl _ _) _⟩
/-! errors.Is, where the target is the registry's error and the error is that one or nil. -/
theorem isTypeOf (v : Value) (w : World) : (Extern.ReflectliteType.typeOf #[.iface 169 v]).run Tryz.prog w = .ok (.iface 140 (.agg #[.pointer (some ⟨2, 169, none⟩)])) w := by kernel_rfl
theorem isComparable (w : World) : ((Extern.ReflectliteType.method fun t => do Rtype.noPackHeld "Comparable" t; (fun a => Value.bool a.comparable) <$> typeInfo t) #[.agg #[.pointer (some ⟨2, 169, none⟩)]]).run Tryz.prog w = .ok (.bool true) w := by kernel_rfl
theorem isMethodComparable (v : Value) (w : World) : (Go.method 303 140 v "Comparable").run Tryz.prog w = .ok (115, v) w := by kernel_rfl
theorem isComp : (Tryz.prog.info? 169).map (·.comparable) = some true := by kernel_rfl
theorem isSize : (Tryz.prog.info? 192).map (·.size) = some 1 := by kernel_rfl
theorem is_same (a : Addr) (w : World) :
    Calls Tryz.prog 45 #[.iface 169 (.pointer (some a)), .iface 169 (.pointer (some a))] w fun e w' => e = .returned (.bool true) ∧ w' = w := by
  obtain ⟨i, hi, hcmp⟩ := Option.map_eq_some_iff.1 isComp
  obtain ⟨j, hj, hjs⟩ := Option.map_eq_some_iff.1 isSize
  have h8 := @run_callFunc_extern Tryz.prog 63 _ Extern.ReflectliteType.typeOf Tryz.func63 (by kernel_rfl) (by kernel_rfl) (by kernel_rfl) (by kernel_rfl)
  have h32 := @run_callFunc_extern Tryz.prog 115 _ (Extern.ReflectliteType.method fun t => do Rtype.noPackHeld "Comparable" t; pure (.bool (← typeInfo t).comparable)) Tryz.func115 (by kernel_rfl) (by kernel_rfl) (by kernel_rfl) (by kernel_rfl)
  have tT := isTypeOf
  have cT := isComparable
  have mR := isMethodComparable
  have heq := run_eql_iface_ptr_same (P := Tryz.prog) w a Tryz.underlying105 Tryz.underlying169 hi hcmp hj
  go_enter Tryz.func45, Tryz.ntmps45
  go_wp2
  refine wp_loop_rounds 1 ?_
  rw [rounds_succ]
  go_wp2
  go_ret
  exact ⟨rfl, rfl⟩
theorem is_nil (b : Addr) (w : World) :
    Calls Tryz.prog 45 #[.nilIface, .iface 169 (.pointer (some b))] w fun e w' => e = .returned (.bool false) ∧ w' = w := by
  have hn := run_eql_iface_nil_left (P := Tryz.prog) w 169 (.pointer (some b)) Tryz.underlying105
  go_enter Tryz.func45, Tryz.ntmps45
  go_wp2
  go_ret
  exact ⟨rfl, rfl⟩
end Go.Proofs.YtlfledeldhhllaaGreatDoor

namespace Go.Proofs.YtlfledeldhhllaaGreatDoor
open Go Go.RowKit Go.Shelf Go.Extern.Stop Go.Stop Go.Extern
attribute [local go_sem] Oper.semAt_some

theorem cutPrefix_any (l p : List UInt8) (w : World) : Calls Tryz.prog 61 #[.string (bs l), .string (bs p)] w fun e w' =>
    e = .returned (.tuple #[.string (bs (Lib.trimPrefix l p)), .bool (Lib.hasPrefix l p)]) ∧ w' = w := by
  have h := Tryz.strings_CutPrefix (bs l) (bs p) w
  rw [bs_data, bs_data] at h
  exact h
theorem cutSuffix_any (l p : List UInt8) (w : World) (hl : l.length ≤ 9223372036854775807) : Calls Tryz.prog 58 #[.string (bs l), .string (bs p)] w fun e w' =>
    e = .returned (.tuple #[.string (bs (Lib.trimSuffix l p)), .bool (Lib.hasSuffix l p)]) ∧ w' = w := by
  have h := Tryz.strings_CutSuffix (bs l) (bs p) w (by rw [bs_size]; exact hl)
  rw [bs_data, bs_data] at h
  exact h
theorem join2 (a b : List UInt8) : Lib.join [a, b] [] = a ++ b := by simp [Lib.join, List.intercalate]
/-- strings.Join over two texts that lie in one block. -/
theorem join_two (bk c : Nat) (x y : List UInt8) (w : World) (hx : w.cell? ⟨bk, 0, none⟩ = some (.string (bs x))) (hy : w.cell? ⟨bk, 1, none⟩ = some (.string (bs y))) (hbk : bk < w.heap.size) (hc : 2 ≤ c)
    (hl : (x ++ y).length ≤ 140737488355328) : Calls Tryz.prog 73 #[.slice (some ⟨bk, 0, none⟩) 2 c, .string ⟨#[]⟩] w fun e w' => e = .returned (.string (bs (x ++ y))) ∧ Below w.heap.size w w' := by
  have hj := Tryz.strings_Join bk 0 c [bs x, bs y] ⟨#[]⟩ w (fun j z hz => by
    obtain rfl | rfl | h : j = 0 ∨ j = 1 ∨ 2 ≤ j := by omega
    · simp at hz; subst hz; exact hx
    · simp at hz; subst hz; exact hy
    · rw [List.getElem?_eq_none (by simpa using h)] at hz; cases hz) hbk (by simp) (by simpa using hc) (by
      simp only [List.map_cons, List.map_nil, bs_data]
      rw [join2]; omega)
  simp only [List.map_cons, List.map_nil, bs_data] at hj
  rw [join2] at hj
  exact hj
/-- registry.laid over two texts that lie in one block. -/
theorem laid_fits (bk c : Nat) (x y : List UInt8) (w : World) (hx : w.cell? ⟨bk, 0, none⟩ = some (.string (bs x))) (hy : w.cell? ⟨bk, 1, none⟩ = some (.string (bs y))) (hbk : bk < w.heap.size) (hc : 2 ≤ c)
    (hl : (x ++ y).length ≤ 1000) : Calls Tryz.prog 54 #[.slice (some ⟨bk, 0, none⟩) 2 c] w fun e w' => e = .returned (.tuple #[.string (bs (x ++ y)), .nilIface]) ∧ Below w.heap.size w w' := by
  have hj := join_two bk c x y w hx hy hbk hc (by omega)
  have hle : decide (((bs (x ++ y)).size : Int) ≤ 1000) = true := by rw [bs_size]; simp only [decide_eq_true_eq]; omega
  clear hx hy hl
  go_enter Tryz.func54, Tryz.ntmps54
  go_wp2_with (first | (go_at_call 73; refine hj.mono ?_; rintro e w' ⟨rfl, hb⟩) | (go_at_call 59; refine (cut_yes _ _).mono ?_; rintro e w' ⟨rfl, rfl⟩))
  go_ret2
  exact ⟨rfl, by assumption⟩
theorem laid_full (a : Addr) (bk c : Nat) (x y : List UInt8) (w : World) (he : ErrAt w a) (hx : w.cell? ⟨bk, 0, none⟩ = some (.string (bs x))) (hy : w.cell? ⟨bk, 1, none⟩ = some (.string (bs y))) (hbk : bk < w.heap.size) (hc : 2 ≤ c)
    (hl : 1000 < (x ++ y).length) (hl2 : (x ++ y).length ≤ 140737488355328) : Calls Tryz.prog 54 #[.slice (some ⟨bk, 0, none⟩) 2 c] w fun e w' => e = .returned (.tuple #[.string ByteArray.empty, .iface 169 (.pointer (some a))]) ∧ Below w.heap.size w w' := by
  have hj := join_two bk c x y w hx hy hbk hc hl2
  have hle : decide (((bs (x ++ y)).size : Int) ≤ 1000) = false := by rw [bs_size]; simp only [decide_eq_false_iff_not]; omega
  have hlt := he.lt
  clear hx hy hl hl2
  go_enter Tryz.func54, Tryz.ntmps54
  go_wp2_with (first | (go_at_call 73; refine hj.mono ?_; rintro e w' ⟨rfl, hb⟩; have hE := he.below hb hlt; have hs := hb.size) | (go_at_call 59; refine (cut_no _ a _ hE).mono ?_; rintro e w' ⟨rfl, hb2⟩))
  go_ret2
  exact ⟨rfl, Below.trans (by assumption) (Below.mono (by assumption) (by assumption))⟩
/-- From 1 to 2: a 'b' ahead. -/
theorem turn12_fits (v : Int) (c : Nat) (d : List UInt8) (w : World) (hl : ([98] ++ d).length ≤ 1000) :
    Calls Tryz.prog 53 #[.agg #[.int .i64 v, .int .u32 c, .string (bs d)]] w fun e w' => e = .returned (.tuple #[.string (bs ([98] ++ d)), .nilIface]) ∧ Below w.heap.size w w' := by
  have hc0 : ((w.alloc (.cells #[.int .i64 v, .int .u32 ↑c, .string (bs d)] 48)).alloc (.cells #[.string ⟨#[98]⟩, .string (bs d)] 9)).cell? ⟨w.heap.size + 1, 0, none⟩ = some (.string (bs [98])) := by simp; rfl
  have hc1 : ((w.alloc (.cells #[.int .i64 v, .int .u32 ↑c, .string (bs d)] 48)).alloc (.cells #[.string ⟨#[98]⟩, .string (bs d)] 9)).cell? ⟨w.heap.size + 1, 1, none⟩ = some (.string (bs d)) := by simp
  go_enter Tryz.func53, Tryz.ntmps53
  go_wp2_with (go_at_call 54; (with_reducible refine (laid_fits (w.heap.size + 1) _ [98] d _ hc0 hc1 (by simp) (by omega) hl).mono ?_); rintro e w' ⟨rfl, hb⟩)
  go_ret2
  exact ⟨rfl, (((Below.refl _ _).alloc (Nat.le_refl _) _).alloc (by simp) _).trans (Below.mono (by assumption) (by simp; omega))⟩
theorem turn12_full (a : Addr) (v : Int) (c : Nat) (d : List UInt8) (w : World) (he : ErrAt w a) (hl : 1000 < ([98] ++ d).length) (hl2 : d.length ≤ 1000) :
    Calls Tryz.prog 53 #[.agg #[.int .i64 v, .int .u32 c, .string (bs d)]] w fun e w' => e = .returned (.tuple #[.string ByteArray.empty, .iface 169 (.pointer (some a))]) ∧ Below w.heap.size w w' := by
  have hc0 : ((w.alloc (.cells #[.int .i64 v, .int .u32 ↑c, .string (bs d)] 48)).alloc (.cells #[.string ⟨#[98]⟩, .string (bs d)] 9)).cell? ⟨w.heap.size + 1, 0, none⟩ = some (.string (bs [98])) := by simp; rfl
  have hc1 : ((w.alloc (.cells #[.int .i64 v, .int .u32 ↑c, .string (bs d)] 48)).alloc (.cells #[.string ⟨#[98]⟩, .string (bs d)] 9)).cell? ⟨w.heap.size + 1, 1, none⟩ = some (.string (bs d)) := by simp
  have hb0 : Below w.heap.size w ((w.alloc (.cells #[.int .i64 v, .int .u32 ↑c, .string (bs d)] 48)).alloc (.cells #[.string ⟨#[98]⟩, .string (bs d)] 9)) := ((Below.refl _ _).alloc (Nat.le_refl _) _).alloc (by simp) _
  have hE := he.below hb0 he.lt
  clear he
  go_enter Tryz.func53, Tryz.ntmps53
  go_wp2_with (go_at_call 54; (with_reducible refine (laid_full a (w.heap.size + 1) _ [98] d _ hE hc0 hc1 (by simp) (by omega) hl (by simp; omega)).mono ?_); rintro e w' ⟨rfl, hb⟩)
  go_ret2
  exact ⟨rfl, hb0.trans (Below.mono (by assumption) (by simp; omega))⟩
set_option maxHeartbeats 1000000 in
/-- From 2 to 3: the count behind. -/
theorem turn23_fits (v : Int) (c : Nat) (d : List UInt8) (w : World) (hl : (d ++ le4 c).length ≤ 1000) :
    Calls Tryz.prog 55 #[.agg #[.int .i64 v, .int .u32 c, .string (bs d)]] w fun e w' => e = .returned (.tuple #[.string (bs (d ++ le4 c)), .nilIface]) ∧ Below w.heap.size w w' := by
  go_enter Tryz.func55, Tryz.ntmps55
  go_wp2
  go_region_with (first
    | (go_at_call 56; (with_reducible refine (put_any _ _).mono ?_); rintro e w1 ⟨rfl, hb⟩; have hz := hb.size; obtain ⟨hcA, hfA⟩ := bcell hb)
    | (go_at_call 54; (with_reducible refine (laid_fits _ _ d (le4 c) _ (by simp) (by simp) (by simp) (by omega) hl).mono ?_); rintro e w2 ⟨rfl, hb2⟩))
  all_goals go_wp2
  all_goals go_ret2
  all_goals exact ⟨rfl, by (repeat (first | exact Below.refl _ _ | with_reducible assumption | refine pb_alloc ?_ _ | refine pb_drew ?_ | refine pb_drewN ?_ _ | refine pb_set ?_ (by simp; try omega) _ | refine pb_trans ?_ (by with_reducible assumption)))⟩
set_option maxHeartbeats 1000000 in
theorem turn23_full (a : Addr) (v : Int) (c : Nat) (d : List UInt8) (w : World) (he : ErrAt w a) (hl : 1000 < (d ++ le4 c).length) (hl2 : d.length ≤ 1000) :
    Calls Tryz.prog 55 #[.agg #[.int .i64 v, .int .u32 c, .string (bs d)]] w fun e w' => e = .returned (.tuple #[.string ByteArray.empty, .iface 169 (.pointer (some a))]) ∧ Below w.heap.size w w' := by
  have hl3 : (d ++ le4 c).length ≤ 140737488355328 := by simp [le4_length]; omega
  have hE : ∀ W, Below w.heap.size w W → ErrAt W a := fun W hW => he.below hW he.lt
  clear he
  go_enter Tryz.func55, Tryz.ntmps55
  go_wp2
  go_region_with (first
    | (go_at_call 56; (with_reducible refine (put_any _ _).mono ?_); rintro e w1 ⟨rfl, hb⟩; have hz := hb.size; obtain ⟨hcA, hfA⟩ := bcell hb)
    | (go_at_call 54; (with_reducible refine (laid_full a _ _ d (le4 c) _ (hE _ (by (repeat (first | exact Below.refl _ _ | with_reducible assumption | refine pb_alloc ?_ _ | refine pb_drew ?_ | refine pb_drewN ?_ _ | refine pb_set ?_ (by simp; try omega) _ | refine pb_trans ?_ (by with_reducible assumption))))) (by simp) (by simp) (by simp) (by omega) hl hl3).mono ?_); rintro e w2 ⟨rfl, hb2⟩))
  all_goals go_wp2
  all_goals go_ret2
  all_goals exact ⟨rfl, by (repeat (first | exact Below.refl _ _ | with_reducible assumption | refine pb_alloc ?_ _ | refine pb_drew ?_ | refine pb_drewN ?_ _ | refine pb_set ?_ (by simp; try omega) _ | refine pb_trans ?_ (by with_reducible assumption)))⟩
/-- From 3 to 2: the count is cut off behind. -/
theorem turn32_any (v : Int) (c : Nat) (d : List UInt8) (w : World) (hd : d.length ≤ 1000) (hs : Lib.hasSuffix d (le4 c) = true) :
    Calls Tryz.prog 57 #[.agg #[.int .i64 v, .int .u32 c, .string (bs d)]] w fun e w' => e = .returned (.tuple #[.string (bs (Lib.trimSuffix d (le4 c))), .nilIface]) ∧ Below w.heap.size w w' := by
  go_enter Tryz.func57, Tryz.ntmps57
  go_wp2
  go_region_with (first
    | (go_at_call 56; (with_reducible refine (put_any _ _).mono ?_); rintro e w1 ⟨rfl, hb⟩; have hz := hb.size; obtain ⟨hcA, hfA⟩ := bcell hb)
    | (go_at_call 58; (with_reducible refine (cutSuffix_any _ _ _ (by omega)).mono ?_); rintro e w2 ⟨rfl, rfl⟩))
  all_goals go_wp2_with (go_at_call 59; (with_reducible refine (cut_yes _ _).mono ?_); rintro e w2 ⟨rfl, rfl⟩)
  all_goals go_ret2
  all_goals exact ⟨rfl, by (repeat (first | exact Below.refl _ _ | with_reducible assumption | refine pb_alloc ?_ _ | refine pb_drew ?_ | refine pb_drewN ?_ _ | refine pb_set ?_ (by simp; try omega) _ | refine pb_trans ?_ (by with_reducible assumption)))⟩
theorem turn32_no (a : Addr) (v : Int) (c : Nat) (d : List UInt8) (w : World) (he : ErrAt w a) (hd : d.length ≤ 1000) (hs : Lib.hasSuffix d (le4 c) = false) :
    Calls Tryz.prog 57 #[.agg #[.int .i64 v, .int .u32 c, .string (bs d)]] w fun e w' => e = .returned (.tuple #[.string ByteArray.empty, .iface 169 (.pointer (some a))]) ∧ Below w.heap.size w w' := by
  have hE : ∀ W, Below w.heap.size w W → ErrAt W a := fun W hW => he.below hW he.lt
  clear he
  go_enter Tryz.func57, Tryz.ntmps57
  go_wp2
  go_region_with (first
    | (go_at_call 56; (with_reducible refine (put_any _ _).mono ?_); rintro e w1 ⟨rfl, hb⟩; have hz := hb.size; obtain ⟨hcA, hfA⟩ := bcell hb)
    | (go_at_call 58; (with_reducible refine (cutSuffix_any _ _ _ (by omega)).mono ?_); rintro e w2 ⟨rfl, rfl⟩))
  all_goals go_wp2_with (go_at_call 59; (with_reducible refine (cut_no _ a _ (hE _ (by (repeat (first | exact Below.refl _ _ | with_reducible assumption | refine pb_alloc ?_ _ | refine pb_drew ?_ | refine pb_drewN ?_ _ | refine pb_set ?_ (by simp; try omega) _ | refine pb_trans ?_ (by with_reducible assumption)))))).mono ?_); rintro e w2 ⟨rfl, hb2⟩)
  all_goals go_ret2
  all_goals exact ⟨rfl, by (repeat (first | exact Below.refl _ _ | with_reducible assumption | refine pb_alloc ?_ _ | refine pb_drew ?_ | refine pb_drewN ?_ _ | refine pb_set ?_ (by simp; try omega) _ | refine pb_trans ?_ (by with_reducible assumption)))⟩
/-- From 2 to 1: the 'b' is cut off ahead. -/
theorem turn21_any (v : Int) (c : Nat) (d : List UInt8) (w : World) (hs : Lib.hasPrefix d [98] = true) :
    Calls Tryz.prog 60 #[.agg #[.int .i64 v, .int .u32 c, .string (bs d)]] w fun e w' => e = .returned (.tuple #[.string (bs (Lib.trimPrefix d [98])), .nilIface]) ∧ Below w.heap.size w w' := by
  have hp := fun W => cutPrefix_any d [98] W
  rw [hs] at hp
  clear hs
  go_enter Tryz.func60, Tryz.ntmps60
  go_wp2_with (first
    | (go_at_call 61; refine (hp _).mono ?_; rintro e w2 ⟨rfl, rfl⟩)
    | (go_at_call 59; (with_reducible refine (cut_yes _ _).mono ?_); rintro e w2 ⟨rfl, rfl⟩))
  go_ret2
  exact ⟨rfl, by (repeat (first | exact Below.refl _ _ | with_reducible assumption | refine pb_alloc ?_ _ | refine pb_drew ?_ | refine pb_drewN ?_ _ | refine pb_set ?_ (by simp; try omega) _ | refine pb_trans ?_ (by with_reducible assumption)))⟩
theorem turn21_no (a : Addr) (v : Int) (c : Nat) (d : List UInt8) (w : World) (he : ErrAt w a) (hs : Lib.hasPrefix d [98] = false) :
    Calls Tryz.prog 60 #[.agg #[.int .i64 v, .int .u32 c, .string (bs d)]] w fun e w' => e = .returned (.tuple #[.string ByteArray.empty, .iface 169 (.pointer (some a))]) ∧ Below w.heap.size w w' := by
  have hp := fun W => cutPrefix_any d [98] W
  rw [hs] at hp
  have hE : ∀ W, Below w.heap.size w W → ErrAt W a := fun W hW => he.below hW he.lt
  clear hs he
  go_enter Tryz.func60, Tryz.ntmps60
  go_wp2_with (first
    | (go_at_call 61; refine (hp _).mono ?_; rintro e w2 ⟨rfl, rfl⟩)
    | (go_at_call 59; (with_reducible refine (cut_no _ a _ (hE _ (by (repeat (first | exact Below.refl _ _ | with_reducible assumption | refine pb_alloc ?_ _ | refine pb_drew ?_ | refine pb_drewN ?_ _ | refine pb_set ?_ (by simp; try omega) _ | refine pb_trans ?_ (by with_reducible assumption)))))).mono ?_); rintro e w2 ⟨rfl, hb2⟩))
  go_ret2
  exact ⟨rfl, by (repeat (first | exact Below.refl _ _ | with_reducible assumption | refine pb_alloc ?_ _ | refine pb_drew ?_ | refine pb_drewN ?_ _ | refine pb_set ?_ (by simp; try omega) _ | refine pb_trans ?_ (by with_reducible assumption)))⟩
end Go.Proofs.YtlfledeldhhllaaGreatDoor
