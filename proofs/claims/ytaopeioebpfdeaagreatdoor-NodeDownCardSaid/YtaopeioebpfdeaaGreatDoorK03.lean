/- PROVED HERE: WALKS of the registry's Right and Protocol. No condition. WALKS: registry.laid and registry.cut; errors.Is at the registry's one error. No condition beyond what each says. WALKS: the registry's four turns, each by what it gives. No condition beyond what each says. WHAT THE STATEMENTS WITH THE REGISTRY's ERROR SHARE: what the listed variable gives a walk; a world for the witness. No condition. MAPS AS LISTS OF PAIRS: what a look-up, a store and a deletion do to a map whose entries are known as a list of keys and values. 'KeyLaw': what a key's type must give. No condition. -/
import Derived.Outline
import Derived.LaidEql
import Derived.Stop.Asserts
import Derived.RowKitTokens
import Derived.BigQuiet
import Derived.Deep.QuietTactic
import Derived.Laws.BytesArg
import Derived.WalkSmall
import Derived.Deep.RegionWith
import Derived.OpenShut
import Derived.Deep.DeepHandedRow
import Derived.Deep.DeepWitnessRowRef
import Derived.Stop.LaidErr
import Derived.Lib.SmallJoins
import Derived.Test.YtaopeioebpfdeaaGreatDoorCards
import Derived.Test.YtaopeioebpfdeaaGreatDoorTie
import Derived.Test.YtaopeioebpfdeaaGreatDoorK01
import Derived.Test.YtaopeioebpfdeaaGreatDoorK02
namespace Go.Proofs.YtaopeioebpfdeaaGreatDoor
open Go Go.RowKit Go.Shelf
attribute [local go_sem] Oper.semAt_some

/-- A state is right: its version is one, its data has at most 1000 bytes. -/
def rightB (v : Int) (n : Nat) : Bool := known v && decide (n ≤ 1000)
theorem rgRight_any (v : Int) (c : Int) (d : ByteArray) (w : World) : Calls Tryz.prog 149 #[.agg #[.int .i64 v, .int .u32 c, .string d]] w fun e w' => e = .returned (.bool (rightB v d.size)) ∧ Below w.heap.size w w' := by
  cases hv : known v
  · go_enter Tryz.func149, Tryz.ntmps149
    go_wp2_with (go_at_call 80; refine (known_any _ _).mono ?_; rintro e w' ⟨rfl, hb⟩; obtain ⟨hcA, hfA⟩ := bcell hb; have hz := hb.size)
    go_ret
    exact ⟨by simp [rightB, hv], ((Below.refl _ _).alloc (Nat.le_refl _) _).trans (Below.mono (by assumption) (by simp))⟩
  · go_enter Tryz.func149, Tryz.ntmps149
    go_wp2_with (go_at_call 80; refine (known_any _ _).mono ?_; rintro e w' ⟨rfl, hb⟩; obtain ⟨hcA, hfA⟩ := bcell hb; have hz := hb.size)
    go_ret
    refine ⟨?_, ((Below.refl _ _).alloc (Nat.le_refl _) _).trans (Below.mono (by assumption) (by simp))⟩
    simp [rightB, hv]
    try omega
/-- A version's protocol, and the error's number. -/
def protoP (v : Int) : Int × Int := if known v then (if v = 1 then (1, 0) else (2, 0)) else (0, 130)
theorem protocol_any (v : Int) (w : World) : Calls Tryz.prog 81 #[.int .i64 v] w fun e w' => e = .returned (.tuple #[.int .i64 (protoP v).1, .int .i64 (protoP v).2]) ∧ Below w.heap.size w w' := by
  cases hv : known v
  · go_enter Tryz.func81, Tryz.ntmps81
    go_wp2_with (go_at_call 80; refine (known_any _ _).mono ?_; rintro e w' ⟨rfl, hb⟩)
    go_ret2
    exact ⟨by simp [protoP, hv], by assumption⟩
  · by_cases h1 : v = 1
    · have h1' : (v == 1) = true := by simp [h1]
      go_enter Tryz.func81, Tryz.ntmps81
      go_wp2_with (go_at_call 80; refine (known_any _ _).mono ?_; rintro e w' ⟨rfl, hb⟩)
      go_ret2
      exact ⟨by subst h1; simp [protoP, hv], by assumption⟩
    · have h1' : (v == 1) = false := by simp [h1]
      go_enter Tryz.func81, Tryz.ntmps81
      go_wp2_with (go_at_call 80; refine (known_any _ _).mono ?_; rintro e w' ⟨rfl, hb⟩)
      go_ret2
      exact ⟨by simp [protoP, hv, h1], by assumption⟩
end Go.Proofs.YtaopeioebpfdeaaGreatDoor

namespace Go.Proofs.YtaopeioebpfdeaaGreatDoor
open Go Go.RowKit Go.Shelf Go.Extern.Stop Go.Stop Go.Extern
attribute [local go_sem] Oper.semAt_some

/-- The registry's one error, held by its variable. -/
def ErrAt (w : World) (a : Addr) : Prop := w.cell? ⟨0, 0, none⟩ = some (.iface 322 (.pointer (some a)))
theorem ErrAt.below {B : Nat} {w w' : World} {a : Addr} (h : ErrAt w a) (hb : Below B w w') (hB : 0 < B) : ErrAt w' a := (hb.cell hB).trans h
theorem ErrAt.lt {w : World} {a : Addr} (h : ErrAt w a) : 0 < w.heap.size := by
  unfold ErrAt World.cell? at h
  rcases Nat.lt_or_ge 0 w.heap.size with h' | h'
  · exact h'
  · simp [Array.getElem?_eq_none h'] at h
/-- registry.cut: the data, if that is what there must be. -/
theorem cut_yes (s : ByteArray) (w : World) : Calls Tryz.prog 179 #[.string s, .bool true] w fun e w' => e = .returned (.tuple #[.string s, .nilIface]) ∧ w' = w := by
  go_enter Tryz.func179, Tryz.ntmps179
  go_wp2
  go_ret2
  exact ⟨rfl, rfl⟩
theorem cut_no (s : ByteArray) (a : Addr) (w : World) (he : ErrAt w a) : Calls Tryz.prog 179 #[.string s, .bool false] w fun e w' => e = .returned (.tuple #[.string ByteArray.empty, .iface 322 (.pointer (some a))]) ∧ Below w.heap.size w w' := by
  unfold ErrAt at he
  go_enter Tryz.func179, Tryz.ntmps179
  go_wp2
  go_quiet (fail)
  go_wp2
  go_ret2
  exact ⟨rfl, below_drewN (Below.refl _ _) _⟩
/-! errors.Is, where the target is the registry's error and the error is that one or nil. -/
theorem isTypeOf (v : Value) (w : World) : (Extern.ReflectliteType.typeOf #[.iface 322 v]).run Tryz.prog w = .ok (.iface 294 (.agg #[.pointer (some ⟨2, 322, none⟩)])) w := by kernel_rfl
theorem isComparable (w : World) : ((Extern.ReflectliteType.method fun t => do Rtype.noPackHeld "Comparable" t; (fun a => Value.bool a.comparable) <$> typeInfo t) #[.agg #[.pointer (some ⟨2, 322, none⟩)]]).run Tryz.prog w = .ok (.bool true) w := by kernel_rfl
theorem isMethodComparable (v : Value) (w : World) : (Go.method 455 294 v "Comparable").run Tryz.prog w = .ok (240, v) w := by kernel_rfl
theorem isComp : (Tryz.prog.info? 322).map (·.comparable) = some true := by kernel_rfl
theorem isSize : (Tryz.prog.info? 344).map (·.size) = some 1 := by kernel_rfl
theorem is_same (a : Addr) (w : World) :
    Calls Tryz.prog 152 #[.iface 322 (.pointer (some a)), .iface 322 (.pointer (some a))] w fun e w' => e = .returned (.bool true) ∧ w' = w := by
  obtain ⟨i, hi, hcmp⟩ := Option.map_eq_some_iff.1 isComp
  obtain ⟨j, hj, hjs⟩ := Option.map_eq_some_iff.1 isSize
  have h8 := @run_callFunc_extern Tryz.prog 183 _ Extern.ReflectliteType.typeOf Tryz.func183 (by kernel_rfl) (by kernel_rfl) (by kernel_rfl) (by kernel_rfl)
  have h32 := @run_callFunc_extern Tryz.prog 240 _ (Extern.ReflectliteType.method fun t => do Rtype.noPackHeld "Comparable" t; pure (.bool (← typeInfo t).comparable)) Tryz.func240 (by kernel_rfl) (by kernel_rfl) (by kernel_rfl) (by kernel_rfl)
  have tT := isTypeOf
  have cT := isComparable
  have mR := isMethodComparable
  have heq := run_eql_iface_ptr_same (P := Tryz.prog) w a Tryz.underlying174 Tryz.underlying322 hi hcmp hj
  go_enter Tryz.func152, Tryz.ntmps152
  go_wp2
  refine wp_loop_rounds 1 ?_
  rw [rounds_succ]
  go_wp2
  go_ret
  exact ⟨rfl, rfl⟩
theorem is_nil (b : Addr) (w : World) :
    Calls Tryz.prog 152 #[.nilIface, .iface 322 (.pointer (some b))] w fun e w' => e = .returned (.bool false) ∧ w' = w := by
  have hn := run_eql_iface_nil_left (P := Tryz.prog) w 322 (.pointer (some b)) Tryz.underlying174
  go_enter Tryz.func152, Tryz.ntmps152
  go_wp2
  go_ret
  exact ⟨rfl, rfl⟩
end Go.Proofs.YtaopeioebpfdeaaGreatDoor

namespace Go.Proofs.YtaopeioebpfdeaaGreatDoor
open Go Go.RowKit Go.Shelf Go.Extern.Stop Go.Stop Go.Extern
attribute [local go_sem] Oper.semAt_some

theorem cutPrefix_any (l p : List UInt8) (w : World) : Calls Tryz.prog 181 #[.string (bs l), .string (bs p)] w fun e w' =>
    e = .returned (.tuple #[.string (bs (Lib.trimPrefix l p)), .bool (Lib.hasPrefix l p)]) ∧ w' = w := by
  have h := Tryz.strings_CutPrefix (bs l) (bs p) w
  rw [bs_data, bs_data] at h
  exact h
theorem cutSuffix_any (l p : List UInt8) (w : World) (hl : l.length ≤ 9223372036854775807) : Calls Tryz.prog 178 #[.string (bs l), .string (bs p)] w fun e w' =>
    e = .returned (.tuple #[.string (bs (Lib.trimSuffix l p)), .bool (Lib.hasSuffix l p)]) ∧ w' = w := by
  have h := Tryz.strings_CutSuffix (bs l) (bs p) w (by rw [bs_size]; exact hl)
  rw [bs_data, bs_data] at h
  exact h
theorem join2 (a b : List UInt8) : Lib.join [a, b] [] = a ++ b := by simp [Lib.join, List.intercalate]
/-- strings.Join over two texts that lie in one block. -/
theorem join_two (bk c : Nat) (x y : List UInt8) (w : World) (hx : w.cell? ⟨bk, 0, none⟩ = some (.string (bs x))) (hy : w.cell? ⟨bk, 1, none⟩ = some (.string (bs y))) (hbk : bk < w.heap.size) (hc : 2 ≤ c)
    (hl : (x ++ y).length ≤ 140737488355328) : Calls Tryz.prog 66 #[.slice (some ⟨bk, 0, none⟩) 2 c, .string ⟨#[]⟩] w fun e w' => e = .returned (.string (bs (x ++ y))) ∧ Below w.heap.size w w' := by
  have hj := Tryz.strings_Join bk 0 c [bs x, bs y] ⟨#[]⟩ w (fun j z hz => by
    obtain rfl | rfl | h : j = 0 ∨ j = 1 ∨ 2 ≤ j := by omega
    · simp at hz; subst hz; exact hx
    · simp at hz; subst hz; exact hy
    · rw [List.getElem?_eq_none (by simpa using h)] at hz; cases hz) hbk (by simp) (by simpa using hc) (by
      simp only [List.map_cons, List.map_nil, bs_data]
      rw [join2]; omega)
  simp only [List.map_cons, List.map_nil, bs_data] at hj
  rw [join2] at hj
  exact hj
/-- registry.laid over two texts that lie in one block. -/
theorem laid_fits (bk c : Nat) (x y : List UInt8) (w : World) (hx : w.cell? ⟨bk, 0, none⟩ = some (.string (bs x))) (hy : w.cell? ⟨bk, 1, none⟩ = some (.string (bs y))) (hbk : bk < w.heap.size) (hc : 2 ≤ c)
    (hl : (x ++ y).length ≤ 1000) : Calls Tryz.prog 175 #[.slice (some ⟨bk, 0, none⟩) 2 c] w fun e w' => e = .returned (.tuple #[.string (bs (x ++ y)), .nilIface]) ∧ Below w.heap.size w w' := by
  have hj := join_two bk c x y w hx hy hbk hc (by omega)
  have hle : decide (((bs (x ++ y)).size : Int) ≤ 1000) = true := by rw [bs_size]; simp only [decide_eq_true_eq]; omega
  clear hx hy hl
  go_enter Tryz.func175, Tryz.ntmps175
  go_wp2_with (first | (go_at_call 66; refine hj.mono ?_; rintro e w' ⟨rfl, hb⟩) | (go_at_call 179; refine (cut_yes _ _).mono ?_; rintro e w' ⟨rfl, rfl⟩))
  go_ret2
  exact ⟨rfl, by assumption⟩
theorem laid_full (a : Addr) (bk c : Nat) (x y : List UInt8) (w : World) (he : ErrAt w a) (hx : w.cell? ⟨bk, 0, none⟩ = some (.string (bs x))) (hy : w.cell? ⟨bk, 1, none⟩ = some (.string (bs y))) (hbk : bk < w.heap.size) (hc : 2 ≤ c)
    (hl : 1000 < (x ++ y).length) (hl2 : (x ++ y).length ≤ 140737488355328) : Calls Tryz.prog 175 #[.slice (some ⟨bk, 0, none⟩) 2 c] w fun e w' => e = .returned (.tuple #[.string ByteArray.empty, .iface 322 (.pointer (some a))]) ∧ Below w.heap.size w w' := by
  have hj := join_two bk c x y w hx hy hbk hc hl2
  have hle : decide (((bs (x ++ y)).size : Int) ≤ 1000) = false := by rw [bs_size]; simp only [decide_eq_false_iff_not]; omega
  have hlt := he.lt
  clear hx hy hl hl2
  go_enter Tryz.func175, Tryz.ntmps175
  go_wp2_with (first | (go_at_call 66; refine hj.mono ?_; rintro e w' ⟨rfl, hb⟩; have hE := he.below hb hlt; have hs := hb.size) | (go_at_call 179; refine (cut_no _ a _ hE).mono ?_; rintro e w' ⟨rfl, hb2⟩))
  go_ret2
  exact ⟨rfl, Below.trans (by assumption) (Below.mono (by assumption) (by assumption))⟩
/-- From 1 to 2: a 'b' ahead. -/
theorem turn12_fits (v : Int) (c : Nat) (d : List UInt8) (w : World) (hl : ([98] ++ d).length ≤ 1000) :
    Calls Tryz.prog 174 #[.agg #[.int .i64 v, .int .u32 c, .string (bs d)]] w fun e w' => e = .returned (.tuple #[.string (bs ([98] ++ d)), .nilIface]) ∧ Below w.heap.size w w' := by
  have hc0 : ((w.alloc (.cells #[.int .i64 v, .int .u32 ↑c, .string (bs d)] 106)).alloc (.cells #[.string ⟨#[98]⟩, .string (bs d)] 9)).cell? ⟨w.heap.size + 1, 0, none⟩ = some (.string (bs [98])) := by simp; rfl
  have hc1 : ((w.alloc (.cells #[.int .i64 v, .int .u32 ↑c, .string (bs d)] 106)).alloc (.cells #[.string ⟨#[98]⟩, .string (bs d)] 9)).cell? ⟨w.heap.size + 1, 1, none⟩ = some (.string (bs d)) := by simp
  go_enter Tryz.func174, Tryz.ntmps174
  go_wp2_with (go_at_call 175; (with_reducible refine (laid_fits (w.heap.size + 1) _ [98] d _ hc0 hc1 (by simp) (by omega) hl).mono ?_); rintro e w' ⟨rfl, hb⟩)
  go_ret2
  exact ⟨rfl, (((Below.refl _ _).alloc (Nat.le_refl _) _).alloc (by simp) _).trans (Below.mono (by assumption) (by simp; omega))⟩
theorem turn12_full (a : Addr) (v : Int) (c : Nat) (d : List UInt8) (w : World) (he : ErrAt w a) (hl : 1000 < ([98] ++ d).length) (hl2 : d.length ≤ 1000) :
    Calls Tryz.prog 174 #[.agg #[.int .i64 v, .int .u32 c, .string (bs d)]] w fun e w' => e = .returned (.tuple #[.string ByteArray.empty, .iface 322 (.pointer (some a))]) ∧ Below w.heap.size w w' := by
  have hc0 : ((w.alloc (.cells #[.int .i64 v, .int .u32 ↑c, .string (bs d)] 106)).alloc (.cells #[.string ⟨#[98]⟩, .string (bs d)] 9)).cell? ⟨w.heap.size + 1, 0, none⟩ = some (.string (bs [98])) := by simp; rfl
  have hc1 : ((w.alloc (.cells #[.int .i64 v, .int .u32 ↑c, .string (bs d)] 106)).alloc (.cells #[.string ⟨#[98]⟩, .string (bs d)] 9)).cell? ⟨w.heap.size + 1, 1, none⟩ = some (.string (bs d)) := by simp
  have hb0 : Below w.heap.size w ((w.alloc (.cells #[.int .i64 v, .int .u32 ↑c, .string (bs d)] 106)).alloc (.cells #[.string ⟨#[98]⟩, .string (bs d)] 9)) := ((Below.refl _ _).alloc (Nat.le_refl _) _).alloc (by simp) _
  have hE := he.below hb0 he.lt
  clear he
  go_enter Tryz.func174, Tryz.ntmps174
  go_wp2_with (go_at_call 175; (with_reducible refine (laid_full a (w.heap.size + 1) _ [98] d _ hE hc0 hc1 (by simp) (by omega) hl (by simp; omega)).mono ?_); rintro e w' ⟨rfl, hb⟩)
  go_ret2
  exact ⟨rfl, hb0.trans (Below.mono (by assumption) (by simp; omega))⟩
set_option maxHeartbeats 1000000 in
/-- From 2 to 3: the count behind. -/
theorem turn23_fits (v : Int) (c : Nat) (d : List UInt8) (w : World) (hl : (d ++ le4 c).length ≤ 1000) :
    Calls Tryz.prog 176 #[.agg #[.int .i64 v, .int .u32 c, .string (bs d)]] w fun e w' => e = .returned (.tuple #[.string (bs (d ++ le4 c)), .nilIface]) ∧ Below w.heap.size w w' := by
  go_enter Tryz.func176, Tryz.ntmps176
  go_wp2
  go_region_with (first
    | (go_at_call 62; (with_reducible refine (put_any _ _).mono ?_); rintro e w1 ⟨rfl, hb⟩; have hz := hb.size; obtain ⟨hcA, hfA⟩ := bcell hb)
    | (go_at_call 175; (with_reducible refine (laid_fits _ _ d (le4 c) _ (by simp) (by simp) (by simp) (by omega) hl).mono ?_); rintro e w2 ⟨rfl, hb2⟩))
  all_goals go_wp2
  all_goals go_ret2
  all_goals exact ⟨rfl, by (repeat (first | exact Below.refl _ _ | with_reducible assumption | refine pb_alloc ?_ _ | refine pb_drew ?_ | refine pb_drewN ?_ _ | refine pb_set ?_ (by simp; try omega) _ | refine pb_trans ?_ (by with_reducible assumption)))⟩
set_option maxHeartbeats 1000000 in
theorem turn23_full (a : Addr) (v : Int) (c : Nat) (d : List UInt8) (w : World) (he : ErrAt w a) (hl : 1000 < (d ++ le4 c).length) (hl2 : d.length ≤ 1000) :
    Calls Tryz.prog 176 #[.agg #[.int .i64 v, .int .u32 c, .string (bs d)]] w fun e w' => e = .returned (.tuple #[.string ByteArray.empty, .iface 322 (.pointer (some a))]) ∧ Below w.heap.size w w' := by
  have hl3 : (d ++ le4 c).length ≤ 140737488355328 := by simp [le4_length]; omega
  have hE : ∀ W, Below w.heap.size w W → ErrAt W a := fun W hW => he.below hW he.lt
  clear he
  go_enter Tryz.func176, Tryz.ntmps176
  go_wp2
  go_region_with (first
    | (go_at_call 62; (with_reducible refine (put_any _ _).mono ?_); rintro e w1 ⟨rfl, hb⟩; have hz := hb.size; obtain ⟨hcA, hfA⟩ := bcell hb)
    | (go_at_call 175; (with_reducible refine (laid_full a _ _ d (le4 c) _ (hE _ (by (repeat (first | exact Below.refl _ _ | with_reducible assumption | refine pb_alloc ?_ _ | refine pb_drew ?_ | refine pb_drewN ?_ _ | refine pb_set ?_ (by simp; try omega) _ | refine pb_trans ?_ (by with_reducible assumption))))) (by simp) (by simp) (by simp) (by omega) hl hl3).mono ?_); rintro e w2 ⟨rfl, hb2⟩))
  all_goals go_wp2
  all_goals go_ret2
  all_goals exact ⟨rfl, by (repeat (first | exact Below.refl _ _ | with_reducible assumption | refine pb_alloc ?_ _ | refine pb_drew ?_ | refine pb_drewN ?_ _ | refine pb_set ?_ (by simp; try omega) _ | refine pb_trans ?_ (by with_reducible assumption)))⟩
/-- From 3 to 2: the count is cut off behind. -/
theorem turn32_any (v : Int) (c : Nat) (d : List UInt8) (w : World) (hd : d.length ≤ 1000) (hs : Lib.hasSuffix d (le4 c) = true) :
    Calls Tryz.prog 177 #[.agg #[.int .i64 v, .int .u32 c, .string (bs d)]] w fun e w' => e = .returned (.tuple #[.string (bs (Lib.trimSuffix d (le4 c))), .nilIface]) ∧ Below w.heap.size w w' := by
  go_enter Tryz.func177, Tryz.ntmps177
  go_wp2
  go_region_with (first
    | (go_at_call 62; (with_reducible refine (put_any _ _).mono ?_); rintro e w1 ⟨rfl, hb⟩; have hz := hb.size; obtain ⟨hcA, hfA⟩ := bcell hb)
    | (go_at_call 178; (with_reducible refine (cutSuffix_any _ _ _ (by omega)).mono ?_); rintro e w2 ⟨rfl, rfl⟩))
  all_goals go_wp2_with (go_at_call 179; (with_reducible refine (cut_yes _ _).mono ?_); rintro e w2 ⟨rfl, rfl⟩)
  all_goals go_ret2
  all_goals exact ⟨rfl, by (repeat (first | exact Below.refl _ _ | with_reducible assumption | refine pb_alloc ?_ _ | refine pb_drew ?_ | refine pb_drewN ?_ _ | refine pb_set ?_ (by simp; try omega) _ | refine pb_trans ?_ (by with_reducible assumption)))⟩
theorem turn32_no (a : Addr) (v : Int) (c : Nat) (d : List UInt8) (w : World) (he : ErrAt w a) (hd : d.length ≤ 1000) (hs : Lib.hasSuffix d (le4 c) = false) :
    Calls Tryz.prog 177 #[.agg #[.int .i64 v, .int .u32 c, .string (bs d)]] w fun e w' => e = .returned (.tuple #[.string ByteArray.empty, .iface 322 (.pointer (some a))]) ∧ Below w.heap.size w w' := by
  have hE : ∀ W, Below w.heap.size w W → ErrAt W a := fun W hW => he.below hW he.lt
  clear he
  go_enter Tryz.func177, Tryz.ntmps177
  go_wp2
  go_region_with (first
    | (go_at_call 62; (with_reducible refine (put_any _ _).mono ?_); rintro e w1 ⟨rfl, hb⟩; have hz := hb.size; obtain ⟨hcA, hfA⟩ := bcell hb)
    | (go_at_call 178; (with_reducible refine (cutSuffix_any _ _ _ (by omega)).mono ?_); rintro e w2 ⟨rfl, rfl⟩))
  all_goals go_wp2_with (go_at_call 179; (with_reducible refine (cut_no _ a _ (hE _ (by (repeat (first | exact Below.refl _ _ | with_reducible assumption | refine pb_alloc ?_ _ | refine pb_drew ?_ | refine pb_drewN ?_ _ | refine pb_set ?_ (by simp; try omega) _ | refine pb_trans ?_ (by with_reducible assumption)))))).mono ?_); rintro e w2 ⟨rfl, hb2⟩)
  all_goals go_ret2
  all_goals exact ⟨rfl, by (repeat (first | exact Below.refl _ _ | with_reducible assumption | refine pb_alloc ?_ _ | refine pb_drew ?_ | refine pb_drewN ?_ _ | refine pb_set ?_ (by simp; try omega) _ | refine pb_trans ?_ (by with_reducible assumption)))⟩
/-- From 2 to 1: the 'b' is cut off ahead. -/
theorem turn21_any (v : Int) (c : Nat) (d : List UInt8) (w : World) (hs : Lib.hasPrefix d [98] = true) :
    Calls Tryz.prog 180 #[.agg #[.int .i64 v, .int .u32 c, .string (bs d)]] w fun e w' => e = .returned (.tuple #[.string (bs (Lib.trimPrefix d [98])), .nilIface]) ∧ Below w.heap.size w w' := by
  have hp := fun W => cutPrefix_any d [98] W
  rw [hs] at hp
  clear hs
  go_enter Tryz.func180, Tryz.ntmps180
  go_wp2_with (first
    | (go_at_call 181; refine (hp _).mono ?_; rintro e w2 ⟨rfl, rfl⟩)
    | (go_at_call 179; (with_reducible refine (cut_yes _ _).mono ?_); rintro e w2 ⟨rfl, rfl⟩))
  go_ret2
  exact ⟨rfl, by (repeat (first | exact Below.refl _ _ | with_reducible assumption | refine pb_alloc ?_ _ | refine pb_drew ?_ | refine pb_drewN ?_ _ | refine pb_set ?_ (by simp; try omega) _ | refine pb_trans ?_ (by with_reducible assumption)))⟩
theorem turn21_no (a : Addr) (v : Int) (c : Nat) (d : List UInt8) (w : World) (he : ErrAt w a) (hs : Lib.hasPrefix d [98] = false) :
    Calls Tryz.prog 180 #[.agg #[.int .i64 v, .int .u32 c, .string (bs d)]] w fun e w' => e = .returned (.tuple #[.string ByteArray.empty, .iface 322 (.pointer (some a))]) ∧ Below w.heap.size w w' := by
  have hp := fun W => cutPrefix_any d [98] W
  rw [hs] at hp
  have hE : ∀ W, Below w.heap.size w W → ErrAt W a := fun W hW => he.below hW he.lt
  clear hs he
  go_enter Tryz.func180, Tryz.ntmps180
  go_wp2_with (first
    | (go_at_call 181; refine (hp _).mono ?_; rintro e w2 ⟨rfl, rfl⟩)
    | (go_at_call 179; (with_reducible refine (cut_no _ a _ (hE _ (by (repeat (first | exact Below.refl _ _ | with_reducible assumption | refine pb_alloc ?_ _ | refine pb_drew ?_ | refine pb_drewN ?_ _ | refine pb_set ?_ (by simp; try omega) _ | refine pb_trans ?_ (by with_reducible assumption)))))).mono ?_); rintro e w2 ⟨rfl, hb2⟩))
  go_ret2
  exact ⟨rfl, by (repeat (first | exact Below.refl _ _ | with_reducible assumption | refine pb_alloc ?_ _ | refine pb_drew ?_ | refine pb_drewN ?_ _ | refine pb_set ?_ (by simp; try omega) _ | refine pb_trans ?_ (by with_reducible assumption)))⟩
end Go.Proofs.YtaopeioebpfdeaaGreatDoor
namespace Go.Proofs.YtaopeioebpfdeaaGreatDoor
open Go Go.RowKit Go.ChangeShapes Go.WideShapes Go.ChangeAt

theorem own : ownKnob Tryz.prog.godebug = none := by kernel_rfl
theorem laidOut : laidOutB Tryz.prog = true := by kernel_rfl
theorem gErr : Tryz.prog.globalNamed "rostrum/registry.errTurn" = some 0 := by kernel_rfl
theorem gErrType : (Tryz.prog.globals[0]?).map (·.type) = some 174 := by kernel_rfl
theorem cellsErr : Tryz.prog.cellsOf 344 = 1 := by kernel_rfl
theorem cellsStr : Tryz.prog.cellsOf 9 = 1 := by kernel_rfl
theorem star : "*" ++ "errors.errorString" = "*errors.errorString" := by decide
theorem rowErr (u : TypeId) (h : Tryz.prog.typeName? 3 u = some "*errors.errorString") : u = 322 :=
  typeName_ptr_named (nm := "errors.errorString") (by rw [star]; kernel_rfl) (by kernel_rfl) (by decide) u (by rw [star]; exact h)

/-- What the row's list gives: the registry's error. -/
theorem err_of_laid {W : World} (h : laidMetH Tryz.prog [("rostrum/registry.errTurn", Rows.laid_rostrum_registry_errTurn)] W) : ∃ a, ErrAt W a := by
  obtain ⟨a, s, hv, _⟩ := laid_sentinel (r := []) h gErr gErrType Tryz.underlying174 rowErr Tryz.underlying322 Tryz.underlying344 rfl rfl Tryz.underlying9 cellsErr cellsStr
  exact ⟨a, by simpa [ErrAt] using World.var?_cell gErr hv 0⟩

abbrev errText : ByteArray := ⟨#[97, 32, 115, 116, 97, 116, 101, 32, 99, 97, 110, 110, 111, 116, 32, 98, 101, 32, 116, 117, 114, 110, 101, 100]⟩
noncomputable def low : Nat := (World.holding Tryz.prog default ⟨#[], #[], []⟩).heap.size
/-- A world for the witness: the settled one, the variable holding its error. -/
noncomputable def laidWorld (os : Os) : World :=
  let w0 := World.holding Tryz.prog os ⟨#[.cells #[.string errText] 344], #[], []⟩
  { w0 with heap := w0.heap.modify 0 fun
      | .cells _ t frozen => .cells #[.iface 322 (.pointer (some ⟨low, 0, none⟩))] t frozen
      | o => o }
theorem laid_met (os : Os) (args : Array Value) : laidMet Tryz.prog [("rostrum/registry.errTurn", Rows.laid_rostrum_registry_errTurn)] ((laidWorld os).forCall (fun _ _ => 0) ⟨#[], args, []⟩).memory :=
  laidMet_of_run' 8 (by kernel_rfl) (by kernel_rfl)
end Go.Proofs.YtaopeioebpfdeaaGreatDoor
namespace Go.Proofs.YtaopeioebpfdeaaGreatDoor
open Go Go.RowKit

/-- WHAT A KEY's TYPE MUST GIVE. -/
structure KeyLaw (P : Program) (kt : TypeId) {K : Type} [DecidableEq K] (enc : K → Value) : Prop where
  eq : ∀ (k k' : K) (w : World), (Op.equal kt (enc k) (enc k')).run P w = .ok (decide (k = k')) w
  chk : ∀ (b : Bool) (k : K) (w : World), (Instr.checkKey b 10000 kt (enc k)).run P w = .ok () w
  bits : ∀ k : K, Instr.sameBits 10000 (enc k) (enc k) = true
  now : ∃ u, P.underlying kt = some u ∧ ∀ k k' : K, Instr.sameNow u (enc k) (enc k') = none ∨ Instr.sameNow u (enc k) (enc k') = some (decide (k = k'))

section
variable {P : Program} {kt : TypeId} {K : Type} [DecidableEq K] {enc : K → Value}

/-- The place and the value of a key. -/
def lookIdx {V : Type} (k : K) : List (K × V) → Nat → Option (Nat × V)
  | [], _ => none
  | (k', v) :: l, i => if k = k' then some (i, v) else lookIdx k l (i + 1)
/-- The value of a key. -/
def look {V : Type} (k : K) : List (K × V) → Option V
  | [] => none
  | (k', v) :: l => if k = k' then some v else look k l
theorem lookIdx_look {V : Type} (k : K) : ∀ (l : List (K × V)) (i : Nat), (lookIdx k l i).map (·.2) = look k l
  | [], _ => rfl
  | (k', v) :: l, i => by
    unfold lookIdx look
    split
    · rfl
    · exact lookIdx_look k l (i + 1)
theorem look_map {V U : Type} (f : V → U) (k : K) : ∀ l : List (K × V), look k (l.map fun p => (p.1, f p.2)) = (look k l).map f
  | [] => rfl
  | (k', v) :: l => by
    have ih := look_map f k l
    rw [List.map_cons]
    by_cases h : k = k'
    · simp [look, h]
    · simp [look, h, ih]
/-- The entries bear these keys and values. -/
def Bears (enc : K → Value) (es : List MapEntry) (l : List (K × Value)) : Prop := es.map (fun e => (e.key, e.val)) = l.map (fun p => (enc p.1, p.2))
omit [DecidableEq K] in
theorem Bears.nil : Bears enc [] [] := rfl
omit [DecidableEq K] in
theorem Bears.cons {e : MapEntry} {es : List MapEntry} {p : K × Value} {l : List (K × Value)} : Bears enc (e :: es) (p :: l) ↔ (e.key = enc p.1 ∧ e.val = p.2) ∧ Bears enc es l := by
  simp [Bears]

theorem findNow_bears (L : KeyLaw P kt enc) {u : TypeDesc} (hu : P.underlying kt = some u) (k : K) : ∀ (es : List MapEntry) (l : List (K × Value)) (i : Nat), Bears enc es l →
    Instr.findNow u (enc k) es i = none ∨ Instr.findNow u (enc k) es i = some (lookIdx k l i)
  | [], [], i, _ => .inr rfl
  | [], p :: l, i, h => by simp [Bears] at h
  | e :: es, [], i, h => by simp [Bears] at h
  | e :: es, (k', v) :: l, i, h => by
    obtain ⟨⟨hk, hv⟩, h'⟩ := Bears.cons.1 h
    obtain ⟨u', hu', hs⟩ := L.now
    obtain rfl : u' = u := Option.some.inj (hu'.symm.trans hu)
    have ih := findNow_bears L hu k es l (i + 1) h'
    simp only [Instr.findNow, hk, lookIdx]
    rcases hs k k' with h1 | h1
    · rw [h1]; exact .inl rfl
    · rw [h1]
      by_cases hkk : k = k'
      · rw [if_pos hkk]; simp [hkk]; exact hv
      · rw [if_neg hkk]; simp only [hkk, decide_false]; exact ih
theorem findAsking_bears (L : KeyLaw P kt enc) (k : K) (w : World) : ∀ (es : List MapEntry) (l : List (K × Value)) (i : Nat), Bears enc es l →
    (Instr.findAsking kt (enc k) es i).run P w = .ok (lookIdx k l i) w
  | [], [], i, _ => by simp [Instr.findAsking, lookIdx, Sem.run_pure]
  | [], p :: l, i, h => by simp [Bears] at h
  | e :: es, [], i, h => by simp [Bears] at h
  | e :: es, (k', v) :: l, i, h => by
    obtain ⟨⟨hk, hv⟩, h'⟩ := Bears.cons.1 h
    have ih := findAsking_bears L k w es l (i + 1) h'
    simp only [Instr.findAsking, hk, lookIdx, Sem.run_bind, L.eq, Result.andThen]
    by_cases hkk : k = k'
    · simp only at hv; simp [hkk, Sem.run_pure, hv]
    · simp [hkk, ih]
theorem findKey_bears (L : KeyLaw P kt enc) (k : K) (w : World) (es : List MapEntry) (l : List (K × Value)) (h : Bears enc es l) :
    (Instr.findKey kt (enc k) es).run P w = .ok (lookIdx k l 0) w := by
  obtain ⟨u, hu, _⟩ := L.now
  unfold Instr.findKey
  simp only [Sem.run_bind, run_underlying hu, Result.andThen]
  rcases findNow_bears L hu k es l 0 h with h1 | h1
  · rw [h1]; exact findAsking_bears L k w es l 0 h
  · rw [h1]; simp [Sem.run_pure]

theorem run_getObj_map {w : World} {b : Nat} {es : Array MapEntry} {c : Nat} (h : w.heap[b]? = some (.map es c)) : (getObj b).run P w = .ok (.map es c) w := by simp [getObj, Sem.run, h]
theorem run_setObj_map {w : World} {b : Nat} {es : Array MapEntry} {c : Nat} (o : Obj) (h : w.heap[b]? = some (.map es c)) : (setObj b o).run P w = .ok () (w.putObj b o) := by simp [setObj, Sem.run, h, World.putObj]

/-- Block b is a map that bears these keys and values; its stamps rise. -/
def MapAt (w : World) (b : Nat) (enc : K → Value) (l : List (K × Value)) : Prop :=
  ∃ es c, w.heap[b]? = some (.map es c) ∧ Bears enc es.toList l ∧ es.toList.Pairwise (fun x y => x.born < y.born) ∧ (∀ e ∈ es.toList, e.born < c)
omit [DecidableEq K] in
theorem MapAt.lt {w : World} {b : Nat} {l : List (K × Value)} (h : MapAt w b enc l) : b < w.heap.size := by
  obtain ⟨es, c, hb, _⟩ := h; exact (Array.getElem?_eq_some_iff.1 hb).1
omit [DecidableEq K] in
theorem MapAt.kept {w w' : World} {b : Nat} {l : List (K × Value)} (h : MapAt w b enc l) (hb : w'.heap[b]? = w.heap[b]?) : MapAt w' b enc l := by
  obtain ⟨es, c, h1, h2⟩ := h; exact ⟨es, c, hb.trans h1, h2⟩
omit [DecidableEq K] in
theorem MapAt.made (w : World) (enc : K → Value) : MapAt (w.alloc (.map #[] 0)) w.heap.size enc [] :=
  ⟨#[], 0, World.alloc_heap_new w _, rfl, by simp, by simp⟩
omit [DecidableEq K] in
/-- Keep the list, and the number of entries. -/
theorem MapAt.size {w : World} {b : Nat} {l : List (K × Value)} (h : MapAt w b enc l) : ∃ es c, w.heap[b]? = some (.map es c) ∧ es.size = l.length := by
  obtain ⟨es, c, h1, h2, _⟩ := h
  have := congrArg List.length h2
  simp at this
  exact ⟨es, c, h1, this⟩

/-- A look-up. -/
theorem MapAt.lookup {w : World} {b : Nat} {l : List (K × Value)} (h : MapAt w b enc l) (L : KeyLaw P kt enc) {mt et : TypeId} (hm : P.underlying mt = some (.map kt et)) {z : Value} (hz : (zeroValue et).run P w = .ok z w) (k : K) :
    (Instr.lookup mt (.map (some b)) (enc k) false).run P w = .ok ((look k l).getD z) w := by
  obtain ⟨es, c, hb, hB, _⟩ := h
  unfold Instr.lookup
  simp only [Sem.run_bind, run_underlying hm, Result.andThen, run_getObj_map hb, Sem.run_pure, L.chk, findKey_bears L k w _ _ hB]
  have hl := lookIdx_look k l 0
  cases hi : lookIdx k l 0 with
  | none => rw [hi] at hl; simp only [Option.map_none] at hl; rw [← hl]; simp [hz]
  | some p => rw [hi] at hl; simp only [Option.map_some] at hl; rw [← hl]; simp [Sem.run_pure]
theorem MapAt.lookup_ok {w : World} {b : Nat} {l : List (K × Value)} (h : MapAt w b enc l) (L : KeyLaw P kt enc) {mt et : TypeId} (hm : P.underlying mt = some (.map kt et)) {z : Value} (hz : (zeroValue et).run P w = .ok z w) (k : K) :
    (Instr.lookup mt (.map (some b)) (enc k) true).run P w = .ok (.tuple #[(look k l).getD z, .bool (look k l).isSome]) w := by
  obtain ⟨es, c, hb, hB, _⟩ := h
  unfold Instr.lookup
  simp only [Sem.run_bind, run_underlying hm, Result.andThen, run_getObj_map hb, Sem.run_pure, L.chk, findKey_bears L k w _ _ hB]
  have hl := lookIdx_look k l 0
  cases hi : lookIdx k l 0 with
  | none => rw [hi] at hl; simp only [Option.map_none] at hl; rw [← hl]; simp [hz, Result.andThen]
  | some p => rw [hi] at hl; simp only [Option.map_some] at hl; rw [← hl]; simp [Sem.run_pure]

/-- A store: the list behind it. -/
def put {V : Type} (k : K) (v : V) : List (K × V) → List (K × V)
  | [] => [(k, v)]
  | (k', v') :: l => if k = k' then (k, v) :: l else (k', v') :: put k v l
theorem put_none {k : K} {v : Value} : ∀ {l : List (K × Value)} {i : Nat}, lookIdx k l i = none → put k v l = l ++ [(k, v)]
  | [], _, _ => rfl
  | (k', v') :: l, i, h => by
    unfold lookIdx at h
    split at h
    · cases h
    · rename_i hk; unfold put; rw [if_neg hk, put_none h]; rfl
theorem bears_put_some {k : K} {v : Value} : ∀ {l : List (K × Value)} {es : List MapEntry} {i j : Nat} {v0 : Value}, lookIdx k l i = some (j, v0) → Bears enc es l →
    i ≤ j ∧ ((es[j - i]?).map (·.key)) = some (enc k) ∧ Bears enc (es.modify (j - i) fun e => { e with key := enc k, val := v }) (put k v l)
  | [], es, i, j, v0, h, _ => by cases h
  | (k', v') :: l, [], i, j, v0, h, hB => by simp [Bears] at hB
  | (k', v') :: l, e :: es, i, j, v0, h, hB => by
    obtain ⟨⟨h1, h2⟩, h3⟩ := Bears.cons.1 hB
    unfold lookIdx at h
    split at h
    · rename_i hk
      cases h
      unfold put
      rw [if_pos hk]
      refine ⟨Nat.le_refl _, ?_, ?_⟩
      · simp [h1, hk]
      · simp only [Nat.sub_self, List.modify_zero_cons]
        exact Bears.cons.2 ⟨⟨rfl, rfl⟩, h3⟩
    · rename_i hk
      obtain ⟨a, b, c⟩ := bears_put_some (v := v) h h3
      have hj : j - i = (j - (i + 1)) + 1 := by omega
      refine ⟨by omega, ?_, ?_⟩
      · rw [hj]; simpa using b
      · rw [hj, List.modify_succ_cons]
        unfold put
        rw [if_neg hk]
        exact Bears.cons.2 ⟨⟨h1, h2⟩, c⟩

theorem MapAt.update {w : World} {b : Nat} {l : List (K × Value)} (h : MapAt w b enc l) (L : KeyLaw P kt enc) {mt et : TypeId} (hm : P.underlying mt = some (.map kt et)) (k : K) (v : Value) :
    ∃ o, (Instr.mapUpdate mt (.map (some b)) (enc k) v).run P w = .ok () (w.putObj b o) ∧ MapAt (w.putObj b o) b enc (put k v l) := by
  have hlt := h.lt
  obtain ⟨es, c, hb, hB, hS, hC⟩ := h
  cases hi : lookIdx k l 0 with
  | none =>
    refine ⟨.map (es.push { key := enc k, val := v, born := c }) (c + 1), ?_, _, _, World.putObj_heap_same hlt, ?_, ?_, ?_⟩
    · unfold Instr.mapUpdate
      simp only [Sem.run_bind, run_underlying hm, Result.andThen, run_getObj_map hb, L.chk, findKey_bears L k w _ _ hB, hi, run_setObj_map _ hb]
    · rw [put_none hi]
      simp [Bears] at hB ⊢
      rw [hB]
    · simp [List.pairwise_append, hS]; exact fun e he => hC e (by simpa using he)
    · intro e he
      simp at he
      rcases he with he | rfl
      · have := hC e (by simpa using he); omega
      · simp
  | some p =>
    obtain ⟨j, v0⟩ := p
    obtain ⟨_, hkey, hBp⟩ := bears_put_some (v := v) hi hB
    simp only [Nat.sub_zero] at hkey hBp
    have hkey' : ((es[j]?).map (·.key)).getD (enc k) = enc k := by
      rw [show es[j]? = es.toList[j]? by simp, hkey]; rfl
    refine ⟨.map (es.modify j fun e => { e with key := enc k, val := v }) c, ?_, _, _, World.putObj_heap_same hlt, ?_, ?_, ?_⟩
    · unfold Instr.mapUpdate
      simp only [Sem.run_bind, run_underlying hm, Result.andThen, run_getObj_map hb, L.chk, findKey_bears L k w _ _ hB, hi, hkey', Instr.keyThatStays, L.bits, if_true, Sem.run_pure, run_setObj_map _ hb]
    · simpa using hBp
    · have : (es.modify j fun e => { e with key := enc k, val := v }).toList.map (·.born) = es.toList.map (·.born) := by
        simp only [Array.toList_modify]
        apply List.ext_getElem?
        intro n
        simp only [List.getElem?_map, List.getElem?_modify]
        by_cases hjn : j = n
        · subst hjn; cases es.toList[j]? <;> simp
        · simp [hjn]
      have h2 : (es.toList.map (·.born)).Pairwise (· < ·) := List.pairwise_map.2 hS
      rw [← this] at h2
      exact List.pairwise_map.1 h2
    · intro e he
      simp only [Array.toList_modify] at he
      obtain ⟨n, hn⟩ := List.mem_iff_getElem?.1 he
      rw [List.getElem?_modify] at hn
      cases he0 : es.toList[n]? with
      | none => rw [he0] at hn; simp at hn
      | some e0 =>
        rw [he0] at hn
        have h0 := hC e0 (List.mem_iff_getElem?.2 ⟨n, he0⟩)
        by_cases hjn : j = n
        · simp [hjn] at hn; rw [← hn]; exact h0
        · simp [hjn] at hn; rw [← hn]; exact h0

/-- A deletion: the list behind it. -/
def del {V : Type} (k : K) : List (K × V) → List (K × V)
  | [] => []
  | (k', v') :: l => if k = k' then l else (k', v') :: del k l
theorem del_none {k : K} : ∀ {l : List (K × Value)} {i : Nat}, lookIdx k l i = none → del k l = l
  | [], _, _ => rfl
  | (k', v') :: l, i, h => by
    unfold lookIdx at h
    split at h
    · cases h
    · rename_i hk; unfold del; rw [if_neg hk, del_none h]
theorem bears_del_some {k : K} : ∀ {l : List (K × Value)} {es : List MapEntry} {i j : Nat} {v0 : Value}, lookIdx k l i = some (j, v0) → Bears enc es l →
    i ≤ j ∧ j - i < es.length ∧ Bears enc (es.eraseIdx (j - i)) (del k l)
  | [], es, i, j, v0, h, _ => by cases h
  | (k', v') :: l, [], i, j, v0, h, hB => by simp [Bears] at hB
  | (k', v') :: l, e :: es, i, j, v0, h, hB => by
    obtain ⟨⟨h1, h2⟩, h3⟩ := Bears.cons.1 hB
    unfold lookIdx at h
    split at h
    · rename_i hk
      cases h
      unfold del
      rw [if_pos hk]
      exact ⟨Nat.le_refl _, by simp, by simpa using h3⟩
    · rename_i hk
      obtain ⟨a, b, c⟩ := bears_del_some h h3
      have hj : j - i = (j - (i + 1)) + 1 := by omega
      refine ⟨by omega, by simp; omega, ?_⟩
      rw [hj, List.eraseIdx_cons_succ]
      unfold del
      rw [if_neg hk]
      exact Bears.cons.2 ⟨⟨h1, h2⟩, c⟩
theorem MapAt.delete {w : World} {b : Nat} {l : List (K × Value)} (h : MapAt w b enc l) (L : KeyLaw P kt enc) {mt et : TypeId} (hm : P.underlying mt = some (.map kt et)) (ats : Array TypeId) (rt : TypeId) (hat : ats[0]? = some mt) (k : K) :
    ∃ o, (Builtin.delete_ ats rt #[.map (some b), enc k]).run P w = .ok (.tuple #[]) (w.putObj b o) ∧ MapAt (w.putObj b o) b enc (del k l) := by
  have hlt := h.lt
  obtain ⟨es, c, hb, hB, hS, hC⟩ := h
  cases hi : lookIdx k l 0 with
  | none =>
    refine ⟨.map es c, ?_, _, _, World.putObj_heap_same hlt, ?_, hS, hC⟩
    · unfold Builtin.delete_
      simp [hat, Sem.run_bind, run_underlying hm, Result.andThen, run_getObj_map hb, L.chk, findKey_bears L k w _ _ hB, hi, run_setObj_map _ hb]
    · rw [del_none hi]; exact hB
  | some p =>
    obtain ⟨j, v0⟩ := p
    obtain ⟨_, hj, hBp⟩ := bears_del_some hi hB
    simp only [Nat.sub_zero] at hj hBp
    have hlist : (es.eraseIdxIfInBounds j).toList = es.toList.eraseIdx j := by simp
    refine ⟨.map (es.eraseIdxIfInBounds j) c, ?_, _, _, World.putObj_heap_same hlt, ?_, ?_, ?_⟩
    · unfold Builtin.delete_
      simp [hat, Sem.run_bind, run_underlying hm, Result.andThen, run_getObj_map hb, L.chk, findKey_bears L k w _ _ hB, hi, run_setObj_map _ hb]
    · rw [hlist]; exact hBp
    · rw [hlist]; exact hS.sublist (List.eraseIdx_sublist _ _)
    · rw [hlist]; exact fun e he => hC e ((List.eraseIdx_sublist _ _).mem he)
theorem put_map {V U : Type} (f : V → U) (k : K) (v : V) : ∀ l : List (K × V), put k (f v) (l.map fun p => (p.1, f p.2)) = (put k v l).map fun p => (p.1, f p.2)
  | [] => rfl
  | (k', v') :: l => by
    have ih := put_map f k v l
    rw [List.map_cons]
    by_cases h : k = k'
    · simp [put, h]
    · simp [put, h, ih]
theorem del_map {V U : Type} (f : V → U) (k : K) : ∀ l : List (K × V), del k (l.map fun p => (p.1, f p.2)) = (del k l).map fun p => (p.1, f p.2)
  | [] => rfl
  | (k', v') :: l => by
    have ih := del_map f k l
    rw [List.map_cons]
    by_cases h : k = k'
    · simp [del, h]
    · simp [del, h, ih]
end
end Go.Proofs.YtaopeioebpfdeaaGreatDoor
