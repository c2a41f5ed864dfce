/- WALKS: crc.Put, crc.text, the reference's Put; registry.laid and registry.cut; errors.Is at the registry's one error. No condition beyond what each says. -/
import Derived.Test.YtpiccdmaakipaaaDoorReg1
import Derived.Test.YtpiccdmaakipaaaDoorShelf
import Derived.LaidEql
import Derived.Stop.Asserts
import Derived.RowKitTokens
import Derived.BigQuiet
import Derived.Deep.QuietTactic
import Derived.Laws.BytesArg
import Derived.WalkSmall
namespace Go.Proofs.YtpiccdmaakipaaaDoor
open Go Go.RowKit Go.Shelf Go.Extern.Stop Go.Stop Go.Extern
attribute [local go_sem] Oper.semAt_some

/-- A number's four bytes, the least first. -/
def le4 (n : Nat) : List UInt8 := [UInt8.ofNat n, UInt8.ofNat (n / 256), UInt8.ofNat (n / 65536), UInt8.ofNat (n / 16777216)]
theorem le4_length (n : Nat) : (le4 n).length = 4 := rfl
/-- The string of bytes. -/
def bs (l : List UInt8) : ByteArray := ⟨l.toArray⟩
theorem bs_data (l : List UInt8) : (bs l).data.toList = l := by simp [bs]
theorem bs_size (l : List UInt8) : (bs l).size = l.length := by simp [bs, ByteArray.size]
theorem bs_of (s : ByteArray) : bs s.data.toList = s := by cases s; rfl
theorem ofNat_mod (n : Nat) : UInt8.ofNat (n % 256) = UInt8.ofNat n := by
  apply UInt8.toNat_inj.1; simp
theorem toNat_mod (n : Nat) : ((n : Int) % 256).toNat = n % 256 := by omega
theorem strOfNums_le4 (n : Nat) : strOfNums [(n : Int) % 256, (n : Int) / 256 % 256, (n : Int) / 65536 % 256, (n : Int) / 16777216 % 256] = bs (le4 n) := by
  have h1 : ((n : Int) / 256) = ((n / 256 : Nat) : Int) := by omega
  have h2 : ((n : Int) / 65536) = ((n / 65536 : Nat) : Int) := by omega
  have h3 : ((n : Int) / 16777216) = ((n / 16777216 : Nat) : Int) := by omega
  unfold strOfNums bs le4
  rw [h1, h2, h3]
  simp only [List.map_cons, List.map_nil, toNat_mod, ofNat_mod]

theorem text_any (b off cap : Nat) (xs : List Int) (w : World) (hc : ∀ i, i < xs.length → w.cell? ⟨b, off + i, none⟩ = some (.int .u8 (xs.getD i 0))) :
    Calls Tryd.prog 44 #[.slice (some ⟨b, off, none⟩) xs.length cap] w fun e w' => e = .returned (.string (strOfNums xs)) ∧ w' = w := by
  have hk := run_convert_bytes_arg (P := Tryd.prog) w 32 5 Tryd.underlying32 Tryd.underlying5 b off xs.length cap xs rfl hc 9 Tryd.underlying9
  clear hc
  go_enter Tryd.func44, Tryd.ntmps44
  go_wp2
  go_ret
  exact ⟨rfl, rfl⟩

theorem put_any (n : Nat) (w : World) : Calls Tryd.prog 32 #[.int .u32 n] w fun e w' => e = .returned (.string (bs (le4 n))) ∧ Below w.heap.size w w' := by
  rw [← strOfNums_le4]
  go_enter Tryd.func32, Tryd.ntmps32
  go_wp2_with (go_at_call 44; refine (text_any _ 0 _ [(n : Int) % 256, (n : Int) / 256 % 256, (n : Int) / 65536 % 256, (n : Int) / 16777216 % 256] _ (fun i hi => ?_)).mono ?_)
  · obtain rfl | rfl | rfl | rfl : i = 0 ∨ i = 1 ∨ i = 2 ∨ i = 3 := by simp at hi; omega
    all_goals simp
  · rintro e w' ⟨rfl, rfl⟩
    go_wp2
    go_ret
    exact ⟨rfl, (Below.refl _ _).alloc (Nat.le_refl _) _⟩

theorem refPut_any (n : Nat) (w : World) : Calls Tryd.prog 41 #[.int .u32 n] w fun e w' => e = .returned (.string (bs (le4 n))) ∧ Below w.heap.size w w' := by
  have hk := run_convert_bytes_arg (P := Tryd.prog) (w.alloc (.cells #[.int .u8 ((n : Int) % 256), .int .u8 ((n : Int) / 256 % 256), .int .u8 ((n : Int) / 65536 % 256), .int .u8 ((n : Int) / 16777216 % 256)] 5)) 32 5 Tryd.underlying32 Tryd.underlying5 w.heap.size 0 4 4
    [(n : Int) % 256, (n : Int) / 256 % 256, (n : Int) / 65536 % 256, (n : Int) / 16777216 % 256] rfl (fun i hi => by
      obtain rfl | rfl | rfl | rfl : i = 0 ∨ i = 1 ∨ i = 2 ∨ i = 3 := by omega
      all_goals simp) 9 Tryd.underlying9
  rw [strOfNums_le4] at hk
  go_enter Tryd.func41, Tryd.ntmps41
  go_wp2
  go_ret
  exact ⟨rfl, (Below.refl _ _).alloc (Nat.le_refl _) _⟩

/-- The registry's one error, held by its variable. -/
def ErrAt (w : World) (a : Addr) : Prop := w.cell? ⟨0, 0, none⟩ = some (.iface 93 (.pointer (some a)))
theorem ErrAt.below {B : Nat} {w w' : World} {a : Addr} (h : ErrAt w a) (hb : Below B w w') (hB : 0 < B) : ErrAt w' a := (hb.cell hB).trans h
theorem ErrAt.lt {w : World} {a : Addr} (h : ErrAt w a) : 0 < w.heap.size := by
  unfold ErrAt World.cell? at h
  rcases Nat.lt_or_ge 0 w.heap.size with h' | h'
  · exact h'
  · simp [Array.getElem?_eq_none h'] at h

/-- registry.cut: the data, if that is what there must be. -/
theorem cut_yes (s : ByteArray) (w : World) : Calls Tryd.prog 35 #[.string s, .bool true] w fun e w' => e = .returned (.tuple #[.string s, .nilIface]) ∧ w' = w := by
  go_enter Tryd.func35, Tryd.ntmps35
  go_wp2
  go_ret2
  exact ⟨rfl, rfl⟩
theorem cut_no (s : ByteArray) (a : Addr) (w : World) (he : ErrAt w a) : Calls Tryd.prog 35 #[.string s, .bool false] w fun e w' => e = .returned (.tuple #[.string ByteArray.empty, .iface 93 (.pointer (some a))]) ∧ Below w.heap.size w w' := by
  unfold ErrAt at he
  go_enter Tryd.func35, Tryd.ntmps35
  go_wp2
  go_quiet (fail)
  go_wp2
  go_ret2
  exact ⟨rfl, below_drewN (Below.refl _ _) _⟩

/-! errors.Is, where the target is the registry's error and the error is that one or nil. -/
theorem isTypeOf (v : Value) (w : World) : (Extern.ReflectliteType.typeOf #[.iface 93 v]).run Tryd.prog w = .ok (.iface 71 (.agg #[.pointer (some ⟨2, 93, none⟩)])) w := by kernel_rfl
theorem isComparable (w : World) : ((Extern.ReflectliteType.method fun t => do Rtype.noPackHeld "Comparable" t; (fun a => Value.bool a.comparable) <$> typeInfo t) #[.agg #[.pointer (some ⟨2, 93, none⟩)]]).run Tryd.prog w = .ok (.bool true) w := by kernel_rfl
theorem isMethodComparable (v : Value) (w : World) : (Go.method 227 71 v "Comparable").run Tryd.prog w = .ok (74, v) w := by kernel_rfl
theorem isComp : (Tryd.prog.info? 93).map (·.comparable) = some true := by kernel_rfl
theorem isSize : (Tryd.prog.info? 116).map (·.size) = some 1 := by kernel_rfl
theorem is_same (a : Addr) (w : World) :
    Calls Tryd.prog 26 #[.iface 93 (.pointer (some a)), .iface 93 (.pointer (some a))] w fun e w' => e = .returned (.bool true) ∧ w' = w := by
  obtain ⟨i, hi, hcmp⟩ := Option.map_eq_some_iff.1 isComp
  obtain ⟨j, hj, hjs⟩ := Option.map_eq_some_iff.1 isSize
  have h8 := @run_callFunc_extern Tryd.prog 39 _ Extern.ReflectliteType.typeOf Tryd.func39 (by kernel_rfl) (by kernel_rfl) (by kernel_rfl) (by kernel_rfl)
  have h32 := @run_callFunc_extern Tryd.prog 74 _ (Extern.ReflectliteType.method fun t => do Rtype.noPackHeld "Comparable" t; pure (.bool (← typeInfo t).comparable)) Tryd.func74 (by kernel_rfl) (by kernel_rfl) (by kernel_rfl) (by kernel_rfl)
  have tT := isTypeOf
  have cT := isComparable
  have mR := isMethodComparable
  have heq := run_eql_iface_ptr_same (P := Tryd.prog) w a Tryd.underlying47 Tryd.underlying93 hi hcmp hj
  go_enter Tryd.func26, Tryd.ntmps26
  go_wp2
  refine wp_loop_rounds 1 ?_
  rw [rounds_succ]
  go_wp2
  go_ret
  exact ⟨rfl, rfl⟩
theorem is_nil (b : Addr) (w : World) :
    Calls Tryd.prog 26 #[.nilIface, .iface 93 (.pointer (some b))] w fun e w' => e = .returned (.bool false) ∧ w' = w := by
  have hn := run_eql_iface_nil_left (P := Tryd.prog) w 93 (.pointer (some b)) Tryd.underlying47
  go_enter Tryd.func26, Tryd.ntmps26
  go_wp2
  go_ret
  exact ⟨rfl, rfl⟩
end Go.Proofs.YtpiccdmaakipaaaDoor
