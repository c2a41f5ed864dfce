/- BYTES, and the walks of crc.Put and crc.text. No condition. -/
import Derived.Test.YtlfledeldhhllaaGreatDoorLib
import Derived.Test.YtlfledeldhhllaaGreatDoorProg
import Derived.Outline
import Derived.LaidEql
import Derived.RowKitTokens
import Derived.BigQuiet
import Derived.Deep.QuietTactic
import Derived.Laws.BytesArg
import Derived.WalkSmall
namespace Go.Proofs.YtlfledeldhhllaaGreatDoor
open Go Go.RowKit Go.Shelf Go.Extern.Stop Go.Stop Go.Extern
attribute [local go_sem] Oper.semAt_some

/-- A number's four bytes, the least first. -/
def le4 (n : Nat) : List UInt8 := [UInt8.ofNat n, UInt8.ofNat (n / 256), UInt8.ofNat (n / 65536), UInt8.ofNat (n / 16777216)]
theorem le4_length (n : Nat) : (le4 n).length = 4 := rfl
/-- The string of bytes. -/
def bs (l : List UInt8) : ByteArray := ⟨l.toArray⟩
theorem bs_data (l : List UInt8) : (bs l).data.toList = l := by simp [bs]
theorem bs_size (l : List UInt8) : (bs l).size = l.length := by simp [bs, ByteArray.size]
theorem bs_of (s : ByteArray) : bs s.data.toList = s := by cases s; rfl
theorem ofNat_mod (n : Nat) : UInt8.ofNat (n % 256) = UInt8.ofNat n := by
  apply UInt8.toNat_inj.1; simp
theorem toNat_mod (n : Nat) : ((n : Int) % 256).toNat = n % 256 := by omega
theorem strOfNums_le4 (n : Nat) : strOfNums [(n : Int) % 256, (n : Int) / 256 % 256, (n : Int) / 65536 % 256, (n : Int) / 16777216 % 256] = bs (le4 n) := by
  have h1 : ((n : Int) / 256) = ((n / 256 : Nat) : Int) := by omega
  have h2 : ((n : Int) / 65536) = ((n / 65536 : Nat) : Int) := by omega
  have h3 : ((n : Int) / 16777216) = ((n / 16777216 : Nat) : Int) := by omega
  unfold strOfNums bs le4
  rw [h1, h2, h3]
  simp only [List.map_cons, List.map_nil, toNat_mod, ofNat_mod]

theorem text_any (b off cap : Nat) (xs : List Int) (w : World) (hc : ∀ i, i < xs.length → w.cell? ⟨b, off + i, none⟩ = some (.int .u8 (xs.getD i 0))) :
    Calls Tryz.prog 74 #[.slice (some ⟨b, off, none⟩) xs.length cap] w fun e w' => e = .returned (.string (strOfNums xs)) ∧ w' = w := by
  have hk := run_convert_bytes_arg (P := Tryz.prog) w 150 5 Tryz.underlying150 Tryz.underlying5 b off xs.length cap xs rfl hc 9 Tryz.underlying9
  clear hc
  go_enter Tryz.func74, Tryz.ntmps74
  go_wp2
  go_ret
  exact ⟨rfl, rfl⟩

theorem put_any (n : Nat) (w : World) : Calls Tryz.prog 56 #[.int .u32 n] w fun e w' => e = .returned (.string (bs (le4 n))) ∧ Below w.heap.size w w' := by
  rw [← strOfNums_le4]
  go_enter Tryz.func56, Tryz.ntmps56
  go_wp2_with (go_at_call 74; refine (text_any _ 0 _ [(n : Int) % 256, (n : Int) / 256 % 256, (n : Int) / 65536 % 256, (n : Int) / 16777216 % 256] _ (fun i hi => ?_)).mono ?_)
  · obtain rfl | rfl | rfl | rfl : i = 0 ∨ i = 1 ∨ i = 2 ∨ i = 3 := by simp at hi; omega
    all_goals simp
  · rintro e w' ⟨rfl, rfl⟩
    go_wp2
    go_ret
    exact ⟨rfl, (Below.refl _ _).alloc (Nat.le_refl _) _⟩

theorem bs_cat (a b : List UInt8) : bs a ++ bs b = bs (a ++ b) := by
  apply ByteArray.ext; simp [bs]

theorem extract_take (d : List UInt8) (n : Nat) : (bs d).extract 0 n = bs (d.take n) := by
  apply ByteArray.ext; simp [bs, ByteArray.data_extract]
theorem extract_drop (d : List UInt8) (n : Nat) : (bs d).extract n (bs d).size = bs (d.drop n) := by
  apply ByteArray.ext
  simp [bs, ByteArray.data_extract, ByteArray.size]
  exact List.take_of_length_le (by simp)
theorem bs_toList (d : List UInt8) : (bs d).toList = d := by
  rw [ByteArray.toList_eq]; simp [bs]

end Go.Proofs.YtlfledeldhhllaaGreatDoor
