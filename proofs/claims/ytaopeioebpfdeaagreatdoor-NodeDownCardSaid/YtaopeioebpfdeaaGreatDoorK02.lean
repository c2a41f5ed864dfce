/- PROVED HERE: WALKS of the registry's Known and Check, of the program alone. No condition. BYTES, and the walks of crc.Put and crc.text. No condition. DERIVED: THE SHELF's CONTRACTS AT THIS DUMP, IN PLAIN WORDS (tools/lay-plain.mjs out of 'TryzShelf.lean', which tools/lay-shelf.mjs wrote): THE SAME DECLARATIONS UNDER THE SAME NAMES: 'import', 'namespace', 'open', 'def', 'theorem' AND NOTHING ELSE: no command of the shelf's: FOR A HAND-IN. Each laying: the table of numbers ('.._ren') and one theorem, a field a fact of the dump's own or the kernel's comparison; each contract: ONE APPLICATION. -/
import Derived.Outline
import Derived.LaidEql
import Derived.RowKitTokens
import Derived.BigQuiet
import Derived.Deep.QuietTactic
import Derived.Laws.BytesArg
import Derived.WalkSmall
import Derived.Shelf.Strings.Builder1
import Derived.Shelf.Strings.Builder2
import Derived.Shelf.Strings.OnBuilder
import Derived.Shelf.Small.Bits
import Derived.Shelf.Small.Wraps
import Derived.Shelf.Strconv.Itoa0
import Derived.Shelf.Strings.Prefix
import Derived.Shelf.Slices.Turned
import Derived.Ground.Names2Prog
import Derived.Shelf.Slices.Clone
import Derived.Shelf.Slices.SearchI
import Derived.Test.YtaopeioebpfdeaaGreatDoorProg
import Derived.Test.YtaopeioebpfdeaaGreatDoorK01
namespace Go.Proofs.YtaopeioebpfdeaaGreatDoor
open Go Go.RowKit Go.Shelf
attribute [local go_sem] Oper.semAt_some

/-- Is it a version? -/
def known (v : Int) : Bool := decide (1 ≤ v) && decide (v ≤ 3)

set_option maxHeartbeats 1000000 in
/-- The iterator over all versions: 1, 2, 3. -/
theorem versions_iter (F : Fence) (n : Nat) (hF : F.fn 141) (hro : F.round = none) (hn : 1 ≤ n) :
    Iter F n Tryz.prog 141 #[] (fun v : Int => #[Value.int .i64 v]) (fun (s : Nat) x => s < 3 ∧ x = (s : Int) + 1) (fun s _ => s + 1) (fun s => s = 3) (fun _ _ => True) 0 := by
  intro l J Jx W hJ hJx hRd hY h0
  refine callsIn_of_wp Tryz.func141 rfl hF ?_ hro
  simp only [Tryz.ntmps141, List.size_toArray, List.length_cons, List.length_nil, Nat.reduceAdd, Nat.reduceSub, Array.replicate_succ, Array.replicate_zero, List.push_toArray, List.append_toArray, List.nil_append, List.cons_append]
  gi_wp2
  gi_loopw [2] (fun p wr => ∃ (s : Nat) (X : Nat → Prop), p = .int .i64 ((s : Int) + 1) ∧ s ≤ 3 ∧ J s X wr) (fun p _ => 4 - (intOf p).toNat)
  case atStart => exact ⟨0, _, rfl, by omega, h0⟩
  case round =>
    obtain ⟨s, X, rfl, hs, hJs⟩ := hrel
    by_cases hlt : s < 3
    · obtain ⟨fn, tmps, assign, body, hy, hR⟩ := hY s _ X _ hJs ⟨hlt, rfl⟩
      gi_wp2
      refine hR.mono ?_
      rintro e W' (⟨rfl, hJ', _⟩ | ⟨rfl, hx'⟩)
      · gi_wp2
        go_roundw
        case rel => exact ⟨s + 1, X, by go_num, by omega, hJ'⟩
        case measure => simp [intOf]; omega
      · gi_wp2
        refine bodyPost_ret (results_none rfl _ _ _) rfl ?_
        exact ⟨⟨_, rfl⟩, .inr ⟨X, hx'⟩⟩
    · gi_wp2
      go_end0
      obtain rfl : s = 3 := by omega
      exact ⟨⟨_, rfl⟩, .inl ⟨3, X, rfl, hJs⟩⟩

set_option maxHeartbeats 1000000 in
theorem known_any (v : Int) (w : World) : Calls Tryz.prog 80 #[.int .i64 v] w fun e w' => e = .returned (.bool (known v)) ∧ Below w.heap.size w w' := by
  refine calls_of_wp_marks Tryz.func80 rfl ?_
  simp only [Tryz.ntmps80, List.size_toArray, List.length_cons, List.length_nil, Nat.reduceAdd, Nat.reduceSub, Array.replicate_succ, Array.replicate_zero, List.push_toArray, List.append_toArray, List.nil_append, List.cons_append]
  go_wp2
  go_step3
  go_wp2
  go_step3
  go_wp2
  obtain ⟨W0, hW0⟩ : ∃ W0, W0 = (w.alloc (.cells #[.int .i64 v] 3)).alloc (.cells #[.bool false] 4) := ⟨_, rfl⟩
  rw [← hW0]
  have hsz : W0.heap.size = w.heap.size + 2 := by rw [hW0]; simp
  have hb0 : Below w.heap.size w W0 := by rw [hW0]; exact ((Below.refl _ _).alloc (Nat.le_refl _) _).alloc (by simp) _
  have c0 : W0.cell? ⟨w.heap.size, 0, none⟩ = some (.int .i64 v) := by rw [hW0]; simp
  have c1 : W0.cell? ⟨w.heap.size + 1, 0, none⟩ = some (.bool false) := by rw [hW0]; simp
  have f1 : W0.frozen? ⟨w.heap.size + 1, 0, none⟩ = false := by rw [hW0]; simp
  clear hW0
  refine wp_range (gf := 141) (lb := #[]) rfl (enters_of Tryz.func141 (by kernel_rfl) rfl) (versions_iter Fence.wide 2 trivial rfl (by omega)) (fun _ => rfl)
    (fun s X W => (∀ j : Nat, j < s → v ≠ (j : Int) + 1) ∧ Fr (fun _ => False) W0 X W)
    (fun c X W => c = .exit 0 ∧ known v = true ∧ Fr (fun k => k = w.heap.size + 1) W0 X W ∧ W.cell? ⟨w.heap.size + 1, 0, none⟩ = some (.bool true))
    (fun s X X' W W' h hm hx => ⟨h.1, h.2.step hm hx⟩)
    (fun c s X X' W W' h hm hx => ⟨h.1, h.2.1, h.2.2.1.step hm hx, (h.2.2.1.cell hm (by simp; omega)).trans h.2.2.2⟩)
    (fun _ _ _ _ => trivial) ⟨fun j h => absurd h (Nat.not_lt_zero _), Fr.refl _ _⟩
    (fun x => { tmps := #[.int .i64 v, .pointer (some ⟨w.heap.size, 0, none⟩), .bool false, .pointer (some ⟨w.heap.size + 1, 0, none⟩), .int .i64 x, .func (.func 141) #[] #[], .int .i64 x, undef, undef, undef, undef], defers := [] }) ?assign ?body ?done ?stop
  case assign =>
    intro l x W K hK
    gi_wp2
    exact hK
  case body =>
    rintro l s x X W ⟨hv, hfr⟩ ⟨hs, rfl⟩ hl _
    have d0 : W.cell? ⟨w.heap.size, 0, none⟩ = some (.int .i64 v) := (hfr.2.cell (by simp; omega) (fun h => h)).trans c0
    have d1 : W.cell? ⟨w.heap.size + 1, 0, none⟩ = some (.bool false) := (hfr.2.cell (by simp; omega) (fun h => h)).trans c1
    have e1 : W.frozen? ⟨w.heap.size + 1, 0, none⟩ = false := (hfr.2.frozen (by simp; omega) (fun h => h)).trans f1
    by_cases hx : v = (s : Int) + 1
    · have hk : Hid (known v = true) := by show known v = true; simp [known]; omega
      subst hx
      gi_wp2
      refine ⟨⟨rfl, hk.out, (hfr.wider (fun _ h => h.elim)).mod (Mod.setCell (X := fun k => w.heap.size + 1 = k) W _ _ rfl) (fun _ _ h => h.symm), ?_⟩, Saves.of_mod (Mod.setCell (X := fun k => k = w.heap.size + 1) W _ _ rfl) (fun k _ hX he => ?_)⟩
      · exact World.cell?_setCell_same' _ _ _ (by rw [d1]; rfl)
      · have := hfr.1 k hX; omega
    · gi_wp2
      refine ⟨⟨fun j hj => ?_, hfr⟩, Saves.refl _ _⟩
      by_cases h : j = s
      · rw [h]; exact hx
      · exact hv j (by omega)
  case done =>
    rintro D s X W hD hXD rfl ⟨hv, hfr⟩ hK
    have d1 : W.cell? ⟨w.heap.size + 1, 0, none⟩ = some (.bool false) := (hfr.2.cell (by simp; omega) (fun h => h)).trans c1
    go_wp2
    rw [Exit.noGoto_ret]
    have hn : known v = false := by
      have h1 := hv 0 (by omega); have h2 := hv 1 (by omega); have h3 := hv 2 (by omega)
      simp [known]; omega
    exact end_mark1 hK (results_tmp rfl _ _ _) ⟨by rw [hn]; rfl, below_putObj (hb0.trans (hfr.below (by omega) (fun _ h => h.elim))) (by omega) _⟩
  case stop =>
    rintro D c X W hD hXD ⟨rfl, hk, hfr, d1⟩ hK
    go_wp2
    rw [Exit.noGoto_ret]
    exact end_mark1 hK (results_tmp rfl _ _ _) ⟨by rw [hk]; rfl, below_putObj (hb0.trans (hfr.below (by omega) (fun _ h => by omega))) (by omega) _⟩

/-- May a version be switched to another one? 0, or the error's number. -/
def checkE (a b : Int) : Int := if known a && known b then (if a = b then 131 else 0) else 130

theorem check_any (a b : Int) (w : World) : Calls Tryz.prog 43 #[.int .i64 a, .int .i64 b] w fun e w' => e = .returned (.int .i64 (checkE a b)) ∧ Below w.heap.size w w' := by
  cases ha : known a
  · go_enter Tryz.func43, Tryz.ntmps43
    go_wp2_with (go_at_call 80; refine (known_any _ _).mono ?_; rintro e w' ⟨rfl, hb⟩)
    go_ret
    exact ⟨by simp [checkE, ha], by assumption⟩
  · cases hk : known b
    · go_enter Tryz.func43, Tryz.ntmps43
      go_wp2_with (go_at_call 80; refine (known_any _ _).mono ?_; rintro e w' ⟨rfl, hb⟩)
      go_ret
      exact ⟨by simp [checkE, ha, hk], Below.trans (by assumption) (Below.mono (by assumption) (Below.size (by assumption)))⟩
    · by_cases hab : a = b
      · have hab' : (a == b) = true := by simp [hab]
        go_enter Tryz.func43, Tryz.ntmps43
        go_wp2_with (go_at_call 80; refine (known_any _ _).mono ?_; rintro e w' ⟨rfl, hb⟩)
        go_ret
        exact ⟨by subst hab; simp [checkE, ha], Below.trans (by assumption) (Below.mono (by assumption) (Below.size (by assumption)))⟩
      · have hab' : (a == b) = false := by simp [hab]
        go_enter Tryz.func43, Tryz.ntmps43
        go_wp2_with (go_at_call 80; refine (known_any _ _).mono ?_; rintro e w' ⟨rfl, hb⟩)
        go_ret
        exact ⟨by simp [checkE, ha, hk, hab], Below.trans (by assumption) (Below.mono (by assumption) (Below.size (by assumption)))⟩
end Go.Proofs.YtaopeioebpfdeaaGreatDoor
namespace Go.Proofs.YtaopeioebpfdeaaGreatDoor
open Go Go.RowKit Go.Shelf Go.Extern.Stop Go.Stop Go.Extern
attribute [local go_sem] Oper.semAt_some

/-- A number's four bytes, the least first. -/
def le4 (n : Nat) : List UInt8 := [UInt8.ofNat n, UInt8.ofNat (n / 256), UInt8.ofNat (n / 65536), UInt8.ofNat (n / 16777216)]
theorem le4_length (n : Nat) : (le4 n).length = 4 := rfl
/-- The string of bytes. -/
def bs (l : List UInt8) : ByteArray := ⟨l.toArray⟩
theorem bs_data (l : List UInt8) : (bs l).data.toList = l := by simp [bs]
theorem bs_size (l : List UInt8) : (bs l).size = l.length := by simp [bs, ByteArray.size]
theorem bs_of (s : ByteArray) : bs s.data.toList = s := by cases s; rfl
theorem ofNat_mod (n : Nat) : UInt8.ofNat (n % 256) = UInt8.ofNat n := by
  apply UInt8.toNat_inj.1; simp
theorem toNat_mod (n : Nat) : ((n : Int) % 256).toNat = n % 256 := by omega
theorem strOfNums_le4 (n : Nat) : strOfNums [(n : Int) % 256, (n : Int) / 256 % 256, (n : Int) / 65536 % 256, (n : Int) / 16777216 % 256] = bs (le4 n) := by
  have h1 : ((n : Int) / 256) = ((n / 256 : Nat) : Int) := by omega
  have h2 : ((n : Int) / 65536) = ((n / 65536 : Nat) : Int) := by omega
  have h3 : ((n : Int) / 16777216) = ((n / 16777216 : Nat) : Int) := by omega
  unfold strOfNums bs le4
  rw [h1, h2, h3]
  simp only [List.map_cons, List.map_nil, toNat_mod, ofNat_mod]

theorem text_any (b off cap : Nat) (xs : List Int) (w : World) (hc : ∀ i, i < xs.length → w.cell? ⟨b, off + i, none⟩ = some (.int .u8 (xs.getD i 0))) :
    Calls Tryz.prog 94 #[.slice (some ⟨b, off, none⟩) xs.length cap] w fun e w' => e = .returned (.string (strOfNums xs)) ∧ w' = w := by
  have hk := run_convert_bytes_arg (P := Tryz.prog) w 87 5 Tryz.underlying87 Tryz.underlying5 b off xs.length cap xs rfl hc 9 Tryz.underlying9
  clear hc
  go_enter Tryz.func94, Tryz.ntmps94
  go_wp2
  go_ret
  exact ⟨rfl, rfl⟩

theorem put_any (n : Nat) (w : World) : Calls Tryz.prog 62 #[.int .u32 n] w fun e w' => e = .returned (.string (bs (le4 n))) ∧ Below w.heap.size w w' := by
  rw [← strOfNums_le4]
  go_enter Tryz.func62, Tryz.ntmps62
  go_wp2_with (go_at_call 94; refine (text_any _ 0 _ [(n : Int) % 256, (n : Int) / 256 % 256, (n : Int) / 65536 % 256, (n : Int) / 16777216 % 256] _ (fun i hi => ?_)).mono ?_)
  · obtain rfl | rfl | rfl | rfl : i = 0 ∨ i = 1 ∨ i = 2 ∨ i = 3 := by simp at hi; omega
    all_goals simp
  · rintro e w' ⟨rfl, rfl⟩
    go_wp2
    go_ret
    exact ⟨rfl, (Below.refl _ _).alloc (Nat.le_refl _) _⟩

theorem bs_cat (a b : List UInt8) : bs a ++ bs b = bs (a ++ b) := by
  apply ByteArray.ext; simp [bs]

theorem extract_take (d : List UInt8) (n : Nat) : (bs d).extract 0 n = bs (d.take n) := by
  apply ByteArray.ext; simp [bs, ByteArray.data_extract]
theorem extract_drop (d : List UInt8) (n : Nat) : (bs d).extract n (bs d).size = bs (d.drop n) := by
  apply ByteArray.ext
  simp [bs, ByteArray.data_extract, ByteArray.size]
  exact List.take_of_length_le (by simp)
theorem bs_toList (d : List UInt8) : (bs d).toList = d := by
  rw [ByteArray.toList_eq]; simp [bs]

end Go.Proofs.YtaopeioebpfdeaaGreatDoor
namespace Go.Proofs
open Go.Shelf
def Tryz.lays156_ren : Go.Shelf.Ren := ⟨fun | 156 => 66 | 165 => 98 | 166 => 99 | 169 => 100 | 240 => 128 | 241 => 129 | 276 => 155 | 277 => 156 | n => n, fun | 31 => 97 | 9 => 9 | 3 => 3 | 4 => 4 | 0 => 0 | 20 => 20 | 72 => 171 | 76 => 175 | 70 => 169 | 37 => 87 | 75 => 174 | 127 => 213 | 164 => 254 | 5 => 5 | 80 => 155 | n => n, fun | n => n⟩
theorem Tryz.lays156 : Go.Proofs.Lays.n156 Tryz.prog Tryz.lays156_ren := {
  mixed := by kernel_rfl
  f156 := Tryz.func66.trans (congrArg some (by kernel_rfl))
  f165 := Tryz.func98.trans (congrArg some (by kernel_rfl))
  f166 := Tryz.func99.trans (congrArg some (by kernel_rfl))
  f169 := Tryz.func100.trans (congrArg some (by kernel_rfl))
  f240 := Tryz.func128.trans (congrArg some (by kernel_rfl))
  f241 := Tryz.func129.trans (congrArg some (by kernel_rfl))
  f276 := Tryz.func155.trans (congrArg some (by kernel_rfl))
  f277 := Tryz.func156.trans (congrArg some (by kernel_rfl))
  t0 := Tryz.underlying0
  a0 := Tryz.isAgg0
  z0 := Tryz.sizeOf0
  v0 := Tryz.zeroValue0
  t3 := Tryz.underlying3
  a3 := Tryz.isAgg3
  z3 := Tryz.sizeOf3
  v3 := Tryz.zeroValue3
  t4 := Tryz.underlying4
  a4 := Tryz.isAgg4
  z4 := Tryz.sizeOf4
  v4 := Tryz.zeroValue4
  t9 := Tryz.underlying9
  a9 := Tryz.isAgg9
  z9 := Tryz.sizeOf9
  v9 := Tryz.zeroValue9
  t20 := Tryz.underlying20
  a20 := Tryz.isAgg20
  z20 := Tryz.sizeOf20
  v20 := Tryz.zeroValue20
  t31 := Tryz.underlying97
  a31 := Tryz.isAgg97
  z31 := Tryz.sizeOf97
  v31 := Tryz.zeroValue97
  t37 := Tryz.underlying87
  a37 := Tryz.isAgg87
  z37 := Tryz.sizeOf87
  v37 := Tryz.zeroValue87
  t70 := Tryz.underlying169
  a70 := Tryz.isAgg169
  z70 := Tryz.sizeOf169
  v70 := Tryz.zeroValue169
  t72 := Tryz.underlying171
  a72 := Tryz.isAgg171
  z72 := Tryz.sizeOf171
  v72 := Tryz.zeroValue171
  t75 := Tryz.underlying174
  a75 := Tryz.isAgg174
  z75 := Tryz.sizeOf174
  v75 := Tryz.zeroValue174
  t76 := Tryz.underlying175
  a76 := Tryz.isAgg175
  z76 := Tryz.sizeOf175
  v76 := Tryz.zeroValue175
  t127 := Tryz.underlying213
  a127 := Tryz.isAgg213
  z127 := Tryz.sizeOf213
  v127 := Tryz.zeroValue213
  t164 := Tryz.underlying254
  a164 := Tryz.isAgg254
  z164 := Tryz.sizeOf254
  v164 := Tryz.zeroValue254 }
theorem Tryz.Builder_Extra_156 : Builder.Extra Tryz.prog Tryz.lays156_ren := {
  sizeBuilder := by kernel_rfl
  liesBuilder := by kernel_rfl
  t5 := Tryz.underlying5
  a5 := Tryz.isAgg5
  z5 := Tryz.sizeOf5
  v5 := Tryz.zeroValue5
  infoByte := by kernel_rfl
  cellsByte := by kernel_rfl
  sizeByte := by kernel_rfl
  neB5 := by decide }
open Go.RowKit in
/-- strings.Join: "Join concatenates the elements of its first argument to create a single string. The separator string sep is placed between elements in the resulting string.": HOWEVER MANY ELEMENTS. Below the heap's end the world is as it was. (LAID: no walk: one application.) -/
theorem Tryz.strings_Join (bk o c : Nat) (xs : List ByteArray) (sep : ByteArray) (w : World) (hcells : ∀ (j : Nat) x, xs[j]? = some x → w.cell? ⟨bk, o + j, none⟩ = some (.string x)) (hbk : bk < w.heap.size) (hN : xs.length ≤ 140737488355328) (hcap : xs.length ≤ c) (hlen : (Lib.join (xs.map (·.data.toList)) sep.data.toList).length ≤ 140737488355328) :
    Calls Tryz.prog 66 #[.slice (some ⟨bk, o, none⟩) xs.length c, .string sep] w fun e w' => e = .returned (.string ⟨(Lib.join (xs.map (·.data.toList)) sep.data.toList).toArray⟩) ∧ Below w.heap.size w w' := Any.strings_Join Tryz.lays156 Tryz.Builder_Extra_156 bk o c xs sep w hcells hbk hN hcap hlen
def Tryz.lays125_ren : Go.Shelf.Ren := ⟨fun | 125 => 168 | 128 => 197 | 129 => 198 | n => n, fun | 46 => 55 | 3 => 3 | 51 => 30 | 53 => 22 | 4 => 4 | 5 => 5 | 9 => 9 | n => n, fun | n => n⟩
theorem Tryz.lays125 : Go.Proofs.Lays.n125 Tryz.prog Tryz.lays125_ren := {
  mixed := by kernel_rfl
  f125 := Tryz.func168.trans (congrArg some (by kernel_rfl))
  f128 := Tryz.func197.trans (congrArg some (by kernel_rfl))
  f129 := Tryz.func198.trans (congrArg some (by kernel_rfl))
  t3 := Tryz.underlying3
  a3 := Tryz.isAgg3
  z3 := Tryz.sizeOf3
  v3 := Tryz.zeroValue3
  t4 := Tryz.underlying4
  a4 := Tryz.isAgg4
  z4 := Tryz.sizeOf4
  v4 := Tryz.zeroValue4
  t5 := Tryz.underlying5
  a5 := Tryz.isAgg5
  z5 := Tryz.sizeOf5
  v5 := Tryz.zeroValue5
  t9 := Tryz.underlying9
  a9 := Tryz.isAgg9
  z9 := Tryz.sizeOf9
  v9 := Tryz.zeroValue9
  t46 := Tryz.underlying55
  a46 := Tryz.isAgg55
  z46 := Tryz.sizeOf55
  v46 := Tryz.zeroValue55
  t51 := Tryz.underlying30
  a51 := Tryz.isAgg30
  z51 := Tryz.sizeOf30
  v51 := Tryz.zeroValue30
  t53 := Tryz.underlying22
  a53 := Tryz.isAgg22
  z53 := Tryz.sizeOf22
  v53 := Tryz.zeroValue22 }
/-- bits.Len: "Len returns the minimum number of bits required to represent x; the result is 0 for x == 0.": IT RETURNS 'Lib.bitLen x'; the world is as it was. (A uint has 64 bits in the model.) ITS CALLEE bits.Len64 IS MET BY ITS OWN CONTRACT OFF THE SHELF (lay that first). (LAID: no walk: one application.) -/
theorem Tryz.bits_Len (x : Int) (w : World) (h0 : 0 ≤ x) (h1 : x ≤ 18446744073709551615) :
    Calls Tryz.prog 168 #[.int .u64 x] w fun e w' => e = .returned (.int .i64 (Lib.bitLen x.toNat)) ∧ w' = w := Any.bits_Len Tryz.lays125 x w h0 h1
def Tryz.lays103_ren : Go.Shelf.Ren := ⟨fun | 103 => 181 | 210 => 202 | 206 => 211 | n => n, fun | 9 => 9 | 4 => 4 | 24 => 46 | 3 => 3 | n => n, fun | n => n⟩
theorem Tryz.lays103 : Go.Proofs.Lays.n103 Tryz.prog Tryz.lays103_ren := {
  mixed := by kernel_rfl
  f103 := Tryz.func181.trans (congrArg some (by kernel_rfl))
  f206 := Tryz.func211.trans (congrArg some (by kernel_rfl))
  f210 := Tryz.func202.trans (congrArg some (by kernel_rfl))
  t3 := Tryz.underlying3
  a3 := Tryz.isAgg3
  z3 := Tryz.sizeOf3
  v3 := Tryz.zeroValue3
  t4 := Tryz.underlying4
  a4 := Tryz.isAgg4
  z4 := Tryz.sizeOf4
  v4 := Tryz.zeroValue4
  t9 := Tryz.underlying9
  a9 := Tryz.isAgg9
  z9 := Tryz.sizeOf9
  v9 := Tryz.zeroValue9
  t24 := Tryz.underlying46
  a24 := Tryz.isAgg46
  z24 := Tryz.sizeOf46
  v24 := Tryz.zeroValue46 }
open Go.RowKit in
/-- strings.CutPrefix: "CutPrefix returns s without the provided leading prefix string and reports whether it found the prefix. If s doesn't start with prefix, CutPrefix returns s, false. If prefix is the empty string, CutPrefix returns s, true.": IT RETURNS '(Lib.trimPrefix s p, Lib.hasPrefix s p)'; the world is as it was. (LAID: no walk: one application.) -/
theorem Tryz.strings_CutPrefix (s p : ByteArray) (w : World) :
    Calls Tryz.prog 181 #[.string s, .string p] w fun e w' => e = .returned (.tuple #[.string ⟨(Lib.trimPrefix s.data.toList p.data.toList).toArray⟩, .bool (Lib.hasPrefix s.data.toList p.data.toList)]) ∧ w' = w := Any.strings_CutPrefix Tryz.lays103 s p w
def Tryz.lays104_ren : Go.Shelf.Ren := ⟨fun | 104 => 178 | 211 => 201 | 207 => 210 | n => n, fun | 9 => 9 | 4 => 4 | 24 => 46 | 3 => 3 | n => n, fun | n => n⟩
theorem Tryz.lays104 : Go.Proofs.Lays.n104 Tryz.prog Tryz.lays104_ren := {
  mixed := by kernel_rfl
  f104 := Tryz.func178.trans (congrArg some (by kernel_rfl))
  f207 := Tryz.func210.trans (congrArg some (by kernel_rfl))
  f211 := Tryz.func201.trans (congrArg some (by kernel_rfl))
  t3 := Tryz.underlying3
  a3 := Tryz.isAgg3
  z3 := Tryz.sizeOf3
  v3 := Tryz.zeroValue3
  t4 := Tryz.underlying4
  a4 := Tryz.isAgg4
  z4 := Tryz.sizeOf4
  v4 := Tryz.zeroValue4
  t9 := Tryz.underlying9
  a9 := Tryz.isAgg9
  z9 := Tryz.sizeOf9
  v9 := Tryz.zeroValue9
  t24 := Tryz.underlying46
  a24 := Tryz.isAgg46
  z24 := Tryz.sizeOf46
  v24 := Tryz.zeroValue46 }
open Go.RowKit in
/-- strings.CutSuffix: "CutSuffix returns s without the provided ending suffix string and reports whether it found the suffix. If s doesn't end with suffix, CutSuffix returns s, false. If suffix is the empty string, CutSuffix returns s, true.": IT RETURNS '(Lib.trimSuffix s p, Lib.hasSuffix s p)'; the world is as it was. (LAID: no walk: one application.) -/
theorem Tryz.strings_CutSuffix (s p : ByteArray) (w : World) (hs : s.size ≤ 9223372036854775807) :
    Calls Tryz.prog 178 #[.string s, .string p] w fun e w' => e = .returned (.tuple #[.string ⟨(Lib.trimSuffix s.data.toList p.data.toList).toArray⟩, .bool (Lib.hasSuffix s.data.toList p.data.toList)]) ∧ w' = w := Any.strings_CutSuffix Tryz.lays104 s p w hs
def Tryz.lays122_ren : Go.Shelf.Ren := ⟨fun | 122 => 170 | 215 => 199 | n => n, fun | 3 => 3 | 4 => 4 | n => n, fun | n => n⟩
theorem Tryz.lays122 : Go.Proofs.Lays.n122 Tryz.prog Tryz.lays122_ren := {
  mixed := by kernel_rfl
  f122 := Tryz.func170.trans (congrArg some (by kernel_rfl))
  f215 := Tryz.func199.trans (congrArg some (by kernel_rfl))
  t3 := Tryz.underlying3
  a3 := Tryz.isAgg3
  z3 := Tryz.sizeOf3
  v3 := Tryz.zeroValue3
  t4 := Tryz.underlying4
  a4 := Tryz.isAgg4
  z4 := Tryz.sizeOf4
  v4 := Tryz.zeroValue4 }
open Go.RowKit in
/-- cmp.Compare at int: "Compare returns -1 if x is less than y, 0 if x equals y, +1 if x is greater than y.": IT RETURNS 'Lib.compareInt x y'; the world is as it was. (LAID: no walk: one application.) -/
theorem Tryz.cmp_Compare_int (x y : Int) (w : World) :
    Calls Tryz.prog 170 #[.int .i64 x, .int .i64 y] w fun e w' => e = .returned (.int .i64 (Lib.compareInt x y)) ∧ w' = w := Any.cmp_Compare_int Tryz.lays122 x y w
def Tryz.lays107_ren : Go.Shelf.Ren := ⟨fun | 107 => 107 | 108 => 135 | n => n, fun | 28 => 68 | 3 => 3 | 4 => 4 | 0 => 0 | n => n, fun | n => n⟩
theorem Tryz.lays107 : Go.Proofs.Lays.n107 Tryz.prog Tryz.lays107_ren := {
  mixed := by kernel_rfl
  f107 := Tryz.func107.trans (congrArg some (by kernel_rfl))
  f108 := Tryz.func135.trans (congrArg some (by kernel_rfl))
  t0 := Tryz.underlying0
  a0 := Tryz.isAgg0
  z0 := Tryz.sizeOf0
  v0 := Tryz.zeroValue0
  t3 := Tryz.underlying3
  a3 := Tryz.isAgg3
  z3 := Tryz.sizeOf3
  v3 := Tryz.zeroValue3
  t4 := Tryz.underlying4
  a4 := Tryz.isAgg4
  z4 := Tryz.sizeOf4
  v4 := Tryz.zeroValue4
  t28 := Tryz.underlying68
  a28 := Tryz.isAgg68
  z28 := Tryz.sizeOf68
  v28 := Tryz.zeroValue68 }
open Go.Lib in
/-- The same at a slice of length 0, a nil one too. (LAID: no walk: one application.) -/
theorem Tryz.slices_Contains_int_empty (a : Option Addr) (c : Nat) (x : Int) (w : World) :
    Calls Tryz.prog 107 #[.slice a 0 c, .int .i64 x] w fun e w' => e = .returned (.bool false) ∧ w' = w := Any.slices_Contains_int_empty Tryz.lays107 a c x w
def Tryz.laysNm215_ren : Go.Shelf.Ren := ⟨fun | 15 => 30 | n => n, fun | 22 => 68 | 3 => 3 | 4 => 4 | n => n, fun | n => n⟩
theorem Tryz.laysNm215 : Go.Proofs.Lays2.n15 Tryz.prog Tryz.laysNm215_ren := {
  mixed := by kernel_rfl
  f15 := Tryz.func30.trans (congrArg some (by kernel_rfl))
  t3 := Tryz.underlying3
  a3 := Tryz.isAgg3
  z3 := Tryz.sizeOf3
  v3 := Tryz.zeroValue3
  t4 := Tryz.underlying4
  a4 := Tryz.isAgg4
  z4 := Tryz.sizeOf4
  v4 := Tryz.zeroValue4
  t22 := Tryz.underlying68
  a22 := Tryz.isAgg68
  z22 := Tryz.sizeOf68
  v22 := Tryz.zeroValue68
  i3 := by kernel_rfl }
open Go.RowKit Go.Lib in
/-- The same at nil: nil comes back; the world is as it was. (LAID: no walk: one application.) -/
theorem Tryz.slices_Clone_int_nil (n c : Nat) (w : World) :
    Calls Tryz.prog 30 #[.slice none n c] w fun e w' => e = .returned (.slice none 0 0) ∧ w' = w := Any.slices_Clone_int_nil Tryz.laysNm215 n c w
end Go.Proofs
