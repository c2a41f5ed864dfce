/- PROVED HERE: WALK: journal.first. Condition: the text is no longer than Go lets it be. WALK: journal.join. Condition: the texts can be read, and are not too long together. WALKS: journal.places. No condition. WALKS: journal's iterator over records, Record. Condition: the text is no longer than Go lets it be. A SLICE OF BYTES AT THE HEAD OF A BLOCK THAT MAY BE LONGER THAN ITS CAPACITY (what a slice expression with three numbers leaves), and what an append does to it. No condition. WALKS: store's New, lay, append. Condition: the store is one that calls have made. -/
import Derived.Lib.ConvBytes
import Derived.Test.YtaopeioebpfdeaaGreatDoorK04
import Derived.Test.YtaopeioebpfdeaaGreatDoorK06
import Derived.Test.YtaopeioebpfdeaaGreatDoorK15
import Derived.Test.YtaopeioebpfdeaaGreatDoorK17
namespace Go.Proofs.YtaopeioebpfdeaaGreatDoor
open Go Go.RowKit Go.Shelf Go.Extern.Stop Go.Stop Go.Extern
attribute [local go_sem] Oper.semAt_some wide_fn wide_depth

theorem extract_mid (d : List UInt8) (a b : Nat) : (bs d).extract a b = bs ((d.drop a).take (b - a)) := by
  apply ByteArray.ext; simp [bs, ByteArray.data_extract]
/-- What first comes to. -/
def firstV (r : List UInt8 × Nat) : Value := .tuple #[.string (bs r.1), .int .i64 (r.2 : Nat)]
set_option maxHeartbeats 1000000 in
theorem first_any (s : List UInt8) (hl : s.length ≤ 1073741824) (w : World) : Calls Tryz.prog 146 #[.string (bs s)] w fun e w' => e = .returned (firstV (firstP s)) ∧ Below w.heap.size w w' := by
  have hsz := bs_size s
  by_cases h9 : s.length < 9
  · have hf : firstP s = ([], 0) := by unfold firstP; rw [if_pos h9]
    rw [hf]
    have t0 : decide (((bs s).size : Int) < 9) = true := by rw [hsz]; simp; omega
    replace hsz : Hid (_ = _) := hsz
    replace hf : Hid (_ = _) := hf
    go_enter Tryz.func146, Tryz.ntmps146
    go_wp2
    go_ret2
    exact ⟨rfl, Below.refl _ _⟩
  have t0 : decide (((bs s).size : Int) < 9) = false := by rw [hsz]; simp; omega
  have hks : 0 < (bs s).size := by omega
  obtain ⟨x, hx⟩ : ∃ x, (bs s)[0] = x := ⟨_, rfl⟩
  have hhd : s.head? = some x := by
    cases s with
    | nil => simp at h9
    | cons y s => exact congrArg some hx
  by_cases h52 : x = 52
  · subst h52
    have hex := extract_mid s 1 5
    rw [show 5 - 1 = 4 from rfl] at hex
    have hdl : ((s.drop 1).take 4).length = 4 := by rw [List.length_take, List.length_drop]; omega
    have hf0 : firstP s = if 4096 < getP ((s.drop 1).take 4) then ([], 0) else if s.length < 9 + getP ((s.drop 1).take 4) then ([], 0) else match openP (s.take (9 + getP ((s.drop 1).take 4))) with
        | none => ([], 0)
        | some b => (b.drop 5, 9 + getP ((s.drop 1).take 4)) := by
      unfold firstP
      rw [if_neg h9, if_neg (by rw [hhd]; simp)]
      rfl
    generalize (s.drop 1).take 4 = d at *
    have hget := fun W => get_any d (by omega) W
    have hgl : getP d < 4294967296 := by
      unfold getP; rw [if_pos hdl]
      have := getN_lt d
      rw [hdl] at this
      exact Nat.lt_of_lt_of_le this (by decide)
    have hgv : getV d = .tuple #[.int .u32 (getP d : Nat), .int .i64 0] := by unfold getV; rw [if_pos hdl]
    rw [hgv] at hget
    clear hgv
    generalize getP d = n at *
    replace hget : Hid (∀ _, _) := hget
    replace hhd : Hid (_ = _) := hhd
    have b5 : (5 : Int) ≤ ((bs s).size : Int) := by omega
    have t1 : (((52 : UInt8).toNat : Int) != 52) = false := rfl
    have c5 : ¬ (bs s).size < 5 := by omega
    by_cases h40 : 4096 < n
    · rw [if_pos h40] at hf0
      rw [hf0]
      have t2 : decide ((4096 : Int) < (n : Int)) = true := by simp; omega
      replace hsz : Hid (_ = _) := hsz
      replace hf0 : Hid (_ = _) := hf0
      go_enter Tryz.func146, Tryz.ntmps146
      go_wp2_with fail
      refine (hget.out _).mono ?_
      rintro e w1 ⟨rfl, hb1⟩
      go_wp2
      go_ret2
      exact ⟨rfl, hb1⟩
    · rw [if_neg h40] at hf0
      have t2 : decide ((4096 : Int) < (n : Int)) = false := by simp; omega
      have hw5 : IntKind.i64.wrap (5 + (n : Int)) = 5 + n := by rw [IntKind.wrap_i64]; omega
      have hw9 : IntKind.i64.wrap (5 + (n : Int) + 4) = 5 + n + 4 := by rw [IntKind.wrap_i64]; omega
      have hwn : IntKind.i64.wrap (n : Int) = n := by rw [IntKind.wrap_i64]; omega
      by_cases h9n : s.length < 9 + n
      · rw [if_pos h9n] at hf0
        rw [hf0]
        have t3 : decide (((bs s).size : Int) < 5 + (n : Int) + 4) = true := by simp; omega
        replace hsz : Hid (_ = _) := hsz
        replace hf0 : Hid (_ = _) := hf0
        go_enter Tryz.func146, Tryz.ntmps146
        go_wp2_with fail
        refine (hget.out _).mono ?_
        rintro e w1 ⟨rfl, hb1⟩
        go_wp2
        go_ret2
        exact ⟨rfl, hb1⟩
      · rw [if_neg h9n] at hf0
        have t3 : decide (((bs s).size : Int) < 5 + (n : Int) + 4) = false := by simp; omega
        have hwr : (5 + (n : Int) + 4).toNat = 9 + n := by omega
        have hx0 := extract_take s (9 + n)
        have y1 : 5 + (n : Int) + 4 ≤ ((bs s).size : Int) := by omega
        have y0 : (0 : Int) ≤ 5 + (n : Int) + 4 := by omega
        have htl : (s.take (9 + n)).length = 9 + n := by rw [List.length_take]; omega
        generalize s.take (9 + n) = u at *
        have hop := fun W => open_any u (by omega) W
        replace hop : Hid (∀ _, _) := hop
        rcases ho : openP u with _ | b
        · rw [ho] at hf0 hop
          simp only at hf0
          rw [hf0]
          unfold openV at hop
          replace hsz : Hid (_ = _) := hsz
          replace hf0 : Hid (_ = _) := hf0
          replace htl : Hid (_ = _) := htl
          replace ho : Hid (_ = _) := ho
          go_enter Tryz.func146, Tryz.ntmps146
          go_wp2_with fail
          refine (hget.out _).mono ?_
          rintro e w1 ⟨rfl, hb1⟩
          go_wp2_with fail
          refine (hop.out _).mono ?_
          rintro e w2 ⟨rfl, hb2⟩
          go_wp2
          go_ret2
          exact ⟨rfl, pb_trans hb1 hb2⟩
        · rw [ho] at hf0 hop
          simp only at hf0
          rw [hf0]
          unfold openV at hop
          have hbl : b.length = 5 + n := by
            unfold openP at ho
            rw [htl] at ho
            split at ho
            · exact absurd ho (by simp)
            · split at ho
              · obtain rfl := Option.some.inj ho
                rw [List.length_take]; omega
              · exact absurd ho (by simp)
          have hbs := bs_size b
          have z5 : (5 : Int) ≤ ((bs b).size : Int) := by omega
          have hxb := extract_drop b 5
          replace hsz : Hid (_ = _) := hsz
          replace hf0 : Hid (_ = _) := hf0
          replace htl : Hid (_ = _) := htl
          replace ho : Hid (_ = _) := ho
          replace hbl : Hid (_ = _) := hbl
          replace hbs : Hid (_ = _) := hbs
          go_enter Tryz.func146, Tryz.ntmps146
          go_wp2_with fail
          refine (hget.out _).mono ?_
          rintro e w1 ⟨rfl, hb1⟩
          go_wp2_with fail
          refine (hop.out _).mono ?_
          rintro e w2 ⟨rfl, hb2⟩
          go_wp2
          go_ret2
          refine ⟨?_, pb_trans hb1 hb2⟩
          have hv : firstV (b.drop 5, 9 + n) = .tuple #[.string (bs (b.drop 5)), .int .i64 (5 + (n : Int) + 4)] := by
            unfold firstV
            rw [show ((9 + n : Nat) : Int) = 5 + (n : Int) + 4 by omega]
          rw [hv]
          rfl
  · have hf : firstP s = ([], 0) := by
      unfold firstP
      rw [if_neg h9, if_pos]
      rw [hhd]; simpa using h52
    rw [hf]
    have t1 : ((x.toNat : Int) != 52) = true := by
      simp only [bne_iff_ne, ne_eq]
      intro hc
      exact h52 (UInt8.toNat_inj.1 (by simpa using (by omega : x.toNat = 52)))
    replace hsz : Hid (_ = _) := hsz
    replace hf : Hid (_ = _) := hf
    replace hhd : Hid (_ = _) := hhd
    go_enter Tryz.func146, Tryz.ntmps146
    go_wp2
    go_ret2
    exact ⟨rfl, Below.refl _ _⟩
end Go.Proofs.YtaopeioebpfdeaaGreatDoor
namespace Go.Proofs.YtaopeioebpfdeaaGreatDoor
open Go Go.RowKit Go.Shelf Go.Extern.Stop Go.Stop Go.Extern
attribute [local go_sem] Oper.semAt_some wide_fn wide_depth

set_option maxHeartbeats 1000000 in
theorem jnJoin_any (v : Value) (ts : List (List UInt8)) (w : World) (hv : Src w v 1 ts.length (texts ts)) (h0 : 0 < ts.length) (hl : ts.length ≤ 1000000) (hb : plen ts ts.length ≤ 1073741824) : Calls Tryz.prog 154 #[v] w fun e w' =>
    e = .returned (.string (bs ts.flatten)) ∧ w' = w := by
  rcases hv.2 with ⟨rfl, hn⟩ | ⟨b, off, cap, rfl, hc, hr⟩
  · omega
  · clear hv h0
    go_enter Tryz.func154, Tryz.ntmps154
    go_wp2
    go_loop [3, 8] (fun p3 p8 => ∃ k : Nat, k ≤ ts.length ∧ p8 = .int .i64 k ∧ p3 = .string (bs (ts.take k).flatten)) (fun _ p8 => ts.length - (intOf p8).toNat)
    case atStart => exact ⟨0, Nat.zero_le _, rfl, by simp; rfl⟩
    case round =>
      obtain ⟨k, hk, rfl, rfl⟩ := hrel
      by_cases hlt : k < ts.length
      · obtain ⟨x, hx⟩ : ∃ x, ts[k]? = some x := ⟨_, List.getElem?_eq_getElem hlt⟩
        have hc0 : w.cell? ⟨b, off + k, none⟩ = some (.string (bs x)) := hr k _ (by simp [texts, hx])
        have hl2 := plen_le ts (k + 1)
        have hfl := take_flat ts k x hx
        rw [plen_succ hx] at hl2
        have hadd := bs_add (ts.take k).flatten x (by have h2 : plen ts k = (ts.take k).flatten.length := rfl; omega) w
        rw [← hfl] at hadd
        replace hfl : Hid (_ = _) := hfl
        replace hx : Hid (_ = _) := hx
        clear hr
        go_wp2
        go_round
        case rel => exact ⟨k + 1, by omega, by go_num, rfl⟩
        case measure => simp [intOf]; omega
      · obtain rfl : k = ts.length := by omega
        rw [List.take_length]
        clear hr
        go_wp2
        go_ret
        exact ⟨rfl, rfl⟩
end Go.Proofs.YtaopeioebpfdeaaGreatDoor
namespace Go.Proofs.YtaopeioebpfdeaaGreatDoor
open Go Go.RowKit Go.Shelf Go.Extern.Stop Go.Stop Go.Extern
attribute [local go_sem] Oper.semAt_some wide_fn wide_depth

theorem places_any (s : ByteArray) (w : World) : Calls Tryz.prog 118 #[.string s] w fun e w' =>
    e = .returned (.func (.func 145) #[] #[.pointer (some ⟨w.heap.size, 0, none⟩)]) ∧ w' = w.alloc (.cells #[.string s] 9) := by
  go_enter Tryz.func118, Tryz.ntmps118
  go_wp2
  go_ret
  exact ⟨rfl, rfl⟩
end Go.Proofs.YtaopeioebpfdeaaGreatDoor
namespace Go.Proofs.YtaopeioebpfdeaaGreatDoor
open Go Go.RowKit Go.Shelf Go.Extern.Stop Go.Stop Go.Extern
attribute [local go_sem] Oper.semAt_some wide_fn wide_depth

theorem firstP_size (s : List UInt8) : (firstP s).2 = 0 ∨ (9 ≤ (firstP s).2 ∧ (firstP s).2 ≤ s.length) := by
  unfold firstP
  split
  · exact .inl rfl
  · split
    · exact .inl rfl
    · split
      · exact .inl rfl
      · split
        · exact .inl rfl
        · split
          · exact .inl rfl
          · right; simp only; omega
theorem firstP_data (s : List UInt8) : (firstP s).1.length ≤ s.length := by
  unfold firstP
  split
  · simp
  · split
    · simp
    · split
      · simp
      · split
        · simp
        · rename_i h9 _ _ h
          split
          · simp
          · rename_i b hb
            have : b.length ≤ s.length := by
              unfold openP at hb
              split at hb
              · cases hb
              · split at hb
                · cases hb; simp only [List.length_take]; omega
                · cases hb
            simp only [List.length_drop]; omega
def strLen (v : Value) : Nat := match v with | .string b => b.size | _ => 0
/-- The pair that places yields. -/
def placeV (x : List UInt8 × Nat) : Array Value := #[.string (bs x.1), .int .i64 (x.2 : Nat)]
set_option maxRecDepth 8000 in
set_option maxHeartbeats 1000000 in
theorem places_iter (cb : Nat) (s : List UInt8) (hl : s.length ≤ 1073741824) :
    Iter Fence.wide 2 Tryz.prog 145 #[.pointer (some ⟨cb, 0, none⟩)] placeV
      (fun (r : List UInt8 × Bool) x => r.2 = false ∧ x = firstP r.1 ∧ r.1.length ≤ s.length) (fun r x => (r.1.drop x.2, decide (x.2 = 0))) (fun r => r.2 = true)
      (fun _ W => Blk W cb #[.string (bs s)] 9) (s, false) := by
  intro lp J Jx W hJ hJx hRd hY h0
  have e0 := (hRd _ _ _ h0).cell
  have hF : Fence.wide.fn 145 := trivial
  have hro : Fence.wide.round = none := rfl
  refine callsIn_of_wp Tryz.func145 rfl hF ?_ hro
  simp only [Tryz.ntmps145, List.size_toArray, List.length_cons, List.length_nil, Nat.reduceAdd, Nat.reduceSub, Array.replicate_succ, Array.replicate_zero, List.push_toArray, List.append_toArray, List.nil_append, List.cons_append]
  gi_wp2
  gi_loopw [3] (fun p3 wr => ∃ (r : List UInt8) (X : Nat → Prop), p3 = .string (bs r) ∧ r.length ≤ s.length ∧ J (r, false) X wr) (fun p3 _ => strLen p3)
  case atStart => exact ⟨s, _, rfl, Nat.le_refl _, h0⟩
  case round =>
    obtain ⟨r, X, rfl, hr, hJs⟩ := hrel
    clear e0
    have hsz := bs_size r
    have hfs := firstP_size r
    have hfd := firstP_data r
    obtain ⟨⟨d, n⟩, hf⟩ : ∃ x, firstP r = x := ⟨_, rfl⟩
    rw [hf] at hfs hfd
    simp only at hfs hfd
    have hcall := fun W => first_any r (by omega) W
    rw [hf] at hcall
    unfold firstV at hcall
    simp only at hcall
    replace hcall : Hid (∀ _, _) := hcall
    gi_wp2_with fail
    refine (callsIn_wide.2 (hcall.out _)).mono ?_
    rintro e w1 ⟨rfl, hb1⟩
    have hJ1 : J (r, false) X w1 := hJ _ _ _ _ _ hJs (Mod.of_below X hb1) (fun k h => .inl h)
    obtain ⟨fn, tmps, assign, body, hy, hR⟩ := hY (r, false) (d, n) X w1 hJ1 ⟨rfl, hf.symm, hr⟩
    unfold placeV at hy
    simp only at hy
    replace hf : Hid (_ = _) := hf
    by_cases hn : n = 0
    · subst hn
      have t0 : ((0 : Int) == 0) = true := rfl
      rw [show ((0 : Nat) : Int) = 0 from rfl] at hy
      replace hsz : Hid (_ = _) := hsz
      gi_wp2
      refine hR.mono ?_
      rintro e W' (⟨rfl, hJ', -⟩ | ⟨rfl, hx'⟩)
      · clear hR hy
        gi_wp2
        refine bodyPost_ret (results_none rfl _ _ _) rfl ?_
        exact ⟨⟨_, rfl⟩, .inl ⟨_, _, rfl, hJ'⟩⟩
      · gi_wp2
        refine bodyPost_ret (results_none rfl _ _ _) rfl ?_
        exact ⟨⟨_, rfl⟩, .inr ⟨_, hx'⟩⟩
    · have t0 : ((n : Int) == 0) = false := by simpa using hn
      have hn9 : 9 ≤ n ∧ n ≤ r.length := by omega
      have y1 : (n : Int) ≤ ((bs r).size : Int) := by omega
      have hx := extract_drop r n
      replace hsz : Hid (_ = _) := hsz
      gi_wp2
      refine hR.mono ?_
      rintro e W' (⟨rfl, hJ', -⟩ | ⟨rfl, hx'⟩)
      · clear hR hy
        gi_wp2
        go_roundw
        case rel => exact ⟨r.drop n, _, rfl, by simp; omega, by simpa [hn] using hJ'⟩
        case measure => simp [strLen, bs_size]; omega
      · gi_wp2
        refine bodyPost_ret (results_none rfl _ _ _) rfl ?_
        exact ⟨⟨_, rfl⟩, .inr ⟨_, hx'⟩⟩

theorem join3_any (b : Nat) (x y z : List UInt8) (w : World) (h0 : w.cell? ⟨b, 0, none⟩ = some (.string (bs x))) (h1 : w.cell? ⟨b, 1, none⟩ = some (.string (bs y))) (h2 : w.cell? ⟨b, 2, none⟩ = some (.string (bs z)))
    (hl : x.length + y.length + z.length ≤ 1073741824) : Calls Tryz.prog 154 #[.slice (some ⟨b, 0, none⟩) 3 3] w fun e w' => e = .returned (.string (bs (x ++ (y ++ z)))) ∧ w' = w := by
  have hsrc : Src w (.slice (some ⟨b, 0, none⟩) 3 3) 1 [x, y, z].length (texts [x, y, z]) := by
    refine ⟨rfl, .inr ⟨b, 0, 3, rfl, Nat.le_refl _, fun j u hu => ?_⟩⟩
    match j, hu with
    | 0, hu => cases hu; exact h0
    | 1, hu => cases hu; exact h1
    | 2, hu => cases hu; exact h2
  refine (jnJoin_any _ [x, y, z] w hsrc (by simp) (by simp) (by simp [plen]; omega)).mono ?_
  rintro e w' ⟨rfl, rfl⟩
  exact ⟨by simp, rfl⟩
theorem conv_one (k : UInt8) (W : World) (b : Nat) (h : W.cell? ⟨b, 0, none⟩ = some (.int .u8 (k.toNat : Int))) : (convert 87 9 (.slice (some ⟨b, 0, none⟩) 1 1)).run Tryz.prog W = .ok (.string (bs [k])) W := by
  rw [run_convert_bytes_arg W 87 5 Tryz.underlying87 Tryz.underlying5 b 0 1 1 [(k.toNat : Int)] rfl (fun i hi => by obtain rfl : i = 0 := (by omega); exact h) 9 Tryz.underlying9]
  have : strOfNums [(k.toNat : Int)] = bs [k] := by unfold strOfNums bs; simp
  rw [this]
/-- What Record comes to. -/
def recordV (r : List UInt8 × Int) : Value := .tuple #[.string (bs r.1), .int .i64 r.2]
set_option maxRecDepth 8000 in
set_option maxHeartbeats 1000000 in
theorem record_any (d : List UInt8) (hl : d.length ≤ 1073741000) (w : World) : Calls Tryz.prog 126 #[.string (bs d)] w fun e w' => e = .returned (recordV (recordP d)) ∧ Below w.heap.size w w' := by
  have hsz := bs_size d
  by_cases h : 4096 < d.length
  · have hr : recordP d = ([], 30) := by unfold recordP; rw [if_pos h]
    rw [hr]
    have t0 : decide ((4096 : Int) < ((bs d).size : Int)) = true := by rw [hsz]; simp; omega
    replace hsz : Hid (_ = _) := hsz
    replace hr : Hid (_ = _) := hr
    go_enter Tryz.func126, Tryz.ntmps126
    go_wp2
    go_ret2
    exact ⟨rfl, Below.refl _ _⟩
  · have hr : recordP d = (sealP ([52] ++ (le4 d.length ++ d)), 0) := by unfold recordP; rw [if_neg h, List.append_assoc]
    rw [hr]
    have t0 : decide ((4096 : Int) < ((bs d).size : Int)) = false := by rw [hsz]; simp; omega
    have hwr : IntKind.u32.wrap ((bs d).size : Int) = ((d.length : Nat) : Int) := by rw [IntKind.wrap_u32, hsz]; omega
    have hseal := fun W => seal_any ([52] ++ (le4 d.length ++ d)) (by simp [le4_length]; omega) W
    have hjl : ([52] : List UInt8).length + (le4 d.length).length + d.length ≤ 1073741824 := by simp [le4_length]; omega
    have hcv : ∀ (W : World) (b : Nat), W.cell? ⟨b, 0, none⟩ = some (.int .u8 52) → (convert 87 9 (.slice (some ⟨b, 0, none⟩) 1 1)).run Tryz.prog W = .ok (.string (bs [52])) W := conv_one 52
    unfold recordV
    replace hsz : Hid (_ = _) := hsz
    replace hr : Hid (_ = _) := hr
    replace hseal : Hid (∀ _, _) := hseal
    go_enter Tryz.func126, Tryz.ntmps126
    go_wp2_with fail
    go_region_with (first
      | (go_at_call 62; (with_reducible refine (put_any _ _).mono ?_); rintro e w1 ⟨rfl, hb⟩; have hz := hb.size; obtain ⟨hcA, hfA⟩ := bcell hb)
      | (go_at_call 154; (with_reducible refine (join3_any _ [52] (le4 d.length) d _ (by simp) (by simp) (by simp) hjl).mono ?_); rintro e w2 ⟨rfl, rfl⟩)
      | (go_at_call 153; refine (hseal.out _).mono ?_; rintro e w3 ⟨rfl, hb3⟩))
    all_goals go_wp2
    all_goals go_ret2
    all_goals exact ⟨rfl, by (repeat (first | exact Below.refl _ _ | with_reducible assumption | refine pb_alloc ?_ _ | refine pb_drew ?_ | refine pb_drewN ?_ _ | refine pb_set ?_ (by simp; try omega) _ | refine pb_trans ?_ (by with_reducible assumption)))⟩
end Go.Proofs.YtaopeioebpfdeaaGreatDoor
namespace Go.Proofs.YtaopeioebpfdeaaGreatDoor
open Go Go.RowKit

/-- The slice v of n bytes holds xs; the block may be longer than the capacity. -/
def RowW (w : World) (e : TypeId) (v : Value) (n : Nat) (xs : List Value) : Prop :=
  xs.length = n ∧ ((v = .slice none 0 0 ∧ n = 0) ∨
   ∃ g cap cur, v = .slice (some ⟨g, 0, none⟩) n cap ∧ w.heap[g]? = some (.cells cur e (0, 0)) ∧ n ≤ cap ∧ cap ≤ maxLen ∧ cap ≤ cur.size ∧ cur.toList.take n = xs)
theorem rowW_nil (w : World) (e : TypeId) : RowW w e (.slice none 0 0) 0 [] := ⟨rfl, .inl ⟨rfl, rfl⟩⟩
theorem Row.wide {w : World} {e : TypeId} {v : Value} {n : Nat} {xs : List Value} (h : Row w e 1 v n xs) : RowW w e v n xs := by
  refine ⟨by simpa using h.1, ?_⟩
  rcases h.2 with h | ⟨g, cap, cur, rfl, -, hg, hc, hm, hs, ht⟩
  · exact .inl h
  · exact .inr ⟨g, cap, cur, rfl, hg, hc, hm, by omega, by simpa using ht⟩
theorem RowW.lt {w : World} {e : TypeId} {v : Value} {n : Nat} {xs : List Value} (h : RowW w e v n xs) {g : Nat} (hg : v.ownBlock = some g) : g < w.heap.size := by
  rcases h.2 with ⟨rfl, _⟩ | ⟨g', cap, cur, rfl, hgg, _⟩
  · cases hg
  · cases hg; exact (Array.getElem?_eq_some_iff.1 hgg).1
theorem RowW.kept {w w' : World} {e : TypeId} {v : Value} {n : Nat} {xs : List Value} (h : RowW w e v n xs) (hb : ∀ g, v.ownBlock = some g → w'.heap[g]? = w.heap[g]?) : RowW w' e v n xs := by
  refine ⟨h.1, ?_⟩
  rcases h.2 with h2 | ⟨g, cap, cur, rfl, hg, r⟩
  · exact .inl h2
  · exact .inr ⟨g, cap, cur, rfl, (hb g rfl).trans hg, r⟩
theorem RowW.type {w : World} {e : TypeId} {v : Value} {n : Nat} {xs : List Value} (h : RowW w e v n xs) {g : Nat} (hg : v.ownBlock = some g) : ∃ cur, w.heap[g]? = some (.cells cur e (0, 0)) := by
  rcases h.2 with ⟨rfl, _⟩ | ⟨g', cap, cur, rfl, hgg, _⟩
  · cases hg
  · cases hg; exact ⟨cur, hgg⟩
theorem RowW.ne_blk {w : World} {e : TypeId} {v : Value} {n : Nat} {xs : List Value} {B : Nat} {cs : Array Value} {T : TypeId} (h : RowW w e v n xs) (hB : Blk w B cs T) (hT : e ≠ T) {g : Nat} (hg : v.ownBlock = some g) : g ≠ B := by
  rintro rfl
  obtain ⟨cur, hc⟩ := h.type hg
  have := hc.symm.trans hB
  simp at this
  exact hT this.2
theorem RowW.shape {w : World} {e : TypeId} {v : Value} {n : Nat} {xs : List Value} (h : RowW w e v n xs) : ∃ a c, v = .slice a n c := by
  rcases h.2 with ⟨rfl, rfl⟩ | ⟨g, cap, cur, rfl, _⟩
  · exact ⟨_, _, rfl⟩
  · exact ⟨_, _, rfl⟩
theorem RowW.src {w : World} {e : TypeId} {v : Value} {n : Nat} {xs : List Value} (h : RowW w e v n xs) : Src w v 1 n xs := by
  refine ⟨by simpa using h.1, ?_⟩
  rcases h.2 with h0 | ⟨g, cap, cur, rfl, hg, hc, _, hs, ht⟩
  · exact .inl h0
  · refine .inr ⟨g, 0, cap, rfl, hc, fun j u hu => ?_⟩
    have hj := (List.getElem?_eq_some_iff.1 hu).1
    rw [h.1] at hj
    have hB : Blk w g cur e := hg
    rw [Nat.zero_add, hB.cell, ← hu, ← ht, List.getElem?_take, if_pos hj]
    simp
/-- What a slice expression of its first k bytes, without room, leaves. -/
theorem RowW.clip {w : World} {e : TypeId} {a : Option Addr} {n c : Nat} {xs : List Value} (h : RowW w e (.slice a n c) n xs) (k : Nat) (hk : k ≤ n) (ha : a ≠ none) : RowW w e (.slice a k k) k (xs.take k) := by
  rcases h.2 with ⟨h0, h1⟩ | ⟨g, cap, cur, hv, hg, hc, hm, hs, ht⟩
  · simp at h0; exact absurd h0.1 ha
  · cases hv
    refine ⟨by rw [List.length_take, h.1]; omega, .inr ⟨g, k, cur, rfl, hg, Nat.le_refl _, by omega, by omega, ?_⟩⟩
    rw [← ht, List.take_take, Nat.min_eq_left hk]

/-- APPEND onto it, of what can be read. -/
theorem rowW_append {P : Program} {t e : TypeId} {z : Value} (T : ElemT P t e 1 1 z) {w : World} {v src : Value} {n m : Nat} {xs news : List Value}
    (hv : RowW w e v n xs) (hs : Src w src 1 m news) (h1 : ∀ u ∈ news, u.oneCell' = true) (hb : n + m ≤ 1073741824) (ty : TypeId) :
    ∃ v' w', (Builtin.append_ #[t, t] ty #[v, src]).run P w = .ok v' w' ∧ RowW w' e v' (n + m) (xs ++ news) ∧ w.grownBy w' v.ownBlock ∧ (v'.ownBlock = v.ownBlock ∨ v'.ownBlock = some w.heap.size) := by
  obtain ⟨i, hi, hz0, hz1, hz2⟩ := info_parts T.info
  rcases hv.2 with ⟨rfl, rfl⟩ | ⟨g, cap, cur, rfl, hg, hnc, hcm, hcs, htake⟩
  · have hx : xs = [] := List.eq_nil_of_length_eq_zero hv.1
    subst hx
    obtain ⟨v', w', h2, h3, h4, h5⟩ := row_append T (row_nil w e 1) hs h1 hb ty
    exact ⟨v', w', h2, h3.wide, h4, h5⟩
  · rcases hs.2 with ⟨rfl, rfl⟩ | ⟨b, off, sc, rfl, _, hr⟩
    · have hn : news = [] := List.eq_nil_of_length_eq_zero (by simpa using hs.1)
      subst hn
      refine ⟨.slice (some ⟨g, 0, none⟩) n cap, w, ?_, by simpa using hv, ⟨rfl, rfl, rfl, Nat.le_refl _, fun _ _ _ => rfl⟩, .inl rfl⟩
      simp [Builtin.append_, run_underlying T.under, sizeOf, typeInfo, hi, Builtin.lenOf, Builtin.firstCells, loadCells, hnc, storeCells]
    · have hadd : ∀ j, (⟨b, off, none⟩ : Addr).add j = ⟨b, off + j, none⟩ := fun j => by unfold Addr.add; split <;> simp_all
      have hl : news.length = m * 1 := hs.1
      have hlen : (xs ++ news).length = n + m := by rw [List.length_append, hv.1, hl]; omega
      have hcells : ∀ j u, news[j]? = some u → w.cell? ((⟨b, off, none⟩ : Addr).add j) = some u := fun j u hu => by rw [hadd]; exact hr j u hu
      by_cases hroom : n + m ≤ cap
      · have hfit : n * i.size + news.length ≤ cur.size := by rw [hz1, hl]; omega
        have hrun := run_append_room (P := P) w t ty e i T.under hi g n cap cur hg ⟨b, off, none⟩ m sc news (by rw [hz1]; exact hl) hcells h1 hroom hfit
        refine ⟨_, _, hrun, ⟨hlen, .inr ⟨g, cap, _, rfl, setRow_heap w g cur _ e _ hg, hroom, hcm, ?_, ?_⟩⟩, ⟨rfl, rfl, rfl, by simp, fun k _ hk => setRow_other w g k _ (fun e => hk (by simp [Value.ownBlock, e]))⟩, .inl rfl⟩
        · simp only [List.size_toArray, List.length_append, List.length_take, List.length_drop, Array.length_toList, hz1]
          omega
        · rw [hz1, Nat.mul_one, htake, ← hlen]
          exact List.take_left
      · have holds : ∀ j u, xs[j]? = some u → w.cell? ((⟨g, 0, none⟩ : Addr).add j) = some u := fun j u hu => by
          have hj := (List.getElem?_eq_some_iff.1 hu).1
          rw [hv.1] at hj
          have hB : Blk w g cur e := hg
          have ha : (⟨g, 0, none⟩ : Addr).add j = ⟨g, 0 + j, none⟩ := by unfold Addr.add; split <;> simp_all
          rw [ha, Nat.zero_add, hB.cell, ← hu, ← htake, List.getElem?_take, if_pos hj]
          simp
        have hrun := run_append_grow (P := P) w t ty e i z T.under hi hz0 ⟨g, 0, none⟩ n cap xs (by rw [hz1, Nat.mul_one]; exact hv.1) holds ⟨b, off, none⟩ m sc news (by rw [hz1]; exact hl) hcells (by omega) (by omega) (growslice_fits (by omega) (by rw [hz2]; omega))
        have hge := grownCap_ge w (n + m) cap e
        have hcm2 : grownCap w (n + m) cap e ≤ maxLen := grownCap_le_maxLen w (n + m) cap e (by unfold maxLen; omega)
        refine ⟨_, _, hrun, ⟨hlen, .inr ⟨w.heap.size, _, _, rfl, heap_alloc_new w.drew _, hge, hcm2, ?_, ?_⟩⟩, ⟨rfl, rfl, rfl, by simp, fun k hk _ => ((Below.refl w.drew.heap.size w.drew).alloc (Nat.le_refl _) _).block k hk⟩, .inr rfl⟩
        · simp only [Array.size_append, List.size_toArray, size_zeroCells, T.cells, hl, hv.1]
          omega
        · simp only [Array.toList_append, List.append_assoc]
          rw [← List.append_assoc, ← hlen]
          exact List.take_left
end Go.Proofs.YtaopeioebpfdeaaGreatDoor
namespace Go.Proofs.YtaopeioebpfdeaaGreatDoor
open Go Go.RowKit Go.Shelf Go.Extern.Stop Go.Stop Go.Extern
attribute [local go_sem] Oper.semAt_some wide_fn wide_depth

theorem u8s_one (l : List UInt8) : ∀ u ∈ u8s l, u.oneCell' = true := by
  intro u hu; simp [u8s] at hu; obtain ⟨t, _, rfl⟩ := hu; rfl
theorem u8s_len (l : List UInt8) : (u8s l).length = l.length := by simp [u8s]
/-- The bytes of a text. -/
theorem conv_bytes (l : List UInt8) (w : World) : ∃ W c, (convert 9 87 (.string (bs l))).run Tryz.prog w = .ok (.slice (some ⟨w.heap.size, 0, none⟩) l.length c) W ∧ Below w.heap.size w W ∧ Src W (.slice (some ⟨w.heap.size, 0, none⟩) l.length c) 1 l.length (u8s l) ∧ W.heap.size = w.heap.size + 1 := by
  have hrun := Go.Lib.run_convert_string_bytes (P := Tryz.prog) w 9 87 5 (bs l) Tryz.underlying9 Tryz.underlying87 Tryz.underlying5
  rw [bs_size] at hrun
  have hsz := Go.Lib.bytesWorld_size w 5 (bs l)
  refine ⟨_, _, hrun, ⟨?_, ?_, ?_, by rw [hsz]; omega, fun k hk => Go.Lib.bytesWorld_at_old w 5 (bs l) k hk⟩, ⟨by rw [u8s_len]; omega, .inr ⟨w.heap.size, 0, _, rfl, grownCap_ge _ _ _ _, fun j u hu => ?_⟩⟩, hsz⟩
  · simp [Go.Lib.bytesWorld, World.freeze, World.alloc, World.drew, -World.alloc_eq, -World.drew_eq]
  · simp [Go.Lib.bytesWorld, World.freeze, World.alloc, World.drew, -World.alloc_eq, -World.drew_eq]
  · simp [Go.Lib.bytesWorld, World.freeze, World.alloc, World.drew, -World.alloc_eq, -World.drew_eq]
  · have hj := (List.getElem?_eq_some_iff.1 hu).1
    rw [u8s_len] at hj
    rw [Nat.zero_add, Go.Lib.bytesWorld_cell w 5 (bs l) j (by rw [bs_size]; exact hj)]
    rw [← hu]
    simp [u8s, bs, hj]

def storeCells (lv : Value) (s : StoreS) : Array Value := #[lv, .string ⟨#[]⟩, .int .i64 s.cap, .bool s.isCut, .int .i64 s.keep, .bool s.crashed]
def StoreAt (B : Nat) (s : StoreS) (t : List Nat) (ow : Own) (W : World) : Prop :=
  ∃ lv, Blk W B (storeCells lv s) 119 ∧ RowW W 5 lv s.log.length (u8s s.log) ∧ ow B = t ∧ ∀ g, lv.ownBlock = some g → ow g = t
theorem StoreAt.loc (B : Nat) (s : StoreS) (t : List Nat) : Local t (StoreAt B s t) := by
  rintro ow ow' W W' ⟨lv, hB, hR, o1, o2⟩ hs hk
  have kB := hk B hB.lt (by rw [o1]; exact Sub.rfl' t)
  have kR : ∀ g, lv.ownBlock = some g → ow' g = ow g ∧ W'.heap[g]? = W.heap[g]? := fun g hg => hk g (hR.lt hg) (by rw [o2 g hg]; exact Sub.rfl' t)
  exact ⟨lv, hB.kept kB.2, hR.kept (fun g hg => (kR g hg).2), kB.1.trans o1, fun g hg => (kR g hg).1.trans (o2 g hg)⟩
/-- What a call on a store comes to. -/
def StorePost (B : Nat) (s : StoreS) (t : List Nat) (ow : Own) (w : World) (v : Value) (e : Ending) (w' : World) : Prop :=
  e = .returned v ∧ ∃ ow', Step t ow w ow' w' ∧ StoreAt B s t ow' w'
/-- Cells of a store, written. -/
theorem store_write {B : Nat} {s s' : StoreS} {lv : Value} {t : List Nat} {ow : Own} {W W' : World} (hR : RowW W 5 lv s.log.length (u8s s.log)) (hB : Blk W B (storeCells lv s) 119) (o1 : ow B = t) (o2 : ∀ g, lv.ownBlock = some g → ow g = t)
    (hM : Mod (fun k => k = B) W W') (hB' : Blk W' B (storeCells lv s') 119) (hl : s'.log = s.log) : Step t ow W ow W' ∧ StoreAt B s' t ow W' := by
  refine ⟨⟨hM.mono (fun k _ e => by subst e; rw [o1]; exact Sub.rfl' t), fun _ _ => rfl⟩, lv, hB', ?_, o1, o2⟩
  rw [hl]
  exact hR.kept (fun g hg => hM.block g (hR.lt hg) (fun e => hR.ne_blk hB (by decide) hg e))

/-- What New comes to. -/
def NewStorePost (c : Int) (t : List Nat) (ow : Own) (w : World) (e : Ending) (w' : World) : Prop :=
  ∃ B ow', e = .returned (.tuple #[.pointer (some ⟨B, 0, none⟩), .int .i64 0]) ∧ Step t ow w ow' w' ∧ Below w.heap.size w w' ∧ StoreAt B (newStore c) t ow' w' ∧ w.heap.size ≤ B
theorem stNew_any (c : Int) (h1 : 64 ≤ c) (h2 : c ≤ 1048576) (t : List Nat) (ow : Own) (w : World) : Calls Tryz.prog 29 #[.int .i64 c] w (NewStorePost c t ow w) := by
  have t1 : decide (c < 64) = false := by simp; omega
  have t2 : decide (1048576 < c) = false := by simp; omega
  go_enter Tryz.func29, Tryz.ntmps29
  go_wp2
  go_ret2
  refine ⟨w.heap.size, ow.ext w.heap.size (fun k => k = w.heap.size) t, rfl, ⟨Mod.alloc _ _ _, fun k hk => Own.ext_old hk⟩, by (repeat (first | exact Below.refl _ _ | with_reducible assumption | refine pb_alloc ?_ _ | refine pb_drew ?_ | refine pb_drewN ?_ _ | refine pb_set ?_ (by simp; try omega) _ | refine pb_trans ?_ (by with_reducible assumption))), ⟨.slice none 0 0, Blk.new rfl, rowW_nil _ _, Own.ext_new (Nat.le_refl _) rfl, by simp [Value.ownBlock]⟩, Nat.le_refl _⟩

set_option maxRecDepth 8000 in
set_option maxHeartbeats 1000000 in
theorem lay_any (B : Nat) (s : StoreS) (t : List Nat) (ow : Own) (src : Value) (d : List UInt8) (w : World) (h : StoreAt B s t ow w) (hm : Src w src 1 d.length (u8s d)) (hl : s.log.length + d.length ≤ 1073741824) :
    Calls Tryz.prog 127 #[.pointer (some ⟨B, 0, none⟩), src] w (StorePost B { s with log := s.log ++ d } t ow w (.tuple #[])) := by
  obtain ⟨lv, hB, hR, o1, o2⟩ := h
  unfold storeCells at hB
  have e0 := hB.cell
  have l0 := hB.lt
  obtain ⟨ma, mc, rfl⟩ := hm.shape
  obtain ⟨ha, hc, rfl⟩ := hR.shape
  obtain ⟨lv', W3, hrun, hrow, hgr, hown⟩ := rowW_append byteT hR hm (u8s_one d) hl 87
  have hneB : (Value.slice ha s.log.length hc).ownBlock ≠ some B := fun e => (hR.ne_blk hB (by decide) e) rfl
  have k3 := hB.kept (hgr.block B hB.lt (fun e => hneB e.symm))
  have f3 := k3.frozen
  have l3 := k3.lt
  have c3 := k3.cell
  obtain ⟨sa, sc, rfl⟩ := hrow.shape
  clear hm
  replace hB : Hid (Blk _ _ _ _) := hB
  replace hR : Hid (RowW _ _ _ _ _) := hR
  replace hrow : Hid (RowW _ _ _ _ _) := hrow
  replace k3 : Hid (Blk _ _ _ _) := k3
  replace o2 : Hid (∀ _, _) := o2
  replace hown : Hid (_ ∨ _) := hown
  replace hneB : Hid (_ → _) := hneB
  go_enter Tryz.func127, Tryz.ntmps127
  go_wp2_with (at_builtin
               refine wpList_append_by rfl _ _ _ rfl rfl rfl hrun ?_)
  go_end0
  have hg5 : ∀ g, (Value.slice sa (s.log.length + d.length) sc).ownBlock = some g → ((Value.slice ha s.log.length hc).ownBlock = some g ∨ g = w.heap.size) := fun g hg => by
    have := hown.out
    rw [hg] at this
    rcases this with h | h
    · exact .inl h.symm
    · right; simpa using h
  refine ⟨rfl, ow.ext w.heap.size (fun k => (Value.slice sa (s.log.length + d.length) sc).ownBlock = some k) t, ⟨?_, fun k hk => Own.ext_old hk⟩, .slice sa (s.log.length + d.length) sc, k3.out.set (o := 0) _, ?_, ?_, ?_⟩
  · exact (Mod.grown (X := fun k => Sub t (ow k)) hgr (fun k h => by rw [o2.out k h]; exact Sub.rfl' t)).thenSet (p := ⟨B, 0, none⟩) (by simp only [o1]; exact Sub.rfl' t) _
  · simp only [List.length_append, u8s_append]
    refine hrow.out.kept (fun g hg => Below.heap_setCell _ _ _ _ (fun e => ?_))
    have e' : g = B := e
    subst e'
    rcases hg5 g hg with h | h
    · exact hneB.out h
    · omega
  · rw [Own.ext_old l0, o1]
  · intro g hg
    rcases hg5 g hg with h | h
    · rw [Own.ext_old (hR.out.lt h), o2.out g h]
    · rw [Own.ext_new (by omega) hg]

set_option maxRecDepth 8000 in
set_option maxHeartbeats 1000000 in
theorem stAppend_any (B : Nat) (s : StoreS) (t : List Nat) (ow : Own) (r : List UInt8) (k : Int) (w : World) (h : StoreAt B s t ow w) (hk0 : 0 ≤ k) (hk : k ≤ r.length) (hl : s.log.length + r.length ≤ 1073741824) :
    Calls Tryz.prog 97 #[.pointer (some ⟨B, 0, none⟩), .string (bs r), .int .i64 k] w (StorePost B { s with log := s.log ++ r.take k.toNat } t ow w (.tuple #[])) := by
  have hex := extract_take r k.toNat
  have hsz := bs_size r
  have y1 : k ≤ ((bs r).size : Int) := by rw [hsz]; exact hk
  have htl : (r.take k.toNat).length ≤ r.length := by rw [List.length_take]; omega
  generalize r.take k.toNat = d at *
  obtain ⟨W, c, hrun, hb, hsrc, hW⟩ := conv_bytes d w
  have hcall := lay_any B s t ow _ d W ((StoreAt.loc B s t).below h hb) hsrc (by omega)
  replace hcall : Hid (Calls _ _ _ _ _) := hcall
  replace hsz : Hid (_ = _) := hsz
  replace h : Hid (StoreAt _ _ _ _ _) := h
  clear hsrc
  go_enter Tryz.func97, Tryz.ntmps97
  go_wp2_with fail
  refine hcall.out.mono ?_
  rintro e w1 ⟨rfl, ow1, hs1, h1⟩
  go_wp2
  go_end0
  exact ⟨rfl, ow1, (Step.of_below t ow hb).trans hs1, h1⟩
end Go.Proofs.YtaopeioebpfdeaaGreatDoor
