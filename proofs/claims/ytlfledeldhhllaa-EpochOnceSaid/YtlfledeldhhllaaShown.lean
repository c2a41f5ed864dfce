/- WALK: rostrumlaw14.shown answers true. No condition. -/
import Derived.Test.YtlfledeldhhllaaEp8
import Derived.Test.YtlfledeldhhllaaSameMsg
import Derived.Test.YtlfledeldhhllaaSameEra
import Derived.Test.YtlfledeldhhllaaCut
namespace Go.Proofs.Ytlfledeldhhllaa
open Go Go.RowKit Go.Shelf Go.Extern.Stop Go.Stop Go.Extern
attribute [local go_sem] Oper.semAt_some wide_fn wide_depth

theorem msgs_nil (w : World) : MsgsAt w (.slice none 0 0) [] := ⟨rfl, .inl ⟨rfl, rfl⟩⟩
def shF1 : FoldS := { book := newBook, eras := [(1, 1, 0), (2, 2, 1)], count := 1, sw := true }
def shF2 : FoldS := { book := newBook, eras := [(1, 1, 0), (2, 2, 1)], count := 2, sw := true }
def shF3 : FoldS := { book := newBook, eras := [(1, 1, 0), (2, 2, 1), (3, 1, 3)], count := 3, sw := false }
theorem sh1 : applyP (newFold 1) ⟨2, 1, 2, []⟩ = (shF1, [], true, 0) := by kernel_rfl
theorem sh2 : applyP shF1 ⟨2, 1, 3, []⟩ = (shF2, [], false, 0) := by kernel_rfl
theorem sh3 : applyP shF2 ⟨3, 2, 0, []⟩ = (shF3, [], true, 0) := by kernel_rfl
theorem sh4 : applyP shF3 ⟨0, 0, 0, []⟩ = (shF3, [], false, 140) := by kernel_rfl

/-- An Apply of an entry without messages. -/
theorem apply_nil {B : Nat} {f f' : FoldS} {t : List Nat} (ht : t ≠ []) {ow : Own} {e : EntryD} (he : e.msgs = []) {b : Bool} {n : Int} {w : World} (h : FoldAt B f t ow w) (hl : bookN f.book + 64 ≤ 536870912) (hl2 : f.eras.length ≤ 536870912) (hct : 0 ≤ f.count ∧ f.count ≤ 1073741824)
    (hR : applyP f e = (f', [], b, n)) : Calls Try.prog 10 #[.pointer (some ⟨B, 0, none⟩), .agg #[.int .i64 e.kind, .int .u32 e.epoch, .int .i64 e.ver, .slice none 0 0]] w
      fun r w' => ∃ v c ow', r = .returned (.tuple #[.slice v 0 c, .bool b, .int .i64 n]) ∧ Step t ow w ow' w' ∧ FoldAt B f' t ow' w' := by
  have h := apply_any B f t ht ow e (.slice none 0 0) w h (by rw [he]; exact msgs_nil w) (fun a l c h => by cases h) hl hl2 (by rw [he]; simp) hct
  rw [hR] at h
  refine h.mono ?_
  rintro r w' ⟨v, ow', rfl, h1, h2, h3, -⟩
  rcases h3.form with ⟨rfl, -⟩ | ⟨g, cap, rfl, -⟩
  · exact ⟨_, _, ow', rfl, h1, h2⟩
  · exact ⟨_, _, ow', rfl, h1, h2⟩

set_option maxRecDepth 8000 in
set_option maxHeartbeats 1000000 in
theorem shown_any (w : World) : Calls Try.prog 8 #[] w fun e w' => e = .returned (.bool true) ∧ Below w.heap.size w w' := by
  have ht : ([1] : List Nat) ≠ [] := by simp
  go_enter Try.func8, Try.ntmps8
  go_wp2_with fail
  refine (fnew_any 1 rfl [1] (fun _ => []) _).mono ?_
  rintro r w1 ⟨B, ow1, rfl, hs1, -, hF1⟩
  replace hF1 : Hid (FoldAt _ _ _ _ _) := hF1
  go_wp2_with fail
  refine (apply_nil (e := ⟨2, 1, 2, []⟩) ht rfl hF1.out (by decide) (by decide) (by decide) sh1).mono ?_
  rintro r w2 ⟨v2, c2, ow2, rfl, hs2, hF2⟩
  replace hF2 : Hid (FoldAt _ _ _ _ _) := hF2
  go_wp2_with fail
  refine (apply_nil (e := ⟨2, 1, 3, []⟩) ht rfl hF2.out (by decide) (by decide) (by decide) sh2).mono ?_
  rintro r w3 ⟨v3, c3, ow3, rfl, hs3, hF3⟩
  replace hF3 : Hid (FoldAt _ _ _ _ _) := hF3
  go_wp2_with fail
  refine (apply_nil (e := ⟨3, 2, 0, []⟩) ht rfl hF3.out (by decide) (by decide) (by decide) sh3).mono ?_
  rintro r w4 ⟨v4, c4, ow4, rfl, hs4, hF4⟩
  replace hF4 : Hid (FoldAt _ _ _ _ _) := hF4
  go_wp2_with fail
  refine (apply_nil (e := ⟨0, 0, 0, []⟩) ht rfl hF4.out (by decide) (by decide) (by decide) sh4).mono ?_
  rintro r w5 ⟨v5, c5, ow5, rfl, hs5, hF5⟩
  replace hF5 : Hid (FoldAt _ _ _ _ _) := hF5
  go_wp2_with (first
    | (go_at_call 13; refine (count_any B shF3 _ _ _ hF5.out).mono ?_; rintro r w6 ⟨rfl, rfl⟩)
    | (go_at_call 12; refine (eras_any B shF3 _ _ _ hF5.out (by decide)).mono ?_; rintro r w7 ⟨ev, rfl, hR, hb7, -⟩))
  refine (sameEra_any ev _ shF3.eras [(1, 1, 0), (2, 2, 1), (3, 1, 3)] _ (hR.src.below ((Below.refl _ _).alloc (Nat.le_refl _) _)) (src_blk (n := 3) (size := 3) (cap := 3) (Blk.new (w := w7) (t := 38) (cs := #[.int .u32 1, .int .i64 1, .int .i64 0, .int .u32 2, .int .i64 2, .int .i64 1, .int .u32 3, .int .i64 1, .int .i64 3]) rfl) rfl (Nat.le_refl 3)) (by decide) (by decide)).mono ?_
  rintro r w8 ⟨rfl, hb8⟩
  have hd : decide (shF3.eras = [(1, 1, 0), (2, 2, 1), (3, 1, 3)]) = true := by decide
  rw [hd]
  have hst := (((hs1.trans hs2).trans hs3).trans hs4).trans hs5
  have hbw := hst.below (Nat.le_refl _) (fun k _ h => not_sub_nil ht h)
  have hbw8 : Below w.heap.size w w8 := pb_trans (pb_alloc (pb_trans hbw hb7) _) hb8
  clear hst hbw hs1 hs2 hs3 hs4 hs5 hd
  go_wp2
  go_ret
  exact ⟨rfl, hbw8⟩
end Go.Proofs.Ytlfledeldhhllaa
