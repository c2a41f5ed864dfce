/- PROVED HERE: WALKS: store's records of an empty text, snapshot, Recover. Condition: the store is one that calls have made. WALKS: batch's right, Done. Condition: the pool is one that calls have made; the messages can be read. DERIVED: THE SHELF's CONTRACTS AT THIS DUMP, IN PLAIN WORDS (tools/lay-plain.mjs out of 'TryzSort.lean', which tools/lay-shelf.mjs wrote): THE SAME DECLARATIONS UNDER THE SAME NAMES: 'import', 'namespace', 'open', 'def', 'theorem' AND NOTHING ELSE: no command of the shelf's: FOR A HAND-IN. Each laying: the table of numbers ('.._ren') and one theorem, a field a fact of the dump's own or the kernel's comparison; each contract: ONE APPLICATION. -/
import Derived.Shelf.SlSortCmp.WholeK
import Derived.Ground.SlsfProg
import Derived.Test.YtaopeioebpfdeaaGreatDoorProg
import Derived.Test.YtaopeioebpfdeaaGreatDoorK12
import Derived.Test.YtaopeioebpfdeaaGreatDoorK16
import Derived.Test.YtaopeioebpfdeaaGreatDoorK21
namespace Go.Proofs.YtaopeioebpfdeaaGreatDoor
open Go Go.RowKit Go.Shelf Go.Extern.Stop Go.Stop Go.Extern
attribute [local go_sem] Oper.semAt_some wide_fn wide_depth

theorem valStr_any (v : Value) (hv : ∃ a n c, v = .slice a n c) (w : World) : Calls Tryz.prog 147 #[v] w fun e w' =>
    e = .returned (.func (.func 173) #[] #[.pointer (some ⟨w.heap.size, 0, none⟩)]) ∧ w' = w.alloc (.cells #[v] 97) := by
  obtain ⟨a, n, c, rfl⟩ := hv
  go_enter Tryz.func147, Tryz.ntmps147
  go_wp2
  go_ret
  exact ⟨rfl, rfl⟩
/-- The iterator over no text. -/
theorem valStr_none (cb : Nat) (a : Option Addr) (c : Nat) :
    Iter Fence.wide 2 Tryz.prog 173 #[.pointer (some ⟨cb, 0, none⟩)] (fun x : List UInt8 => #[.string (bs x)])
      (fun (_ : Unit) _ => False) (fun k _ => k) (fun _ => True) (fun _ W => Blk W cb #[.slice a 0 c] 97) () := by
  intro lp J Jx W hJ hJx hRd hY h0
  have e0 := (hRd _ _ _ h0).cell
  have hF : Fence.wide.fn 173 := trivial
  have hro : Fence.wide.round = none := rfl
  refine callsIn_of_wp Tryz.func173 rfl hF ?_ hro
  simp only [Tryz.ntmps173, List.size_toArray, List.length_cons, List.length_nil, Nat.reduceAdd, Nat.reduceSub, Array.replicate_succ, Array.replicate_zero, List.push_toArray, List.append_toArray, List.nil_append, List.cons_append]
  gi_wp2
  gi_loopw [7] (fun p wr => p = .int .i64 0 ∧ ∃ X, J () X wr) (fun _ _ => 0)
  case atStart => exact ⟨rfl, _, h0⟩
  case round =>
    obtain ⟨rfl, X, hJs⟩ := hrel
    gi_wp2
    go_end0
    exact ⟨⟨_, rfl⟩, .inl ⟨(), X, trivial, hJs⟩⟩
/-- What records comes to. -/
def RecsPost (w : World) (e : Ending) (w' : World) : Prop :=
  ∃ cb a c, e = .returned (.func (.func 173) #[] #[.pointer (some ⟨cb, 0, none⟩)]) ∧ Below w.heap.size w w' ∧ Blk w' cb #[.slice a 0 c] 97 ∧ w.heap.size ≤ cb
theorem records_nil (w : World) : Calls Tryz.prog 119 #[.string ⟨#[]⟩] w (RecsPost w) := by
  have hr := fun W => jnRead_any [] (by simp) W
  replace hr : Hid (∀ _, _) := hr
  go_enter Tryz.func119, Tryz.ntmps119
  go_wp2_with fail
  refine (hr.out _).mono ?_
  rintro e w1 ⟨v, rfl, hb1, hs, -⟩
  obtain ⟨va, vc, rfl⟩ : ∃ a c, v = .slice a 0 c := by
    rcases hs.2 with ⟨rfl, -⟩ | ⟨b, off, cap, rfl, -⟩
    · exact ⟨_, _, rfl⟩
    · exact ⟨_, _, rfl⟩
  clear hs
  go_wp2_with fail
  refine (valStr_any _ ⟨_, _, _, rfl⟩ _).mono ?_
  rintro e w2 ⟨rfl, rfl⟩
  go_wp2
  go_ret
  exact ⟨w1.heap.size, va, vc, rfl, pb_alloc hb1 _, Blk.new rfl, hb1.size⟩
set_option maxRecDepth 8000 in
theorem snapshot_any (B : Nat) (lv : Value) (s : StoreS) (w : World) (hB : Blk w B (storeCells lv s) 119) :
    Calls Tryz.prog 85 #[.pointer (some ⟨B, 0, none⟩)] w fun e w' => e = .returned (.string ⟨#[]⟩) ∧ Below w.heap.size w w' := by
  unfold storeCells at hB
  have e0 := hB.cell
  have l0 := hB.lt
  refine calls_of_wp_marks Tryz.func85 rfl ?_
  simp only [Tryz.ntmps85, List.size_toArray, List.length_cons, List.length_nil, Nat.reduceAdd, Nat.reduceSub, Array.replicate_succ, Array.replicate_zero, List.push_toArray, List.append_toArray, List.nil_append, List.cons_append]
  go_wp2
  go_step3
  go_wp2
  go_step3
  go_wp2_with fail
  refine (records_nil _).mono ?_
  rintro e W0 ⟨cb, va, vc, rfl, hb1, kc0, hcb⟩
  have k0 : Blk W0 w.heap.size #[.string ⟨#[]⟩] 9 := Blk.call (by (repeat (first | with_reducible assumption | (refine Blk.new ?_; simp; done) | refine Blk.alloc ?_ _ | refine Blk.drew ?_ | refine Blk.drewN ?_ _ | refine Blk.call ?_ (by with_reducible assumption)))) hb1
  have hb0 : Below w.heap.size w W0 := by (repeat (first | exact Below.refl _ _ | with_reducible assumption | refine pb_alloc ?_ _ | refine pb_drew ?_ | refine pb_drewN ?_ _ | refine pb_set ?_ (by simp; try omega) _ | refine pb_trans ?_ (by with_reducible assumption)))
  have hz := k0.lt
  simp at hcb
  clear e0
  go_wp2_with fail
  refine wp_rangeVar (gf := 173) (lb := #[.pointer (some ⟨cb, 0, none⟩)]) rfl (enters_of Tryz.func173 (by kernel_rfl) rfl)
      (valStr_none cb va vc) (fun _ => rfl)
      (fun _ X W => Fr (fun _ => False) W0 X W) (fun _ _ _ => False)
      (fun _ X X' W W' h hm hx => h.step hm hx) (fun _ _ X X' W W' h hm hx => h) (fun _ X W h => kc0.mod h.2 (fun h => h)) (Fr.refl _ _)
      (fun x => [(4, .string (bs x))]) ?assign ?body ?done ?stop
  case assign =>
    intro l' x W K hK
    rw [laidIn_one] at hK ⊢
    gi_wp2
    exact hK
  case body => rintro l' k x X W _ h; exact h.elim
  case done =>
    rintro D k X W hD hXD hfin hfr hdef
    have hbW : Below w.heap.size w W := hb0.trans (hfr.below (by omega) (fun k hk => hk.elim))
    have kW := k0.mod hfr.2 (fun h => h)
    have eW := kW.cell
    go_wp2
    rw [Exit.noGoto_ret]
    exact end_mark1 (D := D) (v := .string ⟨#[]⟩) hdef (by simp [results, Tryz.results85, go_sem]) ⟨rfl, below_putObj hbW (by omega) _⟩
  case stop => rintro D c X W hD hXD h; exact h.elim

theorem Src.mod {X : Nat → Prop} {w w' : World} {v : Value} {size n : Nat} {xs : List Value} (h : Src w v size n xs) (hm : Mod X w w') (hx : ∀ a l c, v = .slice (some a) l c → ¬ X a.block) : Src w' v size n xs := by
  refine ⟨h.1, ?_⟩
  rcases h.2 with h0 | ⟨b, off, cap, rfl, hc, hr⟩
  · exact .inl h0
  · exact .inr ⟨b, off, cap, rfl, hc, fun j u hu => (hm.cell (p := ⟨b, off + j, none⟩) (cell_lt (hr j u hu)) (show ¬ X b from hx ⟨b, off, none⟩ _ _ rfl)).trans (hr j u hu)⟩
theorem readF_le (s : List UInt8) : (readF s).2 ≤ s.length := by
  have key : ∀ (n : Nat) (s : List UInt8), (readP n s).2 ≤ s.length := by
    intro n
    induction n with
    | zero => intro s; simp [readP]
    | succ n ih =>
      intro s
      unfold readP
      by_cases h : (firstP s).2 = 0
      · rw [if_pos h]; simp
      · rw [if_neg h]
        have h1 := firstP_size s
        have h2 := ih (s.drop (firstP s).2)
        rw [List.length_drop] at h2
        simp only
        omega
  exact key _ s
/-- What Recover comes to. -/
def RecoverPost (B : Nat) (R : StoreS × List (List UInt8)) (t : List Nat) (ow : Own) (w : World) (e : Ending) (w' : World) : Prop :=
  ∃ v ow', e = .returned (.tuple #[.string ⟨#[]⟩, v, .int .i64 0]) ∧ Step t ow w ow' w' ∧ StoreAt B R.1 t ow' w' ∧ Src w' v 1 R.2.length (texts R.2) ∧ ∀ a l c, v = .slice (some a) l c → w.heap.size ≤ a.block ∧ ow' a.block = []
set_option maxRecDepth 8000 in
set_option maxHeartbeats 1000000 in
theorem stRecover_any (B : Nat) (s : StoreS) (t : List Nat) (ow : Own) (w : World) (h : StoreAt B s t ow w) (hl : s.log.length ≤ 1073741824) :
    Calls Tryz.prog 47 #[.pointer (some ⟨B, 0, none⟩)] w (RecoverPost B (recoverS s) t ow w) := by
  obtain ⟨lv, hB, hR, o1, o2⟩ := h
  have hBl := hB.lt
  have hle := readF_le s.log
  have hcv := bytes_text hR.src
  have hread := fun W => jnRead_any s.log hl W
  have hrs : recoverS s = ({ s with log := s.log.take (readF s.log).2, isCut := false, keep := 0, crashed := false }, (readF s.log).1) := rfl
  have hpost : ∀ v lv2 W', Mod (fun k => k = B) w W' → Blk W' B (storeCells lv2 (recoverS s).1) 119 → RowW W' 5 lv2 (s.log.take (readF s.log).2).length (u8s (s.log.take (readF s.log).2)) → (lv2.ownBlock = none ∨ lv2.ownBlock = lv.ownBlock) →
      Src W' v 1 (readF s.log).1.length (texts (readF s.log).1) → (∀ a l c, v = .slice (some a) l c → w.heap.size ≤ a.block) → RecoverPost B (recoverS s) t ow w (.returned (.tuple #[.string ⟨#[]⟩, v, .int .i64 0])) W' := by
    intro v lv2 W' hM hB2 hR2 hO hS hF
    refine ⟨v, ow.cut w, rfl, ⟨hM.mono (fun k _ e => by subst e; rw [o1]; exact Sub.rfl' t), fun k hk => Own.cut_old hk⟩, ⟨lv2, hB2, hR2, by rw [Own.cut_old hBl, o1], fun g hg => ?_⟩, hS, fun a l c h => ⟨hF a l c h, Own.cut_new (hF a l c h)⟩⟩
    rcases hO with h | h
    · rw [h] at hg; cases hg
    · rw [h] at hg; rw [Own.cut_old (hR.lt hg), o2 g hg]
  rw [hrs] at hpost ⊢
  obtain ⟨log, cap, isc, keep, cr⟩ := s
  simp only at *
  obtain ⟨⟨rs, good⟩, hgd⟩ : ∃ x, readF log = x := ⟨_, rfl⟩
  unfold ReadPost at hread
  rw [hgd] at hpost hle hread ⊢
  simp only at hpost hle hread ⊢
  unfold storeCells at hB hpost
  simp only at hB hpost
  have e0 := hB.cell
  replace hrs : Hid (_ = _) := hrs
  replace hgd : Hid (_ = _) := hgd
  replace hread : Hid (∀ _, _) := hread
  have hpost' := hpost
  clear hpost
  replace o2 : Hid (∀ _, _) := o2
  obtain ⟨a, c, rfl⟩ := hR.shape
  cases a with
  | none =>
    obtain ⟨rfl, rfl⟩ : log = [] ∧ c = 0 := by
      rcases hR.2 with ⟨h0, h1⟩ | ⟨g, cap, cur, h0, -⟩
      · simpa using h0
      · cases h0
    obtain rfl : good = 0 := by simpa using hle
    rw [List.length_nil] at hcv hR hB e0
    replace hpost' : Hid (∀ _, _) := hpost'
    replace hR : Hid (RowW _ _ _ _ _) := hR
    replace hB : Hid (Blk _ _ _ _) := hB
    go_enter Tryz.func47, Tryz.ntmps47
    go_wp2_with fail
    refine (hread.out _).mono ?_
    rintro e w1 ⟨v, rfl, hb1, hs1, hf1⟩
    have k1 := hB.out.call hb1
    have c1 := k1.cell
    have f1 := k1.frozen
    have l1 := k1.lt
    obtain ⟨va, vn, vc, hve⟩ : ∃ a n c, v = .slice a n c := by
      rcases hs1.2 with ⟨rfl, -⟩ | ⟨b, off, cap, rfl, -⟩
      · exact ⟨_, _, _, rfl⟩
      · exact ⟨_, _, _, rfl⟩
    subst hve
    replace hs1 : Hid (Src _ _ _ _ _) := hs1
    replace hf1 : Hid (∀ _, _) := hf1
    clear e0 hcv
    go_wp2_with fail
    refine (snapshot_any B _ ⟨[], cap, false, 0, false⟩ _ ((((k1.set (o := 0) (.slice none 0 0)).set (o := 3) (.bool false)).set (o := 4) (.int .i64 0)).set (o := 5) (.bool false))).mono ?_
    rintro e w2 ⟨rfl, hb2⟩
    have hM1 : Mod (fun k => k = B) w1 w2 :=
      (((((Mod.refl (fun k => k = B) w1).thenSet (p := ⟨B, 0, none⟩) rfl (.slice none 0 0)).thenSet (p := ⟨B, 3, none⟩) rfl (.bool false)).thenSet (p := ⟨B, 4, none⟩) rfl (.int .i64 0)).thenSet (p := ⟨B, 5, none⟩) rfl (.bool false)).thenCall hb2
    have hM5 : Mod (fun k => k = B) w ((((w1.setCell ⟨B, 0, none⟩ (.slice none 0 0)).setCell ⟨B, 3, none⟩ (.bool false)).setCell ⟨B, 4, none⟩ (.int .i64 0)).setCell ⟨B, 5, none⟩ (.bool false)) :=
      ((((Mod.of_below (fun k => k = B) hb1).thenSet (p := ⟨B, 0, none⟩) rfl _).thenSet (p := ⟨B, 3, none⟩) rfl _).thenSet (p := ⟨B, 4, none⟩) rfl _).thenSet (p := ⟨B, 5, none⟩) rfl _
    have k5 := ((((k1.set (o := 0) (.slice none 0 0)).set (o := 3) (.bool false)).set (o := 4) (.int .i64 0)).set (o := 5) (.bool false)).call hb2
    go_wp2
    go_ret3
    refine hpost'.out _ _ _ (hM5.thenCall hb2) k5 ?_ ?_ ?_ ?_
    · exact rowW_nil _ _
    · exact .inl rfl
    · exact hs1.out.mod hM1 (fun a l c h e => by have := hf1.out a l c h; omega)
    · exact hf1.out
  | some a =>
    obtain ⟨g, hag, hcc, hgR⟩ : ∃ g, a = ⟨g, 0, none⟩ ∧ log.length ≤ c ∧ c ≤ maxLen := by
      rcases hR.2 with ⟨h0, h1⟩ | ⟨g, cap, cur, h0, -, h1, h2, -⟩
      · cases h0
      · cases h0; exact ⟨g, rfl, h1, h2⟩
    subst hag
    unfold maxLen at hgR
    have hclip := hR.clip good hle (by simp)
    have hgB : g ≠ B := hR.ne_blk hB (by decide) rfl
    have hgl : g < w.heap.size := hR.lt rfl
    have y0 : (good : Int) ≤ (c : Int) := by omega
    have y1 : (c : Int) ≤ 9223372036854775807 := by omega
    have htl : (log.take good).length = good := by rw [List.length_take]; omega
    have htu : u8s (log.take good) = (u8s log).take good := by simp [u8s, List.map_take]
    rw [htl, htu] at hpost'
    replace htl : Hid (_ = _) := htl
    replace htu : Hid (_ = _) := htu
    replace hclip : Hid (RowW _ _ _ _ _) := hclip
    replace hpost' : Hid (∀ _, _) := hpost'
    replace hR : Hid (RowW _ _ _ _ _) := hR
    replace hB : Hid (Blk _ _ _ _) := hB
    go_enter Tryz.func47, Tryz.ntmps47
    go_wp2_with fail
    refine (hread.out _).mono ?_
    rintro e w1 ⟨v, rfl, hb1, hs1, hf1⟩
    have k1 := hB.out.call hb1
    have c1 := k1.cell
    have f1 := k1.frozen
    have l1 := k1.lt
    obtain ⟨va, vn, vc, hve⟩ : ∃ a n c, v = .slice a n c := by
      rcases hs1.2 with ⟨rfl, -⟩ | ⟨b, off, cap, rfl, -⟩
      · exact ⟨_, _, _, rfl⟩
      · exact ⟨_, _, _, rfl⟩
    subst hve
    replace hs1 : Hid (Src _ _ _ _ _) := hs1
    replace hf1 : Hid (∀ _, _) := hf1
    clear e0 hcv
    go_wp2_with fail
    refine (snapshot_any B _ ⟨log, cap, false, 0, false⟩ _ ((((k1.set (o := 0) (.slice (some<|⟨g,0,none⟩) good good)).set (o := 3) (.bool false)).set (o := 4) (.int .i64 0)).set (o := 5) (.bool false))).mono ?_
    rintro e w2 ⟨rfl, hb2⟩
    have hM1 : Mod (fun k => k = B) w1 w2 :=
      (((((Mod.refl (fun k => k = B) w1).thenSet (p := ⟨B, 0, none⟩) rfl (.slice (some<|⟨g,0,none⟩) good good)).thenSet (p := ⟨B, 3, none⟩) rfl (.bool false)).thenSet (p := ⟨B, 4, none⟩) rfl (.int .i64 0)).thenSet (p := ⟨B, 5, none⟩) rfl (.bool false)).thenCall hb2
    have hM5 : Mod (fun k => k = B) w ((((w1.setCell ⟨B, 0, none⟩ (.slice (some<|⟨g,0,none⟩) good good)).setCell ⟨B, 3, none⟩ (.bool false)).setCell ⟨B, 4, none⟩ (.int .i64 0)).setCell ⟨B, 5, none⟩ (.bool false)) :=
      ((((Mod.of_below (fun k => k = B) hb1).thenSet (p := ⟨B, 0, none⟩) rfl _).thenSet (p := ⟨B, 3, none⟩) rfl _).thenSet (p := ⟨B, 4, none⟩) rfl _).thenSet (p := ⟨B, 5, none⟩) rfl _
    have k5 := ((((k1.set (o := 0) (.slice (some<|⟨g,0,none⟩) good good)).set (o := 3) (.bool false)).set (o := 4) (.int .i64 0)).set (o := 5) (.bool false)).call hb2
    go_wp2
    go_ret3
    refine hpost'.out _ _ _ (hM5.thenCall hb2) k5 ?_ ?_ ?_ ?_
    · refine hclip.out.kept (fun g' hg' => ?_)
      cases hg'
      exact (hb2.block g (by simp; have := hb1.size; omega)).trans ((Below.heap_setCell _ _ _ _ hgB).trans ((Below.heap_setCell _ _ _ _ hgB).trans ((Below.heap_setCell _ _ _ _ hgB).trans ((Below.heap_setCell _ _ _ _ hgB).trans (hb1.block g hgl)))))
    · exact .inr rfl
    · exact hs1.out.mod hM1 (fun a l c h e => by have := hf1.out a l c h; omega)
    · exact hf1.out
end Go.Proofs.YtaopeioebpfdeaaGreatDoor
namespace Go.Proofs.YtaopeioebpfdeaaGreatDoor
open Go Go.RowKit Go.Shelf Go.Extern.Stop Go.Stop Go.Extern
attribute [local go_sem] Oper.semAt_some wide_fn wide_depth

theorem src_msg {W : World} {l : List MsgD} {b off cap : Nat} (h : Src W (.slice (some ⟨b, off, none⟩) l.length cap) 3 l.length (l.flatMap msgCells)) {k : Nat} {x : MsgD} (hx : l[k]? = some x) :
    W.cell? ⟨b, off + k * 3, none⟩ = some (.int .i64 x.1.1) ∧ W.cell? ⟨b, off + k * 3 + 1, none⟩ = some (.int .u32 x.1.2) ∧ W.cell? ⟨b, off + k * 3 + 2, none⟩ = some (.string (bs x.2)) := by
  rcases h.2 with ⟨h, -⟩ | ⟨b', off', cap', h, -, hr⟩
  · cases h
  · cases h
    have hcell : ∀ j u, (msgCells x)[j]? = some u → j < 3 → W.cell? ⟨b, off + (k * 3 + j), none⟩ = some u := fun j u hu hj => hr _ u ((flatMsg_at l k x hx j hj).trans hu)
    exact ⟨hcell 0 _ rfl (by omega), hcell 1 _ rfl (by omega), hcell 2 _ rfl (by omega)⟩
set_option maxRecDepth 8000 in
set_option maxHeartbeats 1000000 in
theorem plRight_any (v : Value) (l : List MsgD) (w : World) (hv : Src w v 3 l.length (l.flatMap msgCells)) (hl : l.length ≤ 1073741824) :
    Calls Tryz.prog 137 #[v] w fun e w' => e = .returned (.bool (l.all rightM)) ∧ Below w.heap.size w w' := by
  rcases hv.2 with ⟨rfl, hn⟩ | ⟨b, off, cap, rfl, hc, -⟩
  · obtain rfl : l = [] := List.eq_nil_of_length_eq_zero hn
    clear hv
    go_enter Tryz.func137, Tryz.ntmps137
    go_wp2
    go_loop [7] (fun p7 => p7 = .int .i64 0) (fun _ => 0)
    case atStart => rfl
    case round =>
      subst hrel
      go_wp2
      go_ret
      exact ⟨rfl, Below.refl _ _⟩
  · go_enter Tryz.func137, Tryz.ntmps137
    go_wp2
    go_loopw [7] (fun p7 wr => ∃ k : Nat, k ≤ l.length ∧ p7 = .int .i64 k ∧ (l.take k).all rightM = true ∧ Below w.heap.size w wr) (fun p7 _ => l.length - (intOf p7).toNat)
    case atStart => exact ⟨0, Nat.zero_le _, rfl, rfl, Below.refl _ _⟩
    case round =>
      obtain ⟨k, hk, rfl, hall, hbw⟩ := hrel
      by_cases hlt : k < l.length
      · obtain ⟨x, hx⟩ : ∃ x, l[k]? = some x := ⟨_, List.getElem?_eq_getElem hlt⟩
        obtain ⟨c0, c1, c2⟩ := src_msg (hv.below hbw) hx
        have htk : (l.take (k + 1)).all rightM = ((l.take k).all rightM && rightM x) := by rw [List.take_add_one, hx]; simp [List.all_append]
        have hlk := cell_lt c0
        obtain ⟨⟨xi, xc⟩, xd⟩ := x
        simp only at c0 c1 c2 hlk
        have hr := fun W => right_any xi xc xd W
        cases hrx : rightM ((xi, xc), xd)
        · rw [hrx] at hr
          have hno : l.all rightM = false := by
            rw [Bool.eq_false_iff]
            intro h
            rw [List.all_eq_true] at h
            have := h _ (List.mem_of_getElem? hx)
            rw [hrx] at this; cases this
          replace hr : Hid (∀ _, _) := hr
          replace hx : Hid (_ = _) := hx
          replace htk : Hid (_ = _) := htk
          replace hall : Hid (_ = _) := hall
          replace hno : Hid (_ = _) := hno
          go_wp2_with fail
          refine (hr.out _).mono ?_
          rintro e w1 ⟨rfl, hb1⟩
          go_wp2
          go_ret
          exact ⟨by rw [hno.out]; rfl, by (repeat (first | exact Below.refl _ _ | with_reducible assumption | refine pb_alloc ?_ _ | refine pb_drew ?_ | refine pb_drewN ?_ _ | refine pb_set ?_ (by simp; try omega) _ | refine pb_trans ?_ (by with_reducible assumption)))⟩
        · rw [hrx] at hr htk
          rw [hall] at htk
          replace hr : Hid (∀ _, _) := hr
          replace hx : Hid (_ = _) := hx
          replace htk : Hid (_ = _) := htk
          replace hall : Hid (_ = _) := hall
          go_wp2_with fail
          refine (hr.out _).mono ?_
          rintro e w1 ⟨rfl, hb1⟩
          have hb2 : Below w.heap.size w w1 := by (repeat (first | exact Below.refl _ _ | with_reducible assumption | refine pb_alloc ?_ _ | refine pb_drew ?_ | refine pb_drewN ?_ _ | refine pb_set ?_ (by simp; try omega) _ | refine pb_trans ?_ (by with_reducible assumption)))
          go_wp2
          go_roundw
          case rel => exact ⟨k + 1, by omega, by go_num, htk.out, hb2⟩
          case measure => simp [intOf]; omega
      · obtain rfl : k = l.length := by omega
        rw [List.take_length] at hall
        replace hall : Hid (_ = _) := hall
        go_wp2
        go_ret
        exact ⟨by rw [hall.out]; rfl, hbw⟩

theorem doneOne_take {p : PoolS} {l : List MsgD} {k : Nat} {x : MsgD} (hx : l[k]? = some x) : (l.take (k + 1)).foldl doneOne p = doneOne ((l.take k).foldl doneOne p) x := by
  rw [List.take_add_one, hx]; simp [List.foldl_append]
/-- What Done comes to. -/
def DonePost (B : Nat) (p : PoolS) (t : List Nat) (ow : Own) (w : World) (e : Ending) (w' : World) : Prop :=
  ∃ v, e = .returned v ∧ Step t ow w ow w' ∧ PoolAt B p t ow w'
set_option maxRecDepth 8000 in
set_option maxHeartbeats 2000000 in
theorem plDone_any (B : Nat) (p : PoolS) (t : List Nat) (ow : Own) (v : Value) (l : List MsgD) (w : World) (h : PoolAt B p t ow w) (hv : Src w v 3 l.length (l.flatMap msgCells)) (hl : l.length ≤ 1073741824) (hvn : ∀ a n c, v = .slice (some a) n c → ¬ Sub t (ow a.block)) :
    Calls Tryz.prog 109 #[.pointer (some ⟨B, 0, none⟩), v] w (DonePost B (doneP p l) t ow w) := by
  have h0 := h
  obtain ⟨hok, wb, db, hB, hwm, hdm, hne, o1, o2, o3⟩ := h
  have hnil := fun W hW => plNil_any B wb db W hW
  have hright := fun W hW => plRight_any v l W hW hl
  unfold poolCells at hB hnil
  have hdp : doneP p l = if l.all rightM then l.foldl doneOne p else p := rfl
  obtain ⟨va, vc, rfl⟩ := hv.shape
  cases hall : l.all rightM
  · rw [hall] at hright
    rw [if_neg (by simp [hall])] at hdp
    rw [hdp]
    replace hdp : Hid (_ = _) := hdp
    replace hall : Hid (_ = _) := hall
    replace hnil : Hid (∀ _, _) := hnil
    replace hright : Hid (∀ _, _) := hright
    replace h0 : Hid (PoolAt _ _ _ _ _) := h0
    replace hvn : Hid (∀ _, _) := hvn
    clear hwm hdm
    go_enter Tryz.func109, Tryz.ntmps109
    go_wp2_with fail
    refine (hnil.out _ hB).mono ?_
    rintro e w1 ⟨rfl, hw1⟩
    obtain rfl := hw1.symm
    go_wp2_with fail
    refine (hright.out _ hv).mono ?_
    rintro e w2 ⟨rfl, hb2⟩
    go_wp2
    go_ret2
    exact ⟨_, rfl, Step.of_below t ow hb2, (PoolAt.loc B p t).below h0.out hb2⟩
  · rw [hall] at hright
    rw [if_pos hall] at hdp
    rw [hdp]
    replace hdp : Hid (_ = _) := hdp
    replace hall : Hid (_ = _) := hall
    replace hnil : Hid (∀ _, _) := hnil
    replace hright : Hid (∀ _, _) := hright
    replace h0 : Hid (PoolAt _ _ _ _ _) := h0
    replace hvn : Hid (∀ _, _) := hvn
    go_enter Tryz.func109, Tryz.ntmps109
    go_wp2_with fail
    refine (hnil.out _ hB).mono ?_
    rintro e w1 ⟨rfl, hw1⟩
    obtain rfl := hw1.symm
    go_wp2_with fail
    refine (hright.out _ hv).mono ?_
    rintro e W0 ⟨rfl, hb2⟩
    go_wp2
    go_loopw [6, 16] (fun p6 p16 wr => ∃ (k : Nat) (acc : List MsgD), k ≤ l.length ∧ p16 = .int .i64 k ∧ acc.length ≤ k ∧ Row wr 34 3 p6 acc.length (acc.flatMap msgCells) ∧ (∀ g, p6.ownBlock = some g → w.heap.size ≤ g) ∧ Mod (fun j => j = wb ∨ j = db) w wr ∧ PoolOk ((l.take k).foldl doneOne p) ∧ MapAt wr wb idV (((l.take k).foldl doneOne p).waits.map fun q => (q.1, msgV q.2)) ∧ MapAt wr db idV (((l.take k).foldl doneOne p).done.map fun q => (q.1, unitV))) (fun _ p16 _ => l.length - (intOf p16).toNat)
    case atStart => exact ⟨0, [], Nat.zero_le _, rfl, Nat.le_refl _, row_nil _ _ _, by simp [Value.ownBlock], Mod.of_below _ hb2, hok, hwm.kept (hb2.block _ hwm.lt), hdm.kept (hb2.block _ hdm.lt)⟩
    case round =>
      obtain ⟨k, acc, hk, rfl, hacc, hrow, hown, hmod, hPok, hPw, hPd⟩ := hrel
      have hBr := hB.mod hmod (fun e => by rcases e with e | e; exact hB.ne_map hwm e; exact hB.ne_map hdm e)
      by_cases hlt : k < l.length
      · obtain ⟨x, hx⟩ : ∃ x, l[k]? = some x := ⟨_, List.getElem?_eq_getElem hlt⟩
        have hvr : Src wr (.slice va l.length vc) 3 l.length (l.flatMap msgCells) := hv.mod hmod (fun a n c h e => by rcases e with e | e; exact hvn.out a n c h (by rw [e, o2]; exact Sub.rfl' t); exact hvn.out a n c h (by rw [e, o3]; exact Sub.rfl' t))
        obtain ⟨b, off, hva⟩ : ∃ b off, va = some ⟨b, off, none⟩ := by
          rcases hvr.2 with ⟨h, hn⟩ | ⟨b', off', cap', h, -, -⟩
          · omega
          · cases h; exact ⟨_, _, rfl⟩
        subst hva
        obtain ⟨c0, c1, c2⟩ := src_msg hvr hx
        have htk := doneOne_take (p := p) hx
        have hlk := cell_lt c0
        generalize (l.take k).foldl doneOne p = q at *
        obtain ⟨⟨xi, xc⟩, xd⟩ := x
        simp only at c0 c1 c2 hlk
        have hisd := fun W hW => plIs_any B q t ow xi xc W hW
        have hq1 : doneOne q ((xi, xc), xd) = if (look (xi, xc) q.done).isSome then q else { waits := del (xi, xc) q.waits, done := put (xi, xc) () q.done } := rfl
        rw [hq1] at htk
        have hPA : PoolAt B q t ow (wr.alloc (.cells #[.int .i64 xi, .int .u32 xc, .string (bs xd)] 34)) := ⟨hPok, wb, db, hBr.alloc _, hPw.kept (Below.heap_alloc _ _ _ hPw.lt), hPd.kept (Below.heap_alloc _ _ _ hPd.lt), hne, o1, o2, o3⟩
        obtain ⟨ra, rn, rc, rfl⟩ := hrow.shape
        replace hx : Hid (_ = _) := hx
        replace hv : Hid (Src _ _ _ _ _) := hv
        replace hvr : Hid (Src _ _ _ _ _) := hvr
        replace hPA : Hid (PoolAt _ _ _ _ _) := hPA
        replace hown : Hid (∀ _, _) := hown
        cases hd : (look (xi, xc) q.done).isSome
        · rw [hd] at hisd htk
          rw [if_neg (by simp)] at htk
          replace hisd : Hid (∀ _, _) := hisd
          replace htk : Hid (_ = _) := htk
          replace hd : Hid (_ = _) := hd
          go_wp2_with fail
          refine (hisd.out _ hPA.out).mono ?_
          rintro e w1 ⟨rfl, hb1⟩
          clear c0 c1 c2
          have hb1r : Below wr.heap.size wr w1 := pb_trans (pb_alloc (Below.refl _ _) _) hb1
          have kB1 := hBr.call hb1r
          have kX1 : Blk w1 wr.heap.size #[.int .i64 xi, .int .u32 xc, .string (bs xd)] 34 := Blk.call (Blk.new rfl) hb1
          have kw1 := hPw.kept (hb1r.block _ hPw.lt)
          have kd1 := hPd.kept (hb1r.block _ hPd.lt)
          have hBw : B ≠ wb := hB.ne_map hwm
          have hBd : B ≠ db := hB.ne_map hdm
          have hXw : wr.heap.size ≠ wb := by have := hPw.lt; omega
          have hXd : wr.heap.size ≠ db := by have := hPd.lt; omega
          obtain ⟨od, hud, kd2⟩ := (kd1.kept (w' := w1.drew) rfl).update idKey Tryz.underlying163 ((xi, xc) : MId) unitV
          have hpm := put_map (fun _ : Unit => unitV) ((xi, xc) : MId) () q.done
          rw [hpm] at kd2
          unfold unitV idV at hud
          go_wp2_with fail
          refine wp_region_sched [(0, true), (1, true), (2, true), (3, true), (4, true), (5, true), (6, false), (7, false)] none (fun w' => Blk w' B #[.map (some wb), .map (some db)] 165 ∧ Blk w' wr.heap.size #[.int .i64 xi, .int .u32 xc, .string (bs xd)] 34 ∧ True) (by kernel_rfl) (by kernel_rfl) ⟨kB1.drew, kX1.drew, trivial⟩ ?_
          (repeat (refine wpSched_quiet (v := ?_) rfl rfl (fun w' hS => ?_) (fun K hK => ?_); rotate_left; (focus ((try have e1 := hS.1.cell); (try have e2 := hS.2.1.cell); (try have e3 := hS.2.2.1.cell); (try have e4 := hS.2.2.2.1.cell); (try have f1 := hS.1); (try have f2 := hS.2.1); (try have f3 := hS.2.2.1); (try have f4 := hS.2.2.2.1); (try have f5 := hS.2.2.2.2.1); clear hS; go_simp; (try with_reducible rfl))); (go_simp; refine hK _ ?_; clear hK K)))
          refine wpSched_loud rfl (fun K hK => ?_)
          go_wp2
          refine hK.out _ _ (fun _ => ⟨kB1.drew, kX1.drew, trivial⟩) ?_
          clear hK K
          refine wpSched_loud rfl (fun K hK => ?_)
          go_wp2
          refine hK.out _ _ (fun _ => ⟨kB1.drew.putObj hBd od, kX1.drew.putObj hXd od, trivial⟩) ?_
          clear hK K
          refine wpSched_nil ?_
          obtain ⟨W2, hW2⟩ : ∃ W2, W2 = w1.drew.putObj db od := ⟨_, rfl⟩
          have kB2 : Blk W2 B #[.map (some wb), .map (some db)] 165 := by rw [hW2]; exact kB1.drew.putObj hBd od
          have kX2 : Blk W2 wr.heap.size #[.int .i64 xi, .int .u32 xc, .string (bs xd)] 34 := by rw [hW2]; exact kX1.drew.putObj hXd od
          have kw2 : MapAt W2 wb idV (q.waits.map fun q => (q.1, msgV q.2)) := by rw [hW2]; exact kw1.kept (w := w1) (World.putObj_heap_other hne)
          rw [← hW2] at kd2
          have hm2 : Mod (fun j => j = wb ∨ j = db) wr W2 := by rw [hW2]; exact ((Mod.of_below (fun j => j = wb ∨ j = db) hb1r).thenDrew).thenPut (.inr rfl) od
          rw [← hW2]
          clear hW2 hud kB1 kX1 kw1 kd1
          go_wp2_with fail
          obtain ⟨odl, hdel, kw3⟩ := (kw2.kept (w' := W2.drew) rfl).delete idKey Tryz.underlying162 #[162, 32] 0 rfl ((xi, xc) : MId)
          have hpd := del_map msgV ((xi, xc) : MId) q.waits
          rw [hpd] at kw3
          unfold idV at hdel
          refine wp_region_sched [(0, true), (1, true), (2, true), (3, true), (4, true), (5, true), (6, false)] none (fun w' => Blk w' B #[.map (some wb), .map (some db)] 165 ∧ Blk w' wr.heap.size #[.int .i64 xi, .int .u32 xc, .string (bs xd)] 34 ∧ True) (by kernel_rfl) (by kernel_rfl) ⟨kB2.drew, kX2.drew, trivial⟩ ?_
          (repeat (refine wpSched_quiet (v := ?_) rfl rfl (fun w' hS => ?_) (fun K hK => ?_); rotate_left; (focus ((try have e1 := hS.1.cell); (try have e2 := hS.2.1.cell); (try have e3 := hS.2.2.1.cell); (try have e4 := hS.2.2.2.1.cell); (try have f1 := hS.1); (try have f2 := hS.2.1); (try have f3 := hS.2.2.1); (try have f4 := hS.2.2.2.1); (try have f5 := hS.2.2.2.2.1); clear hS; go_simp; (try with_reducible rfl))); (go_simp; refine hK _ ?_; clear hK K)))
          refine wpSched_loud rfl (fun K hK => ?_)
          refine wpList_delete_by rfl _ _ _ _ rfl rfl rfl hdel ?_
          unfold wpList
          refine hK.out _ _ (fun _ => ⟨kB2.drew.putObj hBw odl, kX2.drew.putObj hXw odl, trivial⟩) ?_
          clear hK K
          refine wpSched_nil ?_
          obtain ⟨W3, hW3⟩ : ∃ W3, W3 = W2.drew.putObj wb odl := ⟨_, rfl⟩
          have kX3 : Blk W3 wr.heap.size #[.int .i64 xi, .int .u32 xc, .string (bs xd)] 34 := by rw [hW3]; exact kX2.drew.putObj hXw odl
          have kd3 : MapAt W3 db idV ((put (xi, xc) () q.done).map fun q => (q.1, unitV)) := by rw [hW3]; exact kd2.kept (w := W2) (World.putObj_heap_other (Ne.symm hne))
          rw [← hW3] at kw3
          have hm3 : Mod (fun j => j = wb ∨ j = db) wr W3 := by rw [hW3]; exact (hm2.thenDrew).thenPut (.inl rfl) odl
          rw [← hW3]
          clear hW3 hdel kB2 kX2 kw2 kd2
          have cX3 := kX3.cell
          have hrow3 := hrow.mod hm3 (fun g hg e => by have := hown.out g hg; have h1 := hwm.lt; have h2 := hdm.lt; rcases e with e | e <;> omega)
          obtain ⟨v', W4, hrun, hrow4, hgr, hown4⟩ := row_append msgT (hrow3.below ((Below.refl _ _).alloc (Nat.le_refl _) (.cells #[.int .i64 xi, .int .u32 xc, .string (bs xd)] 34))) (src_blk (n := 1) (size := 3) (cap := 1) (Blk.new (w := W3) (cs := #[.int .i64 xi, .int .u32 xc, .string (bs xd)]) (t := 34) rfl) rfl (Nat.le_refl 1)) (msgCells_one [((xi, xc), xd)]) (by omega) 42
          obtain ⟨sa, sm, sc, rfl⟩ := hrow4.shape
          replace hrow4 : Hid (Row _ _ _ _ _ _) := hrow4
          replace hown4 : Hid (_ ∨ _) := hown4
          replace hrow3 : Hid (Row _ _ _ _ _ _) := hrow3
          replace hrow : Hid (Row _ _ _ _ _ _) := hrow
          replace kw3 : Hid (MapAt _ _ _ _) := kw3
          replace kd3 : Hid (MapAt _ _ _ _) := kd3
          replace hPw : Hid (MapAt _ _ _ _) := hPw
          replace hPd : Hid (MapAt _ _ _ _) := hPd
          go_wp2_with (at_builtin
                       refine wpList_append_by rfl _ _ _ rfl rfl rfl hrun ?_)
          go_roundw
          case rel =>
            have hm4 : Mod (fun j => j = wb ∨ j = db) w W4 := by
              have hw3 := hmod.trans hm3 (Z := fun j => j = wb ∨ j = db) (fun _ _ e => e) (fun _ _ e => e)
              have h5 := (hw3.thenAlloc (.cells #[.int .i64 xi, .int .u32 xc, .string (bs xd)] 34)).trans (Mod.grown (X := fun k => (Value.slice ra rn rc).ownBlock = some k) hgr (fun k h => h)) (Z := fun j => (j = wb ∨ j = db) ∨ (Value.slice ra rn rc).ownBlock = some j) (fun _ _ e => .inl e) (fun _ _ e => .inr e)
              exact h5.mono (fun j hj e => by rcases e with e | e; exact e; have := hown.out j e; omega)
            have hgn : ∀ j, (j = wb ∨ j = db) → W4.heap[j]? = W3.heap[j]? := fun j hj => by
              have hjl : j < w.heap.size := by rcases hj with e | e; rw [e]; exact hwm.lt; rw [e]; exact hdm.lt
              have hsz3 := hm3.size
              have hszr := hmod.size
              exact (hgr.block j (by simp; omega) (fun e => by have := hown.out j e.symm; omega)).trans (Below.heap_alloc _ _ _ (by omega))
            refine ⟨k + 1, acc ++ [((xi, xc), xd)], by omega, by go_num, by simp; omega, ?_, fun g hg => ?_, hm4, ?_, ?_, ?_⟩
            · rw [List.length_append, List.length_singleton, List.flatMap_append]; exact hrow4.out
            · have h5 := hown4.out
              rw [hg] at h5
              rcases h5 with h | h
              · exact hown.out g h.symm
              · have := hm3.size; have := hmod.size; simp at h; omega
            · rw [htk.out]; exact hPok.less _ _
            · rw [htk.out]; exact kw3.out.kept (hgn wb (.inl rfl))
            · rw [htk.out]; exact kd3.out.kept (hgn db (.inr rfl))
          case measure => simp [intOf]; omega
        · rw [hd] at hisd htk
          rw [if_pos rfl] at htk
          replace hisd : Hid (∀ _, _) := hisd
          replace htk : Hid (_ = _) := htk
          replace hd : Hid (_ = _) := hd
          replace hrow : Hid (Row _ _ _ _ _ _) := hrow
          replace hPw : Hid (MapAt _ _ _ _) := hPw
          replace hPd : Hid (MapAt _ _ _ _) := hPd
          go_wp2_with fail
          refine (hisd.out _ hPA.out).mono ?_
          rintro e w1 ⟨rfl, hb1⟩
          have hb1r : Below wr.heap.size wr w1 := pb_trans (pb_alloc (Below.refl _ _) _) hb1
          go_wp2
          go_roundw
          case rel => exact ⟨k + 1, acc, by omega, by go_num, by omega, hrow.out.below hb1r, hown.out, hmod.thenCall hb1r, by rw [htk.out]; exact hPok, by rw [htk.out]; exact hPw.out.kept (hb1r.block _ hPw.out.lt), by rw [htk.out]; exact hPd.out.kept (hb1r.block _ hPd.out.lt)⟩
          case measure => simp [intOf]; omega
      · obtain rfl : k = l.length := by omega
        rw [List.take_length] at hPok hPw hPd
        replace hPw : Hid (MapAt _ _ _ _) := hPw
        replace hPd : Hid (MapAt _ _ _ _) := hPd
        obtain ⟨ra, rn, rc, rfl⟩ := hrow.shape
        go_wp2
        go_ret2
        exact ⟨_, rfl, ⟨hmod.mono (fun k _ e => by rcases e with e | e; subst e; rw [o2]; exact Sub.rfl' t; subst e; rw [o3]; exact Sub.rfl' t), fun _ _ => rfl⟩, hPok, wb, db, hBr, hPw.out, hPd.out, hne, o1, o2, o3⟩
end Go.Proofs.YtaopeioebpfdeaaGreatDoor
namespace Go.Proofs
open Go.Shelf
def Tryz.sortPend_ren : Go.Shelf.Ren := ⟨fun | 6 => 143 | 15 => 168 | 14 => 167 | 28 => 197 | 29 => 198 | 20 => 189 | 21 => 190 | 22 => 191 | 23 => 192 | 24 => 193 | 25 => 194 | 26 => 195 | 27 => 196 | 46 => 205 | 47 => 206 | 48 => 207 | 49 => 208 | 50 => 209 | 57 => 216 | n => n, fun | 22 => 229 | 24 => 178 | 25 => 231 | 3 => 3 | 39 => 55 | 0 => 0 | 53 => 30 | 55 => 22 | 4 => 4 | 46 => 284 | 45 => 283 | 50 => 288 | 5 => 5 | 9 => 9 | 66 => 307 | 70 => 311 | 76 => 318 | 77 => 319 | n => n, fun | n => n⟩
theorem Tryz.sortPend : Go.Proofs.SlLaysF0.n6 Tryz.prog Tryz.sortPend_ren := {
  mixed := by kernel_rfl
  f6 := ⟨Tryz.f143.name, by decide, Tryz.func143.trans (congrArg some (by kernel_rfl))⟩
  f14 := ⟨Tryz.f167.name, by decide, Tryz.func167.trans (congrArg some (by kernel_rfl))⟩
  f15 := Tryz.func168.trans (congrArg some (by kernel_rfl))
  f20 := ⟨Tryz.f189.name, by decide, Tryz.func189.trans (congrArg some (by kernel_rfl))⟩
  f21 := ⟨Tryz.f190.name, by decide, Tryz.func190.trans (congrArg some (by kernel_rfl))⟩
  f22 := ⟨Tryz.f191.name, by decide, Tryz.func191.trans (congrArg some (by kernel_rfl))⟩
  f23 := ⟨Tryz.f192.name, by decide, Tryz.func192.trans (congrArg some (by kernel_rfl))⟩
  f24 := ⟨Tryz.f193.name, by decide, Tryz.func193.trans (congrArg some (by kernel_rfl))⟩
  f25 := ⟨Tryz.f194.name, by decide, Tryz.func194.trans (congrArg some (by kernel_rfl))⟩
  f26 := ⟨Tryz.f195.name, by decide, Tryz.func195.trans (congrArg some (by kernel_rfl))⟩
  f27 := ⟨Tryz.f196.name, by decide, Tryz.func196.trans (congrArg some (by kernel_rfl))⟩
  f28 := Tryz.func197.trans (congrArg some (by kernel_rfl))
  f29 := Tryz.func198.trans (congrArg some (by kernel_rfl))
  f46 := ⟨Tryz.f205.name, by decide, Tryz.func205.trans (congrArg some (by kernel_rfl))⟩
  f47 := Tryz.func206.trans (congrArg some (by kernel_rfl))
  f48 := Tryz.func207.trans (congrArg some (by kernel_rfl))
  f49 := ⟨Tryz.f208.name, by decide, Tryz.func208.trans (congrArg some (by kernel_rfl))⟩
  f50 := ⟨Tryz.f209.name, by decide, Tryz.func209.trans (congrArg some (by kernel_rfl))⟩
  f57 := ⟨Tryz.f216.name, by decide, Tryz.func216.trans (congrArg some (by kernel_rfl))⟩
  t0 := Tryz.underlying0
  a0 := Tryz.isAgg0
  z0 := Tryz.sizeOf0
  v0 := Tryz.zeroValue0
  t3 := Tryz.underlying3
  a3 := Tryz.isAgg3
  z3 := Tryz.sizeOf3
  v3 := Tryz.zeroValue3
  t4 := Tryz.underlying4
  a4 := Tryz.isAgg4
  z4 := Tryz.sizeOf4
  v4 := Tryz.zeroValue4
  t5 := Tryz.underlying5
  a5 := Tryz.isAgg5
  z5 := Tryz.sizeOf5
  v5 := Tryz.zeroValue5
  t9 := Tryz.underlying9
  a9 := Tryz.isAgg9
  z9 := Tryz.sizeOf9
  v9 := Tryz.zeroValue9
  t22 := Tryz.underlying229
  a22 := Tryz.isAgg229
  z22 := Tryz.sizeOf229
  v22 := Tryz.zeroValue229
  t25 := Tryz.underlying231
  a25 := Tryz.isAgg231
  z25 := Tryz.sizeOf231
  v25 := Tryz.zeroValue231
  t39 := Tryz.underlying55
  a39 := Tryz.isAgg55
  z39 := Tryz.sizeOf55
  v39 := Tryz.zeroValue55
  t45 := Tryz.underlying283
  a45 := Tryz.isAgg283
  z45 := Tryz.sizeOf283
  v45 := Tryz.zeroValue283
  t46 := Tryz.underlying284
  a46 := Tryz.isAgg284
  z46 := Tryz.sizeOf284
  v46 := Tryz.zeroValue284
  t50 := Tryz.underlying288
  a50 := Tryz.isAgg288
  z50 := Tryz.sizeOf288
  v50 := Tryz.zeroValue288
  t53 := Tryz.underlying30
  a53 := Tryz.isAgg30
  z53 := Tryz.sizeOf30
  v53 := Tryz.zeroValue30
  t55 := Tryz.underlying22
  a55 := Tryz.isAgg22
  z55 := Tryz.sizeOf22
  v55 := Tryz.zeroValue22
  t66 := Tryz.underlying307
  a66 := Tryz.isAgg307
  z66 := Tryz.sizeOf307
  v66 := Tryz.zeroValue307
  t70 := Tryz.underlying311
  a70 := Tryz.isAgg311
  z70 := Tryz.sizeOf311
  v70 := Tryz.zeroValue311
  t76 := Tryz.underlying318
  a76 := Tryz.isAgg318
  z76 := Tryz.sizeOf318
  v76 := Tryz.zeroValue318
  t77 := Tryz.underlying319
  a77 := Tryz.isAgg319
  z77 := Tryz.sizeOf319
  v77 := Tryz.zeroValue319 }
end Go.Proofs
