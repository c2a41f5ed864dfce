/- PROVED HERE: WALK: node's Broadcast. Condition: the node is one that calls have made, with no bad versions. -/
import Derived.Test.YtaopeioebpfdeaaGreatDoorK19
import Derived.Test.YtaopeioebpfdeaaGreatDoorK34
namespace Go.Proofs.YtaopeioebpfdeaaGreatDoor
open Go Go.RowKit Go.Shelf Go.Extern.Stop Go.Stop Go.Extern
attribute [local go_sem] Oper.semAt_some wide_fn wide_depth

/-- What Broadcast tells. -/
def castV2 (r : MsgD × Int) : Value := .tuple #[msgV r.1, .int .i64 r.2]
theorem offerN_fuel : ∀ (k : Nat) (n : NodeS), n.acc.length ≤ k + n.offered → offerN (k + 1) n = offerN k n
  | 0, n, h => by
    have hx : n.acc[n.offered]? = none := List.getElem?_eq_none (by omega)
    unfold offerN; simp only [hx]; try rfl
  | k + 1, n, h => by
    rw [offerN]
    conv => rhs; rw [offerN]
    cases hx : n.acc[n.offered]? with
    | none => rfl
    | some m =>
      simp only
      split
      · exact offerN_fuel k _ (by show n.acc.length ≤ k + (n.offered + 1); omega)
      · rfl
theorem bcast_zero {B : Nat} {m : NodeS} {t : List Nat} {ow ow' : Own} {w w' : World} (hs : Step t ow w ow' w') (h : NodeAt B m t ow' w') (er : Int) : NodePost B m t ow w (castV2 (((0, 0), []), er)) (.returned (.tuple #[.agg #[.int .i64 0, .int .u32 0, .string ⟨#[]⟩], .int .i64 er])) w' := ⟨rfl, ow', hs, h⟩
set_option maxRecDepth 8000 in
set_option maxHeartbeats 2000000 in
theorem nBroadcast_any {px sb lb pb : Nat} {av : Value} (B : Nat) (n : NodeS) (t : List Nat) (ht : t ≠ []) (ow : Own) (d : List UInt8) (hdl : d.length ≤ 1000000) (w : World) (hN : NodeIs B px sb lb pb av n t ow w) (hcap : CapOk n.store) (hal : n.acc.length ≤ 200000) :
    Calls Tryz.prog 10 #[.pointer (some ⟨B, 0, none⟩), .string (bs d)] w (NodePost B (broadcastN n d).1 t ow w (castV2 (broadcastN n d).2)) := by
  have hB := hN.blk
  have hbn : broadcastN n d = if n.down then (n, ((0, 0), []), 170)
      else if rightM ((n.id, n.acc.length + 1), d) = false then (n, ((0, 0), []), 100)
      else if (keepN n false ([109] ++ (packP [((n.id, n.acc.length + 1), d)]).1)).2 ≠ 0 then ((keepN n false ([109] ++ (packP [((n.id, n.acc.length + 1), d)]).1)).1, ((0, 0), []), (keepN n false ([109] ++ (packP [((n.id, n.acc.length + 1), d)]).1)).2)
      else (offerN (n.acc.length + 1) { (keepN n false ([109] ++ (packP [((n.id, n.acc.length + 1), d)]).1)).1 with acc := n.acc ++ [((n.id, n.acc.length + 1), d)] }, ((n.id, n.acc.length + 1), d), 0) := rfl
  have hNa := (NodeIs.loc B px sb lb pb av n t).cut hN ((Below.refl w.heap.size w).alloc (Nat.le_refl _) (.cells #[.int .i64 0, .int .u32 0, .string ⟨#[]⟩] 34))
  have hrW := nReady_any _ hNa.blk
  unfold readyN at hrW
  obtain ⟨va, vc, rfl⟩ := hN.row.src.shape
  unfold nodeCells at hB
  have e0 := hB.cell
  have l0 := hB.lt
  have hw1 : IntKind.u32.wrap (n.acc.length : Int) = (n.acc.length : Int) := by rw [IntKind.wrap_u32]; omega
  by_cases hd : n.down = true
  · rw [if_pos hd] at hbn
    rw [hd] at hrW
    rw [hbn]
    replace hbn : Hid (_ = _) := hbn
    replace hrW : Hid (Calls _ _ _ _ _) := hrW
    replace hd : Hid (_ = _) := hd
    go_enter Tryz.func10, Tryz.ntmps10
    go_wp2_with fail
    refine hrW.out.mono ?_
    rintro e w1 ⟨rfl, hw1⟩
    obtain rfl := hw1.symm
    go_wp2
    exact bodyPost_ret (v := .tuple #[.agg #[.int .i64 0, .int .u32 0, .string ⟨#[]⟩], .int .i64 170]) (by simp [results, Tryz.results10, go_sem]) rfl (bcast_zero (Step.of_below t ow (by (repeat (first | exact Below.refl _ _ | with_reducible assumption | refine pb_alloc ?_ _ | refine pb_drew ?_ | refine pb_drewN ?_ _ | refine pb_set ?_ (by simp; try omega) _ | refine pb_trans ?_ (by with_reducible assumption))))) ⟨_, _, _, _, _, (NodeIs.loc B px sb lb pb _ n t).below hN (by (repeat (first | exact Below.refl _ _ | with_reducible assumption | refine pb_alloc ?_ _ | refine pb_drew ?_ | refine pb_drewN ?_ _ | refine pb_set ?_ (by simp; try omega) _ | refine pb_trans ?_ (by with_reducible assumption))))⟩ 170)
  · have hd' : n.down = false := by simpa using hd
    rw [if_neg hd] at hbn
    rw [hd'] at hrW
    replace hrW : Hid (Calls _ _ _ _ _) := hrW
    replace hd : Hid (_ → _) := hd
    replace hd' : Hid (_ = _) := hd'
    obtain ⟨c, hc⟩ : ∃ c, n.acc.length + 1 = c := ⟨_, rfl⟩
    have hci : (n.acc.length : Int) + 1 = (c : Int) := by omega
    have hw2 : IntKind.u32.wrap ((n.acc.length : Int) + 1) = (c : Int) := by rw [IntKind.wrap_u32]; omega
    have hwc : IntKind.u32.wrap (c : Int) = (c : Int) := by rw [IntKind.wrap_u32]; omega
    rw [hc] at hbn
    have hright := fun W => right_any n.id c d W
    cases hr : rightM ((n.id, c), d)
    · rw [if_pos hr] at hbn
      rw [hr] at hright
      rw [hbn]
      replace hbn : Hid (_ = _) := hbn
      replace hright : Hid (∀ _, _) := hright
      replace hr : Hid (_ = _) := hr
      replace hc : Hid (_ = _) := hc
      go_enter Tryz.func10, Tryz.ntmps10
      go_wp2_with fail
      refine hrW.out.mono ?_
      rintro e w1 ⟨rfl, hw1⟩
      obtain rfl := hw1.symm
      go_wp2_with fail
      apply wp_one (Wp := fun w' => Below w.heap.size w w' ∧ Blk w' w.heap.size #[.int .i64 0, .int .u32 0, .string ⟨#[]⟩] 34 ∧ Blk w' (w.heap.size + 1) #[.int .i64 n.id, .int .u32 c, .string (bs d)] 34)
      case h =>
        go_region_with fail
        all_goals go_simp
        all_goals exact sameAt ⟨by (repeat (first | exact Below.refl _ _ | with_reducible assumption | refine pb_alloc ?_ _ | refine pb_drew ?_ | refine pb_drewN ?_ _ | refine pb_set ?_ (by simp; try omega) _ | refine pb_trans ?_ (by with_reducible assumption))), by (repeat (first | with_reducible assumption | (refine Blk.new ?_; simp; done) | refine Blk.alloc ?_ _ | refine Blk.drew ?_ | refine Blk.drewN ?_ _ | refine Blk.call ?_ (by with_reducible assumption))), by (repeat (first | with_reducible assumption | (refine Blk.new ?_; simp; done) | refine Blk.alloc ?_ _ | refine Blk.drew ?_ | refine Blk.drewN ?_ _ | refine Blk.call ?_ (by with_reducible assumption)))⟩
      case' h2 =>
      rintro w1 ⟨hb1, k41, k71⟩
      have c71 := k71.cell
      have l71 := k71.lt
      go_wp2_with fail
      refine (hright.out _).mono ?_
      rintro e w2 ⟨rfl, hb2⟩
      have k42 := k41.call hb2
      have k72 := k71.call hb2
      have hb2w := pb_trans hb1 hb2
      have c42 := k42.cell
      have f42 := k42.frozen
      have l42 := k42.lt
      have c72 := k72.cell
      have l72 := k72.lt
      clear c71 l71
      have rr := (((k42.set (o := 0) (.int .i64 0)).set (o := 1) (.int .u32 0)).set (o := 2) (.string ⟨#[]⟩)).cell
      go_wp2
      exact bodyPost_ret (v := .tuple #[.agg #[.int .i64 0, .int .u32 0, .string ⟨#[]⟩], .int .i64 100]) (by simp [results, Tryz.results10, go_sem, rr]) rfl (bcast_zero (Step.of_below t ow (pb_set (pb_set (pb_set hb2w (by simp) _) (by simp) _) (by simp) _)) ⟨_, _, _, _, _, (NodeIs.loc B px sb lb pb _ n t).below hN (pb_set (pb_set (pb_set hb2w (by simp) _) (by simp) _) (by simp) _)⟩ 100)
    · rw [if_neg (by simp [hr])] at hbn
      rw [hr] at hright
      have hpk0 := pack_one hr
      obtain ⟨pk, hpk⟩ : ∃ pk, [1] ++ msgBytes ((n.id, c), d) = pk := ⟨_, rfl⟩
      rw [hpk] at hpk0
      rw [hpk0] at hbn
      simp only at hbn
      have hpkl : pk.length ≤ 1010 := by
        rw [← hpk]
        have : d.length ≤ 1000 := by simp [rightM] at hr; omega
        simp [msgBytes, le4_length]; omega
      have hpack := fun v W hW => pack_any v [((n.id, c), d)] W hW (by simp)
      rw [hpk0] at hpack
      have hkp := fun W h2 kb kc g h3 h4 k0 k1 kg => keep_call B n t ht ow w ⟨_, _, _, _, _, hN⟩ hcap false [[109], pk] (by simp) (by simp) (by simp; omega) W h2 kb kc g h3 h4 k0 k1 kg
      rw [show [[109], pk].flatten = [109] ++ pk by simp] at hkp
      unfold KeepPost at hkp
      have hka : (keepN n false ([109] ++ pk)).1.acc = n.acc := rfl
      obtain ⟨⟨m, ek⟩, hm⟩ : ∃ R, keepN n false ([109] ++ pk) = R := ⟨_, rfl⟩
      rw [hm] at hkp hbn hka
      simp only at hkp hbn hka
      replace hkp : Hid (∀ _, _) := hkp
      replace hm : Hid (_ = _) := hm
      replace hpack : Hid (∀ _, _) := hpack
      replace hright : Hid (∀ _, _) := hright
      replace hr : Hid (_ = _) := hr
      replace hc : Hid (_ = _) := hc
      replace hpk : Hid (_ = _) := hpk
      replace hpk0 : Hid (_ = _) := hpk0
      replace hka : Hid (_ = _) := hka
      by_cases hek : ek = 0
      · subst hek
        rw [if_neg (by simp)] at hbn
        rw [hbn]
        have t3 : ((0 : Int) != 0) = false := rfl
        replace hbn : Hid (_ = _) := hbn
        go_enter Tryz.func10, Tryz.ntmps10
        go_wp2_with fail
        refine hrW.out.mono ?_
        rintro e w1 ⟨rfl, hw1⟩
        obtain rfl := hw1.symm
        go_wp2_with fail
        apply wp_one (Wp := fun w' => Below w.heap.size w w' ∧ Blk w' w.heap.size #[.int .i64 0, .int .u32 0, .string ⟨#[]⟩] 34 ∧ Blk w' (w.heap.size + 1) #[.int .i64 n.id, .int .u32 c, .string (bs d)] 34)
        case h =>
          go_region_with fail
          all_goals go_simp
          all_goals exact sameAt ⟨by (repeat (first | exact Below.refl _ _ | with_reducible assumption | refine pb_alloc ?_ _ | refine pb_drew ?_ | refine pb_drewN ?_ _ | refine pb_set ?_ (by simp; try omega) _ | refine pb_trans ?_ (by with_reducible assumption))), by (repeat (first | with_reducible assumption | (refine Blk.new ?_; simp; done) | refine Blk.alloc ?_ _ | refine Blk.drew ?_ | refine Blk.drewN ?_ _ | refine Blk.call ?_ (by with_reducible assumption))), by (repeat (first | with_reducible assumption | (refine Blk.new ?_; simp; done) | refine Blk.alloc ?_ _ | refine Blk.drew ?_ | refine Blk.drewN ?_ _ | refine Blk.call ?_ (by with_reducible assumption)))⟩
        case' h2 =>
        rintro w1 ⟨hb1, k41, k71⟩
        have c71 := k71.cell
        have l71 := k71.lt
        go_wp2_with fail
        refine (hright.out _).mono ?_
        rintro e w2 ⟨rfl, hb2⟩
        have k42 := k41.call hb2
        have k72 := k71.call hb2
        have hb2w := pb_trans hb1 hb2
        have c42 := k42.cell
        have f42 := k42.frozen
        have l42 := k42.lt
        have c72 := k72.cell
        have l72 := k72.lt
        clear c71 l71
        go_wp2_with fail
        refine (hpack.out _ _ (src_blk (n := 1) (size := 3) (cap := 1) (Blk.new (w := w2) (cs := #[.int .i64 n.id, .int .u32 c, .string (bs d)]) (t := 34) rfl) rfl (Nat.le_refl 1))).mono ?_
        rintro e w4 ⟨rfl, hb4⟩
        have hb4' : Below w2.heap.size w2 w4 := pb_trans (pb_alloc (Below.refl _ _) _) hb4
        have hb4w := pb_trans hb2w hb4'
        have k44 := k42.call hb4'
        have k74 := k72.call hb4'
        clear c42 f42 l42 c72 l72
        go_wp2_with fail
        refine (keeper_any _ _ _).mono ?_
        rintro e w5 ⟨rfl, rfl⟩
        obtain ⟨Wc, hWc⟩ : ∃ Wc, Wc = ((w4.alloc (.cells #[.pointer (some ⟨B, 0, none⟩)] 26)).alloc (.cells #[.bool false] 4)).alloc (.cells #[.string ⟨#[109]⟩, .string (bs pk)] 9) := ⟨_, rfl⟩
        have hbc : Below w.heap.size w Wc := by rw [hWc]; (repeat (first | exact Below.refl _ _ | with_reducible assumption | refine pb_alloc ?_ _ | refine pb_drew ?_ | refine pb_drewN ?_ _ | refine pb_set ?_ (by simp; try omega) _ | refine pb_trans ?_ (by with_reducible assumption)))
        have kk0 : Blk Wc w4.heap.size #[.pointer (some ⟨B, 0, none⟩)] 26 := by rw [hWc]; (repeat (first | with_reducible assumption | (refine Blk.new ?_; simp; done) | refine Blk.alloc ?_ _ | refine Blk.drew ?_ | refine Blk.drewN ?_ _ | refine Blk.call ?_ (by with_reducible assumption)))
        have kk1 : Blk Wc (w4.heap.size + 1) #[.bool false] 4 := by rw [hWc]; (repeat (first | with_reducible assumption | (refine Blk.new ?_; simp; done) | refine Blk.alloc ?_ _ | refine Blk.drew ?_ | refine Blk.drewN ?_ _ | refine Blk.call ?_ (by with_reducible assumption)))
        have kk2 : Blk Wc (w4.heap.size + 1 + 1) #[.string ⟨#[109]⟩, .string (bs pk)] 9 := by rw [hWc]; (repeat (first | with_reducible assumption | (refine Blk.new ?_; simp; done) | refine Blk.alloc ?_ _ | refine Blk.drew ?_ | refine Blk.drewN ?_ _ | refine Blk.call ?_ (by with_reducible assumption)))
        have k4c : Blk Wc w.heap.size #[.int .i64 0, .int .u32 0, .string ⟨#[]⟩] 34 := by rw [hWc]; exact ((k44.alloc _).alloc _).alloc _
        have k7c : Blk Wc (w.heap.size + 1) #[.int .i64 n.id, .int .u32 c, .string (bs d)] 34 := by rw [hWc]; exact ((k74.alloc _).alloc _).alloc _
        have hz4 := hb4w.size
        go_wp2_with fail
        rw [← hWc]
        clear hWc
        refine (hkp.out Wc hbc w4.heap.size (w4.heap.size + 1) _ hz4 (by omega) kk0 kk1 kk2).mono ?_
        rintro e w6 ⟨rfl, ow6, hs6, hN6, hkept⟩
        have k46 := k4c.kept (hkept _ (Nat.le_refl _) k4c.lt).1
        have k76 := k7c.kept (hkept _ (by omega) k7c.lt).1
        have ho46 := (hkept _ (Nat.le_refl _) k4c.lt).2
        have ho76 := (hkept _ (by omega) k7c.lt).2
        have c46 := k46.cell
        have f46 := k46.frozen
        have l46 := k46.lt
        obtain ⟨px6, sb6, lb6, pb6, av6, hI⟩ := hN6
        have hal6 : m.acc.length = n.acc.length := by rw [hka.out]
        have kB6 := hI.blk
        obtain ⟨va6, vc6, hav6⟩ := hI.row.src.shape
        subst hav6
        unfold nodeCells at kB6
        have hI7 := (NodeIs.loc B px6 sb6 lb6 pb6 _ m t).below hI (pb_drew (pb_alloc (Below.refl w6.heap.size w6) (.cells #[.int .i64 n.id, .int .u32 c, .string (bs d)] 34)))
        have hsrc7 : Src (w6.alloc (.cells #[.int .i64 n.id, .int .u32 c, .string (bs d)] 34)).drew (.slice (some ⟨w6.heap.size, 0, none⟩) 1 1) 3 1 #[.int .i64 n.id, .int .u32 c, .string (bs d)].toList := src_blk (n := 1) (size := 3) (cap := 1) (Blk.drew (Blk.new (w := w6) (cs := #[.int .i64 n.id, .int .u32 c, .string (bs d)]) (t := 34) rfl)) rfl (Nat.le_refl 1)
        obtain ⟨v', W8, hrun, hrow8, hgr, hown⟩ := row_append msgT hI7.row hsrc7 (msgCells_one [((n.id, c), d)]) (by rw [hal6]; omega) 42
        have hne4 : ∀ g, (Value.slice va6 m.acc.length vc6).ownBlock = some g → g ≠ B ∧ g ≠ w.heap.size + 1 ∧ g ≠ w.heap.size := fun g hg => by
          refine ⟨hI.row.ne_blk hI.blk (by decide) hg, fun e => ?_, fun e => ?_⟩
          · have h1 := hI.rown g hg
            rw [e, ho76] at h1; simp at h1
          · have h1 := hI.rown g hg
            rw [e, ho46] at h1; simp at h1
        have kB8 := kB6.kept (w' := W8) ((hgr.block B (by have := kB6.lt; simp; omega) (fun e => (hne4 B e.symm).1 rfl)).trans (Below.heap_alloc w6 _ B kB6.lt))
        have k78 := k76.kept (w' := W8) ((hgr.block _ (by have := k76.lt; simp; omega) (fun e => (hne4 _ e.symm).2.1 rfl)).trans (Below.heap_alloc w6 _ _ k76.lt))
        obtain ⟨hs9, hI9⟩ := hI7.setAcc [((n.id, c), d)] hrow8 hgr hown
        obtain ⟨sa, sm, sc, rfl⟩ := hrow8.shape
        have cB8 := kB8.cell
        have fB8 := kB8.frozen
        have lB8 := kB8.lt
        replace hrow8 : Hid (Row _ _ _ _ _ _) := hrow8
        replace hown : Hid (_ ∨ _) := hown
        replace hne4 : Hid (∀ _, _) := hne4
        replace hrun : Hid (_ = _) := hrun
        replace hal6 : Hid (_ = _) := hal6
        go_wp2_with fail
        refine wp_region_sched [(0, true), (1, true), (2, true), (3, true), (4, true), (5, true), (6, false), (7, false), (8, true), (9, true), (10, false)] (some 10) (fun w' => Blk w' B #[.pointer (some ⟨px6, 0, none⟩), .int .i64 m.id, .int .i64 m.version, .slice none 0 0, .pointer (some ⟨sb6, 0, none⟩), .pointer (some ⟨lb6, 0, none⟩), .pointer (some ⟨pb6, 0, none⟩), .slice va6 m.acc.length vc6, .int .i64 (m.offered : Nat), .int .i64 (m.applied : Nat), .int .i64 m.wanted, .bool m.down] 78 ∧ Blk w' (w.heap.size + 1) #[.int .i64 n.id, .int .u32 c, .string (bs d)] 34 ∧ True) (by kernel_rfl) (by kernel_rfl) ⟨kB6.drew, k76.drew, trivial⟩ ?_
        clear cB8 fB8
        (repeat (refine wpSched_quiet (v := ?_) rfl rfl (fun w' hS => ?_) (fun K hK => ?_); rotate_left; (focus ((try have e1 := hS.1.cell); (try have e2 := hS.2.1.cell); (try have e3 := hS.2.2.1.cell); (try have e4 := hS.2.2.2.1.cell); (try have f1 := hS.1); (try have f2 := hS.2.1); (try have f3 := hS.2.2.1); (try have f4 := hS.2.2.2.1); (try have f5 := hS.2.2.2.2.1); clear hS; go_simp; (try with_reducible rfl))); (go_simp; refine hK _ ?_; clear hK K)))
        refine wpSched_loud rfl (fun K hK => ?_)
        go_wp2
        refine hK.out _ _ (fun _ => ⟨(kB6.alloc _).drew, (k76.alloc _).drew, trivial⟩) ?_
        clear hK K
        refine wpSched_loud rfl (fun K hK => ?_)
        refine wpList_append_by rfl _ _ _ rfl rfl rfl hrun.out ?_
        unfold wpList
        refine hK.out _ _ (fun _ => ⟨kB8, k78, trivial⟩) ?_
        clear hK K
        (repeat (refine wpSched_quiet (v := ?_) rfl rfl (fun w' hS => ?_) (fun K hK => ?_); rotate_left; (focus ((try have e1 := hS.1.cell); (try have e2 := hS.2.1.cell); (try have e3 := hS.2.2.1.cell); (try have e4 := hS.2.2.2.1.cell); (try have f1 := hS.1); (try have f2 := hS.2.1); (try have f3 := hS.2.2.1); (try have f4 := hS.2.2.2.1); (try have f5 := hS.2.2.2.2.1); clear hS; go_simp; (try with_reducible rfl))); (go_simp; refine hK _ ?_; clear hK K)))
        have fB8 := kB8.frozen
        have cB8 := kB8.cell
        refine wpSched_loud rfl (fun K hK => ?_)
        go_wp2
        refine hK.out _ _ (fun hh => absurd rfl hh) ?_
        clear hK K fB8 cB8
        refine wpSched_nil ?_
        generalize hO9 : ow6.ext (w6.alloc (.cells #[.int .i64 n.id, .int .u32 c, .string (bs d)] 34)).drew.heap.size (fun k => (Value.slice sa sm sc).ownBlock = some k) (t ++ [4]) = ow9 at hs9 hI9
        have ho49 : ow9 w.heap.size = [] := by rw [← hO9]; exact (Own.ext_old (by have := k46.lt; simp; omega)).trans ho46
        have ho79 : ow9 (w.heap.size + 1) = [] := by rw [← hO9]; exact (Own.ext_old (by have := k76.lt; simp; omega)).trans ho76
        have hneD : w.heap.size ≠ B := by omega
        have hneD1 : w.heap.size + 1 ≠ B := by omega
        have k48 := (k46.kept (w' := W8) ((hgr.block _ (by have := k46.lt; simp; omega) (fun e => (hne4.out _ e.symm).2.2 rfl)).trans (Below.heap_alloc w6 _ _ k46.lt))).other (p := ⟨B, 7, none⟩) hneD (.slice sa sm sc)
        have k79 := k78.other (p := ⟨B, 7, none⟩) hneD1 (.slice sa sm sc)
        have hoff := nOffer_any B _ t ow9 _ ⟨_, _, _, _, _, hI9⟩ (by show (m.acc ++ [((n.id, c), d)]).length ≤ _; rw [List.length_append, hal6.out]; simp; omega)
        have hfu : offerN ((m.acc ++ [((n.id, c), d)]).length + 1) { m with acc := m.acc ++ [((n.id, c), d)] } = offerN c { m with acc := n.acc ++ [((n.id, c), d)] } := by
          rw [hka.out, List.length_append, List.length_singleton, hc.out]
          exact offerN_fuel c _ (by show (n.acc ++ _).length ≤ _; rw [List.length_append, List.length_singleton, hc.out]; omega)
        rw [hfu] at hoff
        have hsA : Step t ow w ow9 (W8.setCell ⟨B, 7, none⟩ (.slice sa sm sc)) := hs6.trans ((Step.of_below t ow6 (pb_drew (pb_alloc (Below.refl w6.heap.size w6) _))).trans hs9)
        replace hoff : Hid (Calls _ _ _ _ _) := hoff
        go_wp2_with fail
        refine hoff.out.mono ?_
        rintro e w10 ⟨rfl, ow10, hs10, hN10⟩
        have k410 := k48.kept (hs10.block k48.lt (by rw [ho49]; exact not_sub_nil ht))
        have k710 := k79.kept (hs10.block k79.lt (by rw [ho79]; exact not_sub_nil ht))
        have ho410 := (hs10.agree _ k48.lt).trans ho49
        have c410 := k410.cell
        have f410 := k410.frozen
        have l410 := k410.lt
        have c710 := k710.cell
        clear c46 f46 l46
        have rr := (((k410.set (o := 0) (.int .i64 n.id)).set (o := 1) (.int .u32 c)).set (o := 2) (.string (bs d))).cell
        have hsB := hsA.trans hs10
        go_wp2
        exact bodyPost_ret (v := .tuple #[.agg #[.int .i64 n.id, .int .u32 c, .string (bs d)], .int .i64 0]) (by simp [results, Tryz.results10, go_sem, rr]) rfl ⟨rfl, ow10, ((hsB.setNew ⟨w.heap.size, 0, none⟩ _ (Nat.le_refl _)).setNew ⟨w.heap.size, 1, none⟩ _ (Nat.le_refl _)).setNew ⟨w.heap.size, 2, none⟩ _ (Nat.le_refl _), nodeAt_set3 ht hN10 ho410 _ _ _⟩
      · rw [if_pos hek] at hbn
        rw [hbn]
        have t3 : (ek != 0) = true := by simpa using hek
        replace hbn : Hid (_ = _) := hbn
        replace hek : Hid (_ → _) := hek
        go_enter Tryz.func10, Tryz.ntmps10
        go_wp2_with fail
        refine hrW.out.mono ?_
        rintro e w1 ⟨rfl, hw1⟩
        obtain rfl := hw1.symm
        go_wp2_with fail
        apply wp_one (Wp := fun w' => Below w.heap.size w w' ∧ Blk w' w.heap.size #[.int .i64 0, .int .u32 0, .string ⟨#[]⟩] 34 ∧ Blk w' (w.heap.size + 1) #[.int .i64 n.id, .int .u32 c, .string (bs d)] 34)
        case h =>
          go_region_with fail
          all_goals go_simp
          all_goals exact sameAt ⟨by (repeat (first | exact Below.refl _ _ | with_reducible assumption | refine pb_alloc ?_ _ | refine pb_drew ?_ | refine pb_drewN ?_ _ | refine pb_set ?_ (by simp; try omega) _ | refine pb_trans ?_ (by with_reducible assumption))), by (repeat (first | with_reducible assumption | (refine Blk.new ?_; simp; done) | refine Blk.alloc ?_ _ | refine Blk.drew ?_ | refine Blk.drewN ?_ _ | refine Blk.call ?_ (by with_reducible assumption))), by (repeat (first | with_reducible assumption | (refine Blk.new ?_; simp; done) | refine Blk.alloc ?_ _ | refine Blk.drew ?_ | refine Blk.drewN ?_ _ | refine Blk.call ?_ (by with_reducible assumption)))⟩
        case' h2 =>
        rintro w1 ⟨hb1, k41, k71⟩
        have c71 := k71.cell
        have l71 := k71.lt
        go_wp2_with fail
        refine (hright.out _).mono ?_
        rintro e w2 ⟨rfl, hb2⟩
        have k42 := k41.call hb2
        have k72 := k71.call hb2
        have hb2w := pb_trans hb1 hb2
        have c42 := k42.cell
        have f42 := k42.frozen
        have l42 := k42.lt
        have c72 := k72.cell
        have l72 := k72.lt
        clear c71 l71
        go_wp2_with fail
        refine (hpack.out _ _ (src_blk (n := 1) (size := 3) (cap := 1) (Blk.new (w := w2) (cs := #[.int .i64 n.id, .int .u32 c, .string (bs d)]) (t := 34) rfl) rfl (Nat.le_refl 1))).mono ?_
        rintro e w4 ⟨rfl, hb4⟩
        have hb4' : Below w2.heap.size w2 w4 := pb_trans (pb_alloc (Below.refl _ _) _) hb4
        have hb4w := pb_trans hb2w hb4'
        have k44 := k42.call hb4'
        have k74 := k72.call hb4'
        clear c42 f42 l42 c72 l72
        go_wp2_with fail
        refine (keeper_any _ _ _).mono ?_
        rintro e w5 ⟨rfl, rfl⟩
        obtain ⟨Wc, hWc⟩ : ∃ Wc, Wc = ((w4.alloc (.cells #[.pointer (some ⟨B, 0, none⟩)] 26)).alloc (.cells #[.bool false] 4)).alloc (.cells #[.string ⟨#[109]⟩, .string (bs pk)] 9) := ⟨_, rfl⟩
        have hbc : Below w.heap.size w Wc := by rw [hWc]; (repeat (first | exact Below.refl _ _ | with_reducible assumption | refine pb_alloc ?_ _ | refine pb_drew ?_ | refine pb_drewN ?_ _ | refine pb_set ?_ (by simp; try omega) _ | refine pb_trans ?_ (by with_reducible assumption)))
        have kk0 : Blk Wc w4.heap.size #[.pointer (some ⟨B, 0, none⟩)] 26 := by rw [hWc]; (repeat (first | with_reducible assumption | (refine Blk.new ?_; simp; done) | refine Blk.alloc ?_ _ | refine Blk.drew ?_ | refine Blk.drewN ?_ _ | refine Blk.call ?_ (by with_reducible assumption)))
        have kk1 : Blk Wc (w4.heap.size + 1) #[.bool false] 4 := by rw [hWc]; (repeat (first | with_reducible assumption | (refine Blk.new ?_; simp; done) | refine Blk.alloc ?_ _ | refine Blk.drew ?_ | refine Blk.drewN ?_ _ | refine Blk.call ?_ (by with_reducible assumption)))
        have kk2 : Blk Wc (w4.heap.size + 1 + 1) #[.string ⟨#[109]⟩, .string (bs pk)] 9 := by rw [hWc]; (repeat (first | with_reducible assumption | (refine Blk.new ?_; simp; done) | refine Blk.alloc ?_ _ | refine Blk.drew ?_ | refine Blk.drewN ?_ _ | refine Blk.call ?_ (by with_reducible assumption)))
        have k4c : Blk Wc w.heap.size #[.int .i64 0, .int .u32 0, .string ⟨#[]⟩] 34 := by rw [hWc]; exact ((k44.alloc _).alloc _).alloc _
        have k7c : Blk Wc (w.heap.size + 1) #[.int .i64 n.id, .int .u32 c, .string (bs d)] 34 := by rw [hWc]; exact ((k74.alloc _).alloc _).alloc _
        have hz4 := hb4w.size
        go_wp2_with fail
        rw [← hWc]
        clear hWc
        refine (hkp.out Wc hbc w4.heap.size (w4.heap.size + 1) _ hz4 (by omega) kk0 kk1 kk2).mono ?_
        rintro e w6 ⟨rfl, ow6, hs6, hN6, hkept⟩
        have k46 := k4c.kept (hkept _ (Nat.le_refl _) k4c.lt).1
        have k76 := k7c.kept (hkept _ (by omega) k7c.lt).1
        have ho46 := (hkept _ (Nat.le_refl _) k4c.lt).2
        have ho76 := (hkept _ (by omega) k7c.lt).2
        have c46 := k46.cell
        have f46 := k46.frozen
        have l46 := k46.lt
        have rr := (((k46.set (o := 0) (.int .i64 0)).set (o := 1) (.int .u32 0)).set (o := 2) (.string ⟨#[]⟩)).cell
        go_wp2
        exact bodyPost_ret (v := .tuple #[.agg #[.int .i64 0, .int .u32 0, .string ⟨#[]⟩], .int .i64 ek]) (by simp [results, Tryz.results10, go_sem, rr]) rfl (bcast_zero (((hs6.setNew ⟨w.heap.size, 0, none⟩ _ (Nat.le_refl _)).setNew ⟨w.heap.size, 1, none⟩ _ (Nat.le_refl _)).setNew ⟨w.heap.size, 2, none⟩ _ (Nat.le_refl _)) (nodeAt_set3 ht hN6 ho46 _ _ _) ek)
end Go.Proofs.YtaopeioebpfdeaaGreatDoor
