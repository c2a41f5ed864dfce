/- PROVED HERE: WALKS: node's Promise, Want. Condition: the node is one that calls have made, with no bad versions. WALKS: node's Want, Broadcast. Condition: the node is one that calls have made, with no bad versions. -/
import Derived.Test.YtaopeioebpfdeaaGreatDoorK33
namespace Go.Proofs.YtaopeioebpfdeaaGreatDoor
open Go Go.RowKit Go.Shelf Go.Extern.Stop Go.Stop Go.Extern
attribute [local go_sem] Oper.semAt_some wide_fn wide_depth

theorem nodeAt_set3 {B : Nat} {n : NodeS} {t : List Nat} (ht : t ≠ []) {ow : Own} {W : World} (h : NodeAt B n t ow W) {D : Nat} (hD : ow D = []) (a b c : Value) : NodeAt B n t ow (((W.setCell ⟨D, 0, none⟩ a).setCell ⟨D, 1, none⟩ b).setCell ⟨D, 2, none⟩ c) :=
  NodeAt.loc B n t _ _ _ _ h (by simp) (fun k hk hs => by
    have hne : k ≠ D := fun e => by subst e; rw [hD] at hs; exact not_sub_nil ht hs
    exact ⟨rfl, (Below.heap_setCell _ _ _ _ hne).trans ((Below.heap_setCell _ _ _ _ hne).trans (Below.heap_setCell _ _ _ _ hne))⟩)
set_option maxRecDepth 8000 in
set_option maxHeartbeats 1000000 in
theorem nPromise_any {px sb lb pb : Nat} {av : Value} (B : Nat) (n : NodeS) (t : List Nat) (ht : t ≠ []) (ow : Own) (i : Int) (b : Nat) (hb : b < 18446744073709551616) (w : World) (hN : NodeIs B px sb lb pb av n t ow w) (hcap : CapOk n.store) :
    Calls Tryz.prog 12 #[.pointer (some ⟨B, 0, none⟩), .int .i64 i, .int .u64 b] w (NodePost B (promiseN n i b).1 t ow w (voteE (promiseN n i b).2)) := by
  have hB := hN.blk
  have hr := fun W hW => nReady_any (B := B) (px := px) (sb := sb) (lb := lb) (pb := pb) (av := av) (n := n) W hW
  have hprom := fun W hW => pxPromise_any px n.pax (t ++ [0]) (by simp) (ow.cut w) i b hb W hW
  have hpn : promiseN n i b = if n.down then (n, (0, 0, []), 170)
      else if (promiseP n.pax i b).2.2.2 ≠ 0 then (n, (0, 0, []), (promiseP n.pax i b).2.2.2)
      else if (keepN { n with pax := (promiseP n.pax i b).1 } true (promiseP n.pax i b).2.2.1).2 ≠ 0 then ((keepN { n with pax := (promiseP n.pax i b).1 } true (promiseP n.pax i b).2.2.1).1, (0, 0, []), (keepN { n with pax := (promiseP n.pax i b).1 } true (promiseP n.pax i b).2.2.1).2)
      else ((keepN { n with pax := (promiseP n.pax i b).1 } true (promiseP n.pax i b).2.2.1).1, (promiseP n.pax i b).2.1, 0) := rfl
  have hlen := promiseP_len n.pax i b
  have herr := @promiseP_err n.pax i b
  unfold nodeCells at hB
  have e0 := hB.cell
  have l0 := hB.lt
  obtain ⟨⟨p', ⟨v1, v2, v3⟩, rc, er⟩, hcp⟩ : ∃ q, promiseP n.pax i b = q := ⟨_, rfl⟩
  rw [hcp] at hprom hpn hlen herr
  unfold promE at hprom
  unfold voteE voteV at *
  simp only at hprom hpn hlen herr
  have hNa := (NodeIs.loc B px sb lb pb av n t).cut hN ((Below.refl w.heap.size w).alloc (Nat.le_refl _) (.cells #[.int .u64 0, .int .u64 0, .string ⟨#[]⟩] 39))
  replace hcp : Hid (_ = _) := hcp
  replace hprom : Hid (∀ _, _) := hprom
  replace herr : Hid (_ → _) := herr
  have hrW := hr _ hNa.blk
  unfold readyN at hrW
  clear hr
  by_cases hd : n.down = true
  · rw [if_pos hd] at hpn
    rw [hd] at hrW
    rw [hpn]
    replace hpn : Hid (_ = _) := hpn
    replace hrW : Hid (Calls _ _ _ _ _) := hrW
    replace hd : Hid (_ = _) := hd
    go_enter Tryz.func12, Tryz.ntmps12
    go_wp2_with fail
    refine hrW.out.mono ?_
    rintro e w1 ⟨rfl, hw1⟩
    obtain rfl := hw1.symm
    go_wp2
    exact bodyPost_ret (v := .tuple #[.agg #[.int .u64 0, .int .u64 0, .string ⟨#[]⟩], .int .i64 170]) (by simp [results, Tryz.results12, go_sem]) rfl ⟨rfl, ow, Step.of_below t ow (by (repeat (first | exact Below.refl _ _ | with_reducible assumption | refine pb_alloc ?_ _ | refine pb_drew ?_ | refine pb_drewN ?_ _ | refine pb_set ?_ (by simp; try omega) _ | refine pb_trans ?_ (by with_reducible assumption)))), _, _, _, _, _, (NodeIs.loc B px sb lb pb av n t).below hN (by (repeat (first | exact Below.refl _ _ | with_reducible assumption | refine pb_alloc ?_ _ | refine pb_drew ?_ | refine pb_drewN ?_ _ | refine pb_set ?_ (by simp; try omega) _ | refine pb_trans ?_ (by with_reducible assumption))))⟩
  · have hd' : n.down = false := by simpa using hd
    rw [if_neg hd] at hpn
    rw [hd'] at hrW
    replace hrW : Hid (Calls _ _ _ _ _) := hrW
    replace hd : Hid (_ → _) := hd
    replace hd' : Hid (_ = _) := hd'
    by_cases he : er = 0
    · subst he
      rw [if_neg (by simp)] at hpn
      have hkp := fun ow1 w1 h1 W h2 kb kc g h3 h4 k0 k1 kg => keep_call B { n with pax := p' } t ht ow1 w1 h1 hcap true [rc] (by simp) (by simp) (by simp; omega) W h2 kb kc g h3 h4 k0 k1 kg
      rw [show [rc].flatten = rc by simp] at hkp
      unfold KeepPost at hkp
      obtain ⟨⟨m, ek⟩, hm⟩ : ∃ R, keepN { n with pax := p' } true rc = R := ⟨_, rfl⟩
      rw [hm] at hkp hpn
      simp only at hkp hpn
      replace hkp : Hid (∀ _, _) := hkp
      replace hm : Hid (_ = _) := hm
      by_cases hek : ek = 0
      · subst hek
        rw [if_neg (by simp)] at hpn
        rw [hpn]
        have t2 : ((0 : Int) != 0) = false := rfl
        replace hpn : Hid (_ = _) := hpn
        go_enter Tryz.func12, Tryz.ntmps12
        go_wp2_with fail
        refine hrW.out.mono ?_
        rintro e w1 ⟨rfl, hw1⟩
        obtain rfl := hw1.symm
        go_wp2_with fail
        refine (hprom.out _ hNa.pax).mono ?_
        rintro e w1 ⟨rfl, ow1, hs1, h1⟩
        have hN1 := hNa.setPax _ hs1 h1
        have k6 := (Blk.new (w := w) (cs := #[.int .u64 0, .int .u64 0, .string ⟨#[]⟩]) (t := 39) rfl).kept (hs1.free (by simp) (Nat.le_refl _) (by simp)).1
        have ho6 := (hs1.free (by simp) (Nat.le_refl _) (by simp)).2
        have hstep1 : Step t ow w ow1 w1 := Step.wrap (w := w) ((Below.refl w.heap.size w).alloc (Nat.le_refl _) (.cells #[.int .u64 0, .int .u64 0, .string ⟨#[]⟩] 39)) (hs1.mono (Sub.child t 0))
        have hz1 := hstep1.size
        have l6 := k6.lt
        go_wp2_with fail
        refine (keeper_any _ _ _).mono ?_
        rintro e w2 ⟨rfl, rfl⟩
        obtain ⟨Wc, hWc⟩ : ∃ Wc, Wc = (((w1.alloc (.cells #[.int .u64 v1, .int .u64 v2, .string (bs v3)] 39)).alloc (.cells #[.pointer (some ⟨B, 0, none⟩)] 26)).alloc (.cells #[.bool true] 4)).alloc (.cells #[.string (bs rc)] 9) := ⟨_, rfl⟩
        have hbc : Below w1.heap.size w1 Wc := by rw [hWc]; (repeat (first | exact Below.refl _ _ | with_reducible assumption | refine pb_alloc ?_ _ | refine pb_drew ?_ | refine pb_drewN ?_ _ | refine pb_set ?_ (by simp; try omega) _ | refine pb_trans ?_ (by with_reducible assumption)))
        have kv : Blk Wc w1.heap.size #[.int .u64 v1, .int .u64 v2, .string (bs v3)] 39 := by rw [hWc]; (repeat (first | with_reducible assumption | (refine Blk.new ?_; simp; done) | refine Blk.alloc ?_ _ | refine Blk.drew ?_ | refine Blk.drewN ?_ _ | refine Blk.call ?_ (by with_reducible assumption)))
        have kk0 : Blk Wc (w1.heap.size + 1) #[.pointer (some ⟨B, 0, none⟩)] 26 := by rw [hWc]; (repeat (first | with_reducible assumption | (refine Blk.new ?_; simp; done) | refine Blk.alloc ?_ _ | refine Blk.drew ?_ | refine Blk.drewN ?_ _ | refine Blk.call ?_ (by with_reducible assumption)))
        have kk1 : Blk Wc (w1.heap.size + 1 + 1) #[.bool true] 4 := by rw [hWc]; (repeat (first | with_reducible assumption | (refine Blk.new ?_; simp; done) | refine Blk.alloc ?_ _ | refine Blk.drew ?_ | refine Blk.drewN ?_ _ | refine Blk.call ?_ (by with_reducible assumption)))
        have kk2 : Blk Wc (w1.heap.size + 1 + 1 + 1) #[.string (bs rc)] 9 := by rw [hWc]; (repeat (first | with_reducible assumption | (refine Blk.new ?_; simp; done) | refine Blk.alloc ?_ _ | refine Blk.drew ?_ | refine Blk.drewN ?_ _ | refine Blk.call ?_ (by with_reducible assumption)))
        go_wp2_with fail
        rw [← hWc]
        clear hWc
        refine (hkp.out ow1 w1 ⟨_, _, _, _, _, hN1⟩ Wc hbc (w1.heap.size + 1) (w1.heap.size + 1 + 1) _ (by omega) (by omega) kk0 kk1 kk2).mono ?_
        rintro e w3 ⟨rfl, ow3, hs3, hN3, hkept⟩
        have hlc := kv.lt
        have kv3 := kv.kept (hkept _ (Nat.le_refl _) hlc).1
        have k6c := k6.kept (hbc.block _ l6)
        have k63 : Blk w3 w.heap.size #[.int .u64 0, .int .u64 0, .string ⟨#[]⟩] 39 := k6.kept (hs3.block l6 (by rw [ho6]; exact not_sub_nil ht))
        have ho63 : ow3 w.heap.size = [] := (hs3.agree _ l6).trans ho6
        have hstep3 : Step t ow w ow3 w3 := hstep1.trans hs3
        have cv3 := kv3.cell
        have lv3 := kv3.lt
        have c63 := k63.cell
        have f63 := k63.frozen
        have l63 := k63.lt
        have rr := (((k63.set (o := 0) (.int .u64 v1)).set (o := 1) (.int .u64 v2)).set (o := 2) (.string (bs v3))).cell
        go_wp2
        exact bodyPost_ret (v := .tuple #[.agg #[.int .u64 v1, .int .u64 v2, .string (bs v3)], .int .i64 0]) (by simp [results, Tryz.results12, go_sem, rr]) rfl ⟨rfl, ow3, ((hstep3.setNew ⟨w.heap.size, 0, none⟩ _ (Nat.le_refl _)).setNew ⟨w.heap.size, 1, none⟩ _ (Nat.le_refl _)).setNew ⟨w.heap.size, 2, none⟩ _ (Nat.le_refl _), nodeAt_set3 ht hN3 ho63 _ _ _⟩
      · rw [if_pos hek] at hpn
        rw [hpn]
        have t2 : (ek != 0) = true := by simpa using hek
        replace hpn : Hid (_ = _) := hpn
        replace hek : Hid (_ → _) := hek
        go_enter Tryz.func12, Tryz.ntmps12
        go_wp2_with fail
        refine hrW.out.mono ?_
        rintro e w1 ⟨rfl, hw1⟩
        obtain rfl := hw1.symm
        go_wp2_with fail
        refine (hprom.out _ hNa.pax).mono ?_
        rintro e w1 ⟨rfl, ow1, hs1, h1⟩
        have hN1 := hNa.setPax _ hs1 h1
        have k6 := (Blk.new (w := w) (cs := #[.int .u64 0, .int .u64 0, .string ⟨#[]⟩]) (t := 39) rfl).kept (hs1.free (by simp) (Nat.le_refl _) (by simp)).1
        have ho6 := (hs1.free (by simp) (Nat.le_refl _) (by simp)).2
        have hstep1 : Step t ow w ow1 w1 := Step.wrap (w := w) ((Below.refl w.heap.size w).alloc (Nat.le_refl _) (.cells #[.int .u64 0, .int .u64 0, .string ⟨#[]⟩] 39)) (hs1.mono (Sub.child t 0))
        have hz1 := hstep1.size
        have l6 := k6.lt
        go_wp2_with fail
        refine (keeper_any _ _ _).mono ?_
        rintro e w2 ⟨rfl, rfl⟩
        obtain ⟨Wc, hWc⟩ : ∃ Wc, Wc = (((w1.alloc (.cells #[.int .u64 v1, .int .u64 v2, .string (bs v3)] 39)).alloc (.cells #[.pointer (some ⟨B, 0, none⟩)] 26)).alloc (.cells #[.bool true] 4)).alloc (.cells #[.string (bs rc)] 9) := ⟨_, rfl⟩
        have hbc : Below w1.heap.size w1 Wc := by rw [hWc]; (repeat (first | exact Below.refl _ _ | with_reducible assumption | refine pb_alloc ?_ _ | refine pb_drew ?_ | refine pb_drewN ?_ _ | refine pb_set ?_ (by simp; try omega) _ | refine pb_trans ?_ (by with_reducible assumption)))
        have kv : Blk Wc w1.heap.size #[.int .u64 v1, .int .u64 v2, .string (bs v3)] 39 := by rw [hWc]; (repeat (first | with_reducible assumption | (refine Blk.new ?_; simp; done) | refine Blk.alloc ?_ _ | refine Blk.drew ?_ | refine Blk.drewN ?_ _ | refine Blk.call ?_ (by with_reducible assumption)))
        have kk0 : Blk Wc (w1.heap.size + 1) #[.pointer (some ⟨B, 0, none⟩)] 26 := by rw [hWc]; (repeat (first | with_reducible assumption | (refine Blk.new ?_; simp; done) | refine Blk.alloc ?_ _ | refine Blk.drew ?_ | refine Blk.drewN ?_ _ | refine Blk.call ?_ (by with_reducible assumption)))
        have kk1 : Blk Wc (w1.heap.size + 1 + 1) #[.bool true] 4 := by rw [hWc]; (repeat (first | with_reducible assumption | (refine Blk.new ?_; simp; done) | refine Blk.alloc ?_ _ | refine Blk.drew ?_ | refine Blk.drewN ?_ _ | refine Blk.call ?_ (by with_reducible assumption)))
        have kk2 : Blk Wc (w1.heap.size + 1 + 1 + 1) #[.string (bs rc)] 9 := by rw [hWc]; (repeat (first | with_reducible assumption | (refine Blk.new ?_; simp; done) | refine Blk.alloc ?_ _ | refine Blk.drew ?_ | refine Blk.drewN ?_ _ | refine Blk.call ?_ (by with_reducible assumption)))
        go_wp2_with fail
        rw [← hWc]
        clear hWc
        refine (hkp.out ow1 w1 ⟨_, _, _, _, _, hN1⟩ Wc hbc (w1.heap.size + 1) (w1.heap.size + 1 + 1) _ (by omega) (by omega) kk0 kk1 kk2).mono ?_
        rintro e w3 ⟨rfl, ow3, hs3, hN3, hkept⟩
        have hlc := kv.lt
        have kv3 := kv.kept (hkept _ (Nat.le_refl _) hlc).1
        have k6c := k6.kept (hbc.block _ l6)
        have k63 : Blk w3 w.heap.size #[.int .u64 0, .int .u64 0, .string ⟨#[]⟩] 39 := k6.kept (hs3.block l6 (by rw [ho6]; exact not_sub_nil ht))
        have ho63 : ow3 w.heap.size = [] := (hs3.agree _ l6).trans ho6
        have hstep3 : Step t ow w ow3 w3 := hstep1.trans hs3
        have cv3 := kv3.cell
        have lv3 := kv3.lt
        have c63 := k63.cell
        have f63 := k63.frozen
        have l63 := k63.lt
        have rr := (((k63.set (o := 0) (.int .u64 0)).set (o := 1) (.int .u64 0)).set (o := 2) (.string ⟨#[]⟩)).cell
        go_wp2
        exact bodyPost_ret (v := .tuple #[.agg #[.int .u64 0, .int .u64 0, .string ⟨#[]⟩], .int .i64 ek]) (by simp [results, Tryz.results12, go_sem, rr]) rfl ⟨rfl, ow3, ((hstep3.setNew ⟨w.heap.size, 0, none⟩ _ (Nat.le_refl _)).setNew ⟨w.heap.size, 1, none⟩ _ (Nat.le_refl _)).setNew ⟨w.heap.size, 2, none⟩ _ (Nat.le_refl _), nodeAt_set3 ht hN3 ho63 _ _ _⟩
    · rw [if_pos he] at hpn
      rw [hpn]
      have t1 : (er != 0) = true := by simpa using he
      have hp' := herr.out he
      subst hp'
      replace hpn : Hid (_ = _) := hpn
      replace he : Hid (_ → _) := he
      go_enter Tryz.func12, Tryz.ntmps12
      go_wp2_with fail
      refine hrW.out.mono ?_
      rintro e w1 ⟨rfl, hw1⟩
      obtain rfl := hw1.symm
      go_wp2_with fail
      refine (hprom.out _ hNa.pax).mono ?_
      rintro e w1 ⟨rfl, ow1, hs1, h1⟩
      have hN1 := hNa.setPax _ hs1 h1
      have k6 := (Blk.new (w := w) (cs := #[.int .u64 0, .int .u64 0, .string ⟨#[]⟩]) (t := 39) rfl).kept (hs1.free (by simp) (Nat.le_refl _) (by simp)).1
      have ho6 := (hs1.free (by simp) (Nat.le_refl _) (by simp)).2
      have c6 := k6.cell
      have f6 := k6.frozen
      have l6 := k6.lt
      have rr := ((((k6.set (o := 0) (.int .u64 0)).set (o := 1) (.int .u64 0)).set (o := 2) (.string ⟨#[]⟩)).alloc (.cells #[.int .u64 v1, .int .u64 v2, .string (bs v3)] 39)).cell
      have hstep1 : Step t ow w ow1 w1 := Step.wrap (w := w) ((Below.refl w.heap.size w).alloc (Nat.le_refl _) (.cells #[.int .u64 0, .int .u64 0, .string ⟨#[]⟩] 39)) (hs1.mono (Sub.child t 0))
      go_wp2
      refine bodyPost_ret (v := .tuple #[.agg #[.int .u64 0, .int .u64 0, .string ⟨#[]⟩], .int .i64 er]) (by simp [results, Tryz.results12, go_sem, rr]) rfl ⟨rfl, ow1, ?_, ?_⟩
      · exact (((hstep1.setNew ⟨w.heap.size, 0, none⟩ _ (Nat.le_refl _)).setNew ⟨w.heap.size, 1, none⟩ _ (Nat.le_refl _)).setNew ⟨w.heap.size, 2, none⟩ _ (Nat.le_refl _)).trans (Step.alloc _ _ _ _)
      · exact (NodeAt.loc B n t).below (nodeAt_set3 ht ⟨_, _, _, _, _, hN1⟩ ho6 _ _ _) ((Below.refl _ _).alloc (Nat.le_refl _) _)
end Go.Proofs.YtaopeioebpfdeaaGreatDoor
namespace Go.Proofs.YtaopeioebpfdeaaGreatDoor
open Go Go.RowKit Go.Shelf Go.Extern.Stop Go.Stop Go.Extern
attribute [local go_sem] Oper.semAt_some wide_fn wide_depth

theorem eraField1 (ep : Nat) (ve st : Int) (w : World) : (Instr.field 92 (.agg #[.int .u32 ep, .int .i64 ve, .int .i64 st]) 1).run Tryz.prog w = .ok (.int .i64 ve) w := by
  first | kernel_rfl | rfl | simp [go_sem]
set_option maxRecDepth 8000 in
set_option maxHeartbeats 1000000 in
theorem nWant_any {px sb lb pb : Nat} {av : Value} (B : Nat) (n : NodeS) (t : List Nat) (ow : Own) (v : Int) (w : World) (hN : NodeIs B px sb lb pb av n t ow w) (hl : n.loc.fold.eras.length ≤ 536870912) :
    Calls Tryz.prog 17 #[.pointer (some ⟨B, 0, none⟩), .int .i64 v] w (NodePost B (wantN n v).1 t ow w (.int .i64 (wantN n v).2)) := by
  have hB := hN.blk
  have hr := nReady_any w hB
  have hera := fun W hW => lEra_any lb n.loc (t ++ [2]) ow W hW hl
  have hwn : wantN n v = if n.down then (n, 170) else if checkE (nowP n.loc.fold.eras).2.1 v ≠ 0 then (n, checkE (nowP n.loc.fold.eras).2.1 v) else ({ n with wanted := v }, 0) := rfl
  have hw := fun m W (W' : World) (h : NodeIs B px sb lb pb av n t ow W) => h.setOwn (W' := W') m
  unfold nodeCells at hB hw
  unfold readyN at hr
  have e0 := hB.cell
  obtain ⟨⟨ep, ve, st⟩, hn⟩ : ∃ x, nowP n.loc.fold.eras = x := ⟨_, rfl⟩
  rw [hn] at hera hwn
  unfold eraV at hera
  simp only at hera hwn
  have hf0 := eraField1 ep ve st
  replace hera : Hid (∀ _, _) := hera
  replace hn : Hid (_ = _) := hn
  replace hw : Hid (∀ _, _) := hw
  by_cases hd : n.down = true
  · rw [if_pos hd] at hwn
    rw [hd] at hr
    rw [hwn]
    replace hwn : Hid (_ = _) := hwn
    replace hr : Hid (Calls _ _ _ _ _) := hr
    replace hd : Hid (_ = _) := hd
    go_enter Tryz.func17, Tryz.ntmps17
    go_wp2_with fail
    refine hr.out.mono ?_
    rintro e w1 ⟨rfl, hw1⟩
    obtain rfl := hw1.symm
    go_wp2
    go_ret
    exact ⟨rfl, ow, Step.refl _ _ _, _, _, _, _, _, hN⟩
  · have hd' : n.down = false := by simpa using hd
    rw [if_neg hd] at hwn
    rw [hd'] at hr
    replace hr : Hid (Calls _ _ _ _ _) := hr
    replace hd : Hid (_ → _) := hd
    replace hd' : Hid (_ = _) := hd'
    obtain ⟨er, her⟩ : ∃ er, checkE ve v = er := ⟨_, rfl⟩
    have hck := fun W => check_any ve v W
    rw [her] at hck hwn
    replace her : Hid (_ = _) := her
    replace hck : Hid (∀ _, _) := hck
    by_cases he : er = 0
    · subst he
      rw [if_neg (by simp)] at hwn
      rw [hwn]
      replace hwn : Hid (_ = _) := hwn
      go_enter Tryz.func17, Tryz.ntmps17
      go_wp2_with fail
      refine hr.out.mono ?_
      rintro e w1 ⟨rfl, hw1⟩
      obtain rfl := hw1.symm
      go_wp2_with fail
      refine (hera.out _ hN.lo).mono ?_
      rintro e w1 ⟨rfl, hb1⟩
      go_wp2_with fail
      refine (hck.out _).mono ?_
      rintro e w2 ⟨rfl, hb2⟩
      have hb := pb_trans hb1 hb2
      have kB2 := hB.call hb
      have c2 := kB2.cell
      have f2 := kB2.frozen
      have l2 := kB2.lt
      go_wp2
      go_ret
      have hq := hw.out { n with wanted := v } w2 (w2.setCell ⟨B, 10, none⟩ (.int .i64 v)) ((NodeIs.loc B px sb lb pb av n t).below hN hb) ((Mod.refl (fun k => k = B) w2).thenSet (p := ⟨B, 10, none⟩) rfl _) (kB2.set (o := 10) _) rfl rfl rfl rfl rfl rfl
      exact ⟨rfl, ow, (Step.of_below t ow hb).trans hq.1, _, _, _, _, _, hq.2⟩
    · rw [if_pos he] at hwn
      rw [hwn]
      have t1 : (er != 0) = true := by simpa using he
      replace hwn : Hid (_ = _) := hwn
      replace he : Hid (_ → _) := he
      go_enter Tryz.func17, Tryz.ntmps17
      go_wp2_with fail
      refine hr.out.mono ?_
      rintro e w1 ⟨rfl, hw1⟩
      obtain rfl := hw1.symm
      go_wp2_with fail
      refine (hera.out _ hN.lo).mono ?_
      rintro e w1 ⟨rfl, hb1⟩
      go_wp2_with fail
      refine (hck.out _).mono ?_
      rintro e w2 ⟨rfl, hb2⟩
      have hb := pb_trans hb1 hb2
      go_wp2
      go_ret
      exact ⟨rfl, ow, Step.of_below t ow hb, _, _, _, _, _, (NodeIs.loc B px sb lb pb av n t).below hN hb⟩

theorem NodeIs.setAcc {B px sb lb pb : Nat} {av v' : Value} {n : NodeS} {t : List Nat} {ow : Own} {W W4 : World} (h : NodeIs B px sb lb pb av n t ow W) (l : List MsgD) (hrow : Row W4 34 3 v' (n.acc.length + l.length) (n.acc.flatMap msgCells ++ l.flatMap msgCells))
    (hgr : W.grownBy W4 av.ownBlock) (hown : v'.ownBlock = av.ownBlock ∨ v'.ownBlock = some W.heap.size) :
    Step t ow W (ow.ext W.heap.size (fun k => v'.ownBlock = some k) (t ++ [4])) (W4.setCell ⟨B, 7, none⟩ v') ∧ NodeIs B px sb lb pb v' { n with acc := n.acc ++ l } t (ow.ext W.heap.size (fun k => v'.ownBlock = some k) (t ++ [4])) (W4.setCell ⟨B, 7, none⟩ v') := by
  have hneB : ∀ g, av.ownBlock = some g → g ≠ B := fun g hg => h.row.ne_blk h.blk (by decide) hg
  have hBl := h.blk.lt
  have kB4 := h.blk.kept (hgr.block B hBl (fun e => hneB B e.symm rfl))
  have hg5 : ∀ g, v'.ownBlock = some g → (av.ownBlock = some g ∨ g = W.heap.size) := fun g hg => by
    rw [hg] at hown
    rcases hown with h | h
    · exact .inl h.symm
    · right; simpa using h
  have hM : Mod (fun k => k = B ∨ av.ownBlock = some k) W (W4.setCell ⟨B, 7, none⟩ v') := (Mod.grown (X := fun k => k = B ∨ av.ownBlock = some k) hgr (fun k h => .inr h)).thenSet (p := ⟨B, 7, none⟩) (.inl rfl) _
  have hk : ∀ (i : Nat), i ≠ 4 → ∀ k, k < W.heap.size → Sub (t ++ [i]) (ow k) → (ow.ext W.heap.size (fun k => v'.ownBlock = some k) (t ++ [4])) k = ow k ∧ (W4.setCell ⟨B, 7, none⟩ v').heap[k]? = W.heap[k]? := fun i hi k hk hs => ⟨Own.ext_old hk, hM.block k hk (fun e => by
    rcases e with e | e
    · subst e; exact child_own t i h.own hs
    · exact child_apart t hi (h.rown k e) hs)⟩
  refine ⟨⟨hM.mono (fun k _ e => ?_), fun k hk => Own.ext_old hk⟩, ⟨kB4.set (o := 7) _, PaxAt.loc _ _ _ _ _ _ _ h.pax hM.size (hk 0 (by decide)), StoreAt.loc _ _ _ _ _ _ _ h.st hM.size (hk 1 (by decide)), LocalAt.loc _ _ _ _ _ _ _ h.lo hM.size (hk 2 (by decide)), PoolAt.loc _ _ _ _ _ _ _ h.pool hM.size (hk 3 (by decide)), ?_, ?_, fun g hg => ?_, h.bad⟩⟩
  · rcases e with e | e
    · subst e; rw [h.own]; exact Sub.rfl' _
    · rw [h.rown k e]; exact Sub.child t 4
  · show Row _ _ 3 v' (n.acc ++ l).length ((n.acc ++ l).flatMap msgCells)
    rw [List.length_append, List.flatMap_append]
    refine Row.kept (w := W4) hrow (fun g hg => Below.heap_setCell _ _ _ _ (show g ≠ B from ?_))
    rcases hg5 g hg with h1 | h1
    · exact hneB g h1
    · omega
  · rw [Own.ext_old hBl, h.own]
  · rcases hg5 g hg with h1 | h1
    · rw [Own.ext_old (h.row.lt h1), h.rown g h1]
    · rw [Own.ext_new (by omega) hg]
end Go.Proofs.YtaopeioebpfdeaaGreatDoor
