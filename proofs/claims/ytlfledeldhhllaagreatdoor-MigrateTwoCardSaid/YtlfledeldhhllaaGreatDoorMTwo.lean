/- WALK: the statement MigrateTwo answers true. Condition: the registry's error variable holds its error; the acts came in as arguments do. -/
import Derived.Test.YtlfledeldhhllaaGreatDoorMOne
import Derived.Test.YtlfledeldhhllaaGreatDoorOpenB
namespace Go.Proofs.YtlfledeldhhllaaGreatDoor
open Go Go.RowKit Go.Shelf Go.Extern.Stop Go.Stop Go.Extern
attribute [local go_sem] Oper.semAt_some wide_fn wide_depth

theorem src_takeG {w : World} {a : Option Addr} {c : Nat} {l : List MsgD} {n : Nat} (h : MsgsAt w (.slice a l.length c) l) (hn : n ≤ l.length) : MsgsAt w (.slice a n c) (l.take n) := by
  rcases h.2 with ⟨h1, h0⟩ | ⟨b, off, cap, h1, -⟩
  · injection h1 with e1 e2 e3
    have hl : l = [] := List.eq_nil_of_length_eq_zero h0
    subst hl e1 e3
    have hn0 : n = 0 := by simpa using hn
    subst hn0
    exact msgs_nil w
  · injection h1 with e1 e2 e3
    subst e1
    exact src_take h hn
/-- Two locals. -/
def TwoL (w : World) (Ba : Nat) (La : LocalS) (Bb : Nat) (Lb : LocalS) (W : World) : Prop :=
  ∃ ow, Below w.heap.size w W ∧ (∀ k, k < w.heap.size → ow k = []) ∧ LocalAt Ba La [1] ow W ∧ LocalAt Bb Lb [2] ow W
theorem TwoL.bel {w W : World} {Ba Bb : Nat} {La Lb : LocalS} (h : TwoL w Ba La Bb Lb W) : Below w.heap.size w W := h.choose_spec.1
theorem TwoL.below {w W W' : World} {Ba Bb : Nat} {La Lb : LocalS} (h : TwoL w Ba La Bb Lb W) (hb : Below W.heap.size W W') : TwoL w Ba La Bb Lb W' := by
  obtain ⟨ow, h1, h2, h3, h4⟩ := h
  exact ⟨ow, h1.trans (hb.mono h1.size), h2, (LocalAt.loc _ _ _).below h3 hb, (LocalAt.loc _ _ _).below h4 hb⟩
theorem TwoL.one {w W : World} {Ba Bb : Nat} {La Lb : LocalS} (h : TwoL w Ba La Bb Lb W) : OneL w Ba La W := by
  obtain ⟨ow, h1, h2, h3, h4⟩ := h
  exact ⟨ow, h1, h2, h3⟩
theorem apart12 : Apart [1] [2] := by constructor <;> intro h <;> simp [Sub] at h
theorem TwoL.applyA {a : Addr} {w W W' : World} {Ba Bb : Nat} {La Lb : LocalS} {k : Nat} (he : ErrAt w a) (h : TwoL w Ba La Bb Lb W) {e : EntryD} {mv : Value} {fails : Bool} (hb : Below W.heap.size W W') (hm : MsgsAt W' mv e.msgs) (hl : e.msgs.length ≤ 1073741824)
    (hfr : ∀ b l c, mv = .slice (some b) l c → W.heap.size ≤ b.block) (hB : LocalB La k) (hk : k ≤ 1000) :
    Calls Tryz.prog 8 #[.pointer (some ⟨Ba, 0, none⟩), entV e mv, .bool fails] W' fun r w' => ∃ v, r = .returned v ∧ TwoL w Ba (applyL La e fails).1 Bb Lb w' := by
  obtain ⟨ow, h1, h2, h3, h4⟩ := h
  have hf := hB.fold
  have hn := hB.len
  have ha := apply_len hf e
  have heras := (apply_b hf e).eras
  have hg := he.lt
  refine (lApply_any a Ba La [1] (by simp) (ow.cut W) e mv fails W' (he.below (h1.trans (hb.mono h1.size)) hg) (by rw [Own.cut_old (by have := h1.size; omega)]; exact h2 _ hg) ((LocalAt.loc Ba La [1]).cut h3 hb) hm (fun b l c h hs => ?_)
    (by have := hf.few; omega) (by have := hf.eras; omega) hl ⟨hf.low, by have := hf.high; omega⟩ (by omega) (by omega)).mono ?_
  · rw [Own.cut_new (hfr b l c h)] at hs
    exact not_sub_nil (by simp) hs
  · rintro r w2 ⟨v, ow2, rfl, hs0, hF, -, -⟩
    have hs := Step.wrap hb hs0
    have hq := hs.belowW (by simp) h1 h2
    exact ⟨_, rfl, ow2, hq.1, hq.2, hF, (LocalAt.loc Bb Lb [2]).step ((LocalAt.loc Bb Lb [2]).cut h4 hb) hs0 apart12⟩
theorem TwoL.applyB {a : Addr} {w W W' : World} {Ba Bb : Nat} {La Lb : LocalS} {k : Nat} (he : ErrAt w a) (h : TwoL w Ba La Bb Lb W) {e : EntryD} {mv : Value} {fails : Bool} (hb : Below W.heap.size W W') (hm : MsgsAt W' mv e.msgs) (hl : e.msgs.length ≤ 1073741824)
    (hfr : ∀ b l c, mv = .slice (some b) l c → W.heap.size ≤ b.block) (hB : LocalB Lb k) (hk : k ≤ 1000) :
    Calls Tryz.prog 8 #[.pointer (some ⟨Bb, 0, none⟩), entV e mv, .bool fails] W' fun r w' => ∃ v, r = .returned v ∧ TwoL w Ba La Bb (applyL Lb e fails).1 w' := by
  obtain ⟨ow, h1, h2, h3, h4⟩ := h
  have hf := hB.fold
  have hn := hB.len
  have ha := apply_len hf e
  have heras := (apply_b hf e).eras
  have hg := he.lt
  refine (lApply_any a Bb Lb [2] (by simp) (ow.cut W) e mv fails W' (he.below (h1.trans (hb.mono h1.size)) hg) (by rw [Own.cut_old (by have := h1.size; omega)]; exact h2 _ hg) ((LocalAt.loc Bb Lb [2]).cut h4 hb) hm (fun b l c h hs => ?_)
    (by have := hf.few; omega) (by have := hf.eras; omega) hl ⟨hf.low, by have := hf.high; omega⟩ (by omega) (by omega)).mono ?_
  · rw [Own.cut_new (hfr b l c h)] at hs
    exact not_sub_nil (by simp) hs
  · rintro r w2 ⟨v, ow2, rfl, hs0, hF, -, -⟩
    have hs := Step.wrap hb hs0
    have hq := hs.belowW (by simp) h1 h2
    exact ⟨_, rfl, ow2, hq.1, hq.2, (LocalAt.loc Ba La [1]).step ((LocalAt.loc Ba La [1]).cut h3 hb) hs0 apart12.symm, hF⟩
theorem TwoL.logs {w W : World} {Ba Bb : Nat} {La Lb : LocalS} (h : TwoL w Ba La Bb Lb W) (hl : La.log.length ≤ 1073741824) (hl2 : Lb.log.length ≤ 1073741824) :
    (Calls Tryz.prog 11 #[.pointer (some ⟨Ba, 0, none⟩)] W fun e w' => ∃ v', e = .returned v' ∧ Row w' 54 3 v' La.log.length (La.log.flatMap msgCells) ∧ Below W.heap.size W w' ∧ (∀ g, v'.ownBlock = some g → W.heap.size ≤ g)) ∧
    (Calls Tryz.prog 11 #[.pointer (some ⟨Bb, 0, none⟩)] W fun e w' => ∃ v', e = .returned v' ∧ Row w' 54 3 v' Lb.log.length (Lb.log.flatMap msgCells) ∧ Below W.heap.size W w' ∧ (∀ g, v'.ownBlock = some g → W.heap.size ≤ g)) := by
  obtain ⟨ow, h1, h2, h3, h4⟩ := h
  exact ⟨lLog_any Ba La [1] ow W h3 hl, lLog_any Bb Lb [2] ow W h4 hl2⟩
theorem TwoL.eras {w W : World} {Ba Bb : Nat} {La Lb : LocalS} {x : EraD} (h : TwoL w Ba La Bb Lb W) (hl : La.fold.eras.length ≤ 536870912) (hx : nowP La.fold.eras = x) (hab : Lb.fold = La.fold) :
    (Calls Tryz.prog 13 #[.pointer (some ⟨Ba, 0, none⟩)] W fun e w' => e = .returned (eraV x) ∧ Below W.heap.size W w') ∧
    (Calls Tryz.prog 13 #[.pointer (some ⟨Bb, 0, none⟩)] W fun e w' => e = .returned (eraV x) ∧ Below W.heap.size W w') := by
  obtain ⟨ow, h1, h2, h3, h4⟩ := h
  subst hx
  refine ⟨lEra_any Ba La [1] ow W h3 hl, ?_⟩
  rw [← hab]
  exact lEra_any Bb Lb [2] ow W h4 (by rw [hab]; exact hl)
/-- Acts by their number. -/
def actsA (es : List ((EntryD × Value) × Bool)) (k : Nat) : List (EntryD × Bool) := (es.take k).map (fun p => (p.1.1, p.2))
def actsB (es : List ((EntryD × Value) × Bool)) (bl : List Bool) (k : Nat) : List (EntryD × Bool) := (List.range (min k es.length)).map (fun i => ((es[i]?.map (·.1.1)).getD ⟨0, 0, 0, []⟩, bl[i]?.getD false))
theorem actsA_succ {es : List ((EntryD × Value) × Bool)} {k : Nat} {p : (EntryD × Value) × Bool} (h : es[k]? = some p) : actsA es (k + 1) = actsA es k ++ [(p.1.1, p.2)] := by
  unfold actsA; rw [List.take_add_one, h]; simp
theorem actsA_len (es : List ((EntryD × Value) × Bool)) (k : Nat) : (actsA es k).length ≤ k := by unfold actsA; simp; omega
theorem actsB_succ {es : List ((EntryD × Value) × Bool)} {bl : List Bool} {k : Nat} {p : (EntryD × Value) × Bool} (h : es[k]? = some p) : actsB es bl (k + 1) = actsB es bl k ++ [(p.1.1, bl[k]?.getD false)] := by
  have hk := (List.getElem?_eq_some_iff.1 h).1
  unfold actsB
  rw [Nat.min_eq_left (by omega), Nat.min_eq_left (by omega), List.range_succ, List.map_append]
  simp [h]
theorem actsB_len (es : List ((EntryD × Value) × Bool)) (bl : List Bool) (k : Nat) : (actsB es bl k).length ≤ k := by unfold actsB; simp; omega

set_option maxRecDepth 8000 in
set_option maxHeartbeats 2000000 in
theorem migrateTwo_true (a : Addr) (v : Int) (lv : Value) (es : List ((EntryD × Value) × Bool)) (ov : Value) (bl : List Bool) (w : World) (he : ErrAt w a) (hes : ElemsIn w lv 5 act15Cells es) (hok : (∀ p ∈ es, MsgsIn w p.1.2 p.1.1.msgs ∧ MsgsOk p.1.1.msgs) ∧ es.length ≤ 9223372036854775807)
    (hbo : ElemsIn w ov 1 (fun b => [.bool b]) bl ∧ bl.length ≤ 9223372036854775807) : Calls Tryz.prog 4 #[.int .i64 v, lv, ov] w fun r w' => r = .returned (.bool true) ∧ Below w.heap.size w w' := by
  obtain ⟨ea, ec, rfl, hcs⟩ := hes.shape (by omega) (fun y => ⟨_, rfl⟩)
  obtain ⟨oa, oc, rfl, hos⟩ := hbo.1.shape (by omega) (fun y => ⟨_, rfl⟩)
  have hall := hok.1
  have hel := hok.2
  have hbl := hbo.2
  have hsh := shown15_any a w he
  have heW := fun W' (hW : Below w.heap.size w W') => he.below hW he.lt
  clear hes hok hbo
  replace hsh : Hid (Calls _ _ _ _ _) := hsh
  replace heW : Hid (∀ _, _) := heW
  replace hcs : Hid (∀ _, _) := hcs
  replace hos : Hid (∀ _, _) := hos
  replace hall : Hid (∀ _, _) := hall
  replace he : Hid (ErrAt _ _) := he
  cases hk : known v
  · have hnew := lNew_no v hk
    replace hnew : Hid (∀ _, _) := hnew
    go_enter Tryz.func4, Tryz.ntmps4
    go_wp2_with fail
    refine hsh.out.mono ?_
    rintro r w1 ⟨rfl, hb1⟩
    go_wp2_with fail
    refine (hnew.out _).mono ?_
    rintro r w2 ⟨rfl, hb2⟩
    go_wp2_with fail
    refine (hnew.out _).mono ?_
    rintro r w3 ⟨rfl, hb3⟩
    go_wp2
    go_ret
    exact ⟨rfl, pb_trans (pb_trans hb1 hb2) hb3⟩
  · have hnew := fun t ow W' (hW : Below w.heap.size w W') => lNew_any a v hk t ow W' (heW.out W' hW)
    replace hnew : Hid (∀ _, _) := hnew
    replace hk : Hid (_ = _) := hk
    go_enter Tryz.func4, Tryz.ntmps4
    go_wp2_with fail
    refine hsh.out.mono ?_
    rintro r w1 ⟨rfl, hb1⟩
    go_wp2_with fail
    refine (hnew.out [1] (fun _ => []) _ hb1).mono ?_
    rintro r w2 ⟨Ba, ow2, rfl, hs2, hb2, hF2⟩
    have hq2 := hs2.belowW (by simp) hb1 (fun _ _ => rfl)
    replace hF2 : Hid (LocalAt _ _ _ _ _) := hF2
    replace hq2 : Hid (_ ∧ _) := hq2
    go_wp2_with fail
    refine (hnew.out [2] ow2 _ hq2.out.1).mono ?_
    rintro r w3 ⟨Bb, ow3, rfl, hs3, hb3, hG3⟩
    have hq3 := hs3.belowW (by simp) hq2.out.1 hq2.out.2
    have htwo : TwoL w Ba (newL v (stBegin v)) Bb (newL v (stBegin v)) w3 := ⟨ow3, hq3.1, hq3.2, (LocalAt.loc Ba _ [1]).step hF2.out hs3 apart12.symm, hG3⟩
    clear hs2 hs3 hb1 hb2 hb3 hq2 hq3 hF2 hG3
    replace htwo : Hid (TwoL _ _ _ _ _ _) := htwo
    go_wp2
    go_loopw [12] (fun p12 wr => ∃ k : Nat, p12 = .int .i64 k ∧ k ≤ es.length ∧ k ≤ 60 ∧ TwoL w Ba (runL (newL v (stBegin v)) (actsA es k)) Bb (runL (newL v (stBegin v)) (actsB es bl k)) wr ∧ (runL (newL v (stBegin v)) (actsB es bl k)).fold = (runL (newL v (stBegin v)) (actsA es k)).fold) (fun p12 _ => 60 - (intOf p12).toNat)
    case atStart => exact ⟨0, rfl, Nat.zero_le _, Nat.zero_le _, by simpa [actsA, actsB, runL] using htwo.out, by simp [actsA, actsB]⟩
    case round =>
      obtain ⟨k, rfl, hk1, hk2, htw, hfold⟩ := hrel
      clear htwo
      have hbw : Below w.heap.size w wr := htw.bel
      replace htw : Hid (TwoL _ _ _ _ _ _) := htw
      have hB1 := runL_b (newL_b v (stBegin v)) (actsA es k)
      have hB2 := runL_b (newL_b v (stBegin v)) (actsB es bl k)
      have hl1 := actsA_len es k
      have hl2 := actsB_len es bl k
      by_cases hlt : k < es.length ∧ k < 60
      · obtain ⟨hlt, hlt2⟩ := hlt
        obtain ⟨p, hp⟩ : ∃ p, es[k]? = some p := ⟨_, List.getElem?_eq_getElem hlt⟩
        obtain ⟨b, off, rfl, hc⟩ := hcs.out k p hp
        have hmem := hall.out p (List.mem_of_getElem? hp)
        have hcell : ∀ j u, j < 5 → (act15Cells p)[j]? = some u → ∀ W, Below w.heap.size w W → W.cell? ⟨b, off + (k * 5 + j), none⟩ = some u := fun j u hj hu W hW => by
          have h1 := hc j hj
          rw [hu] at h1; exact (hW.cell (cell_lt h1)).trans h1
        have hS : ∀ W, Below w.heap.size w W → W.cell? ⟨b, off + k * 5, none⟩ = some (.int .i64 p.1.1.kind) ∧ W.cell? ⟨b, off + k * 5 + 1, none⟩ = some (.int .u32 p.1.1.epoch) ∧ W.cell? ⟨b, off + k * 5 + 2, none⟩ = some (.int .i64 p.1.1.ver) ∧ W.cell? ⟨b, off + k * 5 + 3, none⟩ = some p.1.2 ∧ W.cell? ⟨b, off + k * 5 + 4, none⟩ = some (.bool p.2) ∧ True :=
          fun W hW => ⟨hcell 0 _ (by omega) rfl W hW, hcell 1 _ (by omega) rfl W hW, hcell 2 _ (by omega) rfl W hW, hcell 3 _ (by omega) rfl W hW, hcell 4 _ (by omega) rfl W hW, trivial⟩
        clear hc hcell
        have hcut := fun W (hW : Below w.heap.size w W) => cut15_any p.1.1 p.1.2 W (hmem.1.below hW) hmem.2
        unfold entV at hcut
        have hsA := actsA_succ hp
        have hsB := actsB_succ (bl := bl) hp
        clear hp hmem
        have hnA : runL (newL v (stBegin v)) (actsA es (k + 1)) = (applyL (runL (newL v (stBegin v)) (actsA es k)) (cutE p.1.1) p.2).1 := by rw [hsA, runL_snoc]
        have hnB : runL (newL v (stBegin v)) (actsB es bl (k + 1)) = (applyL (runL (newL v (stBegin v)) (actsB es bl k)) (cutE p.1.1) (bl[k]?.getD false)).1 := by rw [hsB, runL_snoc]
        have hll : (cutE p.1.1).msgs.length ≤ 1073741824 := by unfold cutE cutL; simp; omega
        have hfold' : (runL (newL v (stBegin v)) (actsB es bl k)).fold = (runL (newL v (stBegin v)) (actsA es k)).fold := hfold
        generalize runL (newL v (stBegin v)) (actsA es k) = La at *
        generalize runL (newL v (stBegin v)) (actsB es bl k) = Lb at *
        obtain ⟨LA, hLA⟩ : ∃ L, (applyL La (cutE p.1.1) p.2).1 = L := ⟨_, rfl⟩
        obtain ⟨LB, hLB⟩ : ∃ L, (applyL Lb (cutE p.1.1) (bl[k]?.getD false)).1 = L := ⟨_, rfl⟩
        have hBA : LocalB LA 100 := by rw [← hLA]; exact (applyL_b hB1 (cutE p.1.1) p.2).mono (by omega)
        have hBB : LocalB LB 100 := by rw [← hLB]; exact (applyL_b hB2 (cutE p.1.1) _).mono (by omega)
        have hff : LB.fold = LA.fold := by rw [← hLA, ← hLB, applyL_fold, applyL_fold, hfold']
        have hlogs := two_logs hBA hBB hff.symm
        have hla := hBA.len
        have hlb := hBB.len
        have hlc := hBA.fold.eras
        obtain ⟨⟨ep, ve, st⟩, hn⟩ : ∃ n, nowP LA.fold.eras = n := ⟨_, rfl⟩
        have hapA := fun (mv : Value) (W' : World) (hb : Below wr.heap.size wr W') (hR : Row W' 54 3 mv (cutE p.1.1).msgs.length ((cutE p.1.1).msgs.flatMap msgCells)) (hfr : ∀ g, mv.ownBlock = some g → wr.heap.size ≤ g) =>
          htw.out.applyA he.out (mv := mv) (e := cutE p.1.1) (fails := p.2) hb hR.src hll (fun b l c h => hfr b.block (by rw [h]; rfl)) hB1 (by omega)
        rw [hLA] at hapA
        have hapB := fun (w5 : World) (h5 : TwoL w Ba LA Bb Lb w5) (mv : Value) (W' : World) (hb : Below w5.heap.size w5 W') (hR : Row W' 54 3 mv (cutE p.1.1).msgs.length ((cutE p.1.1).msgs.flatMap msgCells)) (hfr : ∀ g, mv.ownBlock = some g → w5.heap.size ≤ g) =>
          h5.applyB he.out (mv := mv) (e := cutE p.1.1) (fails := bl[k]?.getD false) hb hR.src hll (fun b l c h => hfr b.block (by rw [h]; rfl)) hB2 (by omega)
        rw [hLB] at hapB
        unfold entV at hapA hapB
        rw [hLA] at hnA
        rw [hLB] at hnB
        have hoc : k < bl.length → ∃ b off, oa = some ⟨b, off, none⟩ ∧ ∀ W, Below w.heap.size w W → W.cell? ⟨b, off + k, none⟩ = some (.bool (bl[k]?.getD false)) := fun hk => by
          obtain ⟨b, off, h1, h2⟩ := hos.out k _ (List.getElem?_eq_getElem hk)
          refine ⟨b, off, h1, fun W hW => ?_⟩
          have h3 := h2 0 (by omega)
          simp only [Nat.mul_one, Nat.add_zero, List.getElem?_cons_zero] at h3
          rw [(hW.cell (cell_lt h3)).trans h3]
          simp [hk]
        obtain ⟨fb, hfb⟩ : ∃ fb, bl[k]?.getD false = fb := ⟨_, rfl⟩
        rw [hfb] at hapB hoc
        have hfb0 : ¬ k < bl.length → fb = false := fun h => by rw [← hfb, List.getElem?_eq_none (by omega)]; rfl
        have z0 : (0 : Int) ≤ k := by omega
        have z1 : (k : Int) < es.length := by omega
        replace hS : Hid (∀ _, _) := hS
        replace hcut : Hid (∀ _, _) := hcut
        replace hapA : Hid (∀ _, _) := hapA
        replace hapB : Hid (∀ _, _) := hapB
        replace hnA : Hid (_ = _) := hnA
        replace hnB : Hid (_ = _) := hnB
        replace hsA : Hid (_ = _) := hsA
        replace hsB : Hid (_ = _) := hsB
        replace hfold : Hid (_ = _) := hfold
        replace hfold' : Hid (_ = _) := hfold'
        replace hB1 : Hid (LocalB _ _) := hB1
        replace hB2 : Hid (LocalB _ _) := hB2
        replace hBA : Hid (LocalB _ _) := hBA
        replace hBB : Hid (LocalB _ _) := hBB
        replace hLA : Hid (_ = _) := hLA
        replace hLB : Hid (_ = _) := hLB
        replace hff : Hid (_ = _) := hff
        replace hlogs : Hid (_ = _) := hlogs
        replace hn : Hid (_ = _) := hn
        replace hfb : Hid (_ = _) := hfb
        replace hoc : Hid (_ → _) := hoc
        replace hfb0 : Hid (_ → _) := hfb0
        go_wp2_with fail
        refine wp_region_sched [(0, true), (1, true), (2, true), (3, true), (4, true), (5, true), (7, true), (8, true), (9, true), (10, true), (11, true), (6, false), (12, false)] none (fun w' => w'.cell? ⟨b, off + k * 5, none⟩ = some (.int .i64 p.1.1.kind) ∧ w'.cell? ⟨b, off + k * 5 + 1, none⟩ = some (.int .u32 p.1.1.epoch) ∧ w'.cell? ⟨b, off + k * 5 + 2, none⟩ = some (.int .i64 p.1.1.ver) ∧ w'.cell? ⟨b, off + k * 5 + 3, none⟩ = some p.1.2 ∧ w'.cell? ⟨b, off + k * 5 + 4, none⟩ = some (.bool p.2) ∧ True) (by kernel_rfl) (by kernel_rfl) (hS.out _ (pb_drew hbw)) ?_
        (repeat (refine wpSched_quiet (v := ?_) rfl rfl (fun w' hS => ?_) (fun K hK => ?_); rotate_left; (focus ((try have e1 := hS.1.cell); (try have e2 := hS.2.1.cell); (try have e3 := hS.2.2.1.cell); (try have e4 := hS.2.2.2.1.cell); (try have f1 := hS.1); (try have f2 := hS.2.1); (try have f3 := hS.2.2.1); (try have f4 := hS.2.2.2.1); (try have f5 := hS.2.2.2.2.1); clear hS; go_simp; (try with_reducible rfl))); (go_simp; refine hK _ ?_; clear hK K)))
        refine wpSched_loud rfl (fun K hK => ?_)
        go_wp2_with fail
        refine (hcut.out _ (pb_drew hbw)).mono ?_
        rintro r w4 ⟨mv4, rfl, hR4, hb4, hf4⟩
        have hb4' : Below wr.heap.size wr w4 := pb_trans (pb_drew (Below.refl _ _)) hb4
        have hap4 := hapA.out mv4 w4 hb4' hR4 hf4
        obtain ⟨sa, sc, rfl⟩ := hR4.src.shape
        replace hap4 : Hid (Calls _ _ _ _ _) := hap4
        clear hR4 hf4 hapA
        unfold entV
        go_wp2
        refine hK.out _ _ (fun _ => hS.out _ (pb_trans hbw hb4')) ?_
        clear hK K
        refine wpSched_loud rfl (fun K hK => ?_)
        go_wp2_with fail
        refine hap4.out.mono ?_
        rintro r w5 ⟨v5, rfl, h5⟩
        have hb5 := h5.bel
        have hap5 := fun (mv : Value) (W' : World) (hb : Below w5.heap.size w5 W') (hR : Row W' 54 3 mv (cutE p.1.1).msgs.length ((cutE p.1.1).msgs.flatMap msgCells)) (hfr : ∀ g, mv.ownBlock = some g → w5.heap.size ≤ g) => hapB.out w5 h5 mv W' hb hR hfr
        replace h5 : Hid (TwoL _ _ _ _ _ _) := h5
        replace hap5 : Hid (∀ _, _) := hap5
        go_wp2
        refine hK.out _ _ (fun _ => hS.out _ hb5) ?_
        clear hK K
        refine wpSched_nil ?_
        obtain ⟨d0, d1, d2, d3, -, -⟩ := hS.out _ hb5
        by_cases hkb : k < bl.length
        · obtain ⟨ob, oo, rfl, hocc⟩ := hoc.out hkb
          have y1 : (k : Int) < bl.length := by omega
          replace hocc : Hid (∀ _, _) := hocc
          go_wp2_with fail
          refine (hcut.out _ hb5).mono ?_
          rintro r w6 ⟨mv6, rfl, hR6, hb6, hf6⟩
          have hap6 := hap5.out mv6 w6 hb6 hR6 hf6
          obtain ⟨sa6, sc6, rfl⟩ := hR6.src.shape
          have hoc6 := hocc.out w6 (pb_trans hb5 hb6)
          replace hap6 : Hid (Calls _ _ _ _ _) := hap6
          clear hR6 hf6 d0 d1 d2 d3
          unfold entV
          go_wp2_with fail
          refine hap6.out.mono ?_
          rintro r w7 ⟨v7, rfl, h7⟩
          have hlg := h7.logs (by omega) (by omega)
          replace h7 : Hid (TwoL _ _ _ _ _ _) := h7
          replace hlg : Hid (_ ∧ _) := hlg
          clear hoc6
          go_wp2_with fail
          refine hlg.out.1.mono ?_
          rintro r w8 ⟨va, rfl, hRa, hb8, -⟩
          have hlg8 := (h7.out.below hb8).logs (by omega) (by omega)
          replace hlg8 : Hid (_ ∧ _) := hlg8
          go_wp2_with fail
          refine hlg8.out.2.mono ?_
          rintro r w9 ⟨vb, rfl, hRb, hb9, -⟩
          have h9 := (h7.out.below hb8).below hb9
          have hRa9 := hRa.src.below hb9
          have hRb9 := hRb.src
          obtain ⟨aa, ac, rfl⟩ := hRa9.shape
          obtain ⟨ba, bc, rfl⟩ := hRb9.shape
          replace hRa9 : Hid (Src _ _ _ _ _) := hRa9
          replace hRb9 : Hid (Src _ _ _ _ _) := hRb9
          clear hRa hRb
          obtain ⟨q, hq⟩ : ∃ q, min LA.log.length LB.log.length = q := ⟨_, rfl⟩
          have hqi : min (LA.log.length : Int) (LB.log.length : Int) = (q : Int) := by omega
          have hac : (LA.log.length : Int) ≤ ac := by
            rcases hRa9.out.2 with ⟨h, h0⟩ | ⟨_, _, _, h, h0, -⟩
            · injection h with h1 h2 h3; omega
            · injection h with h1 h2 h3; omega
          have hbc : (LB.log.length : Int) ≤ bc := by
            rcases hRb9.out.2 with ⟨h, h0⟩ | ⟨_, _, _, h, h0, -⟩
            · injection h with h1 h2 h3; omega
            · injection h with h1 h2 h3; omega
          have hqa : (q : Int) ≤ ac := by omega
          have hqb : (q : Int) ≤ bc := by omega
          have hq0 : (0 : Int) ≤ q := by omega
          have hsame := fun W (hW : Below w9.heap.size w9 W) => sameMsg_any (.slice aa q ac) (.slice ba q bc) (LA.log.take q) (LB.log.take q) W (src_takeG (n := q) (hRa9.out.below hW) (by omega)) (src_takeG (n := q) (hRb9.out.below hW) (by omega)) (by simp; omega) (by simp; omega)
          have hlq := hlogs.out
          rw [hq] at hlq
          rw [show decide (LA.log.take q = LB.log.take q) = true by simpa using hlq] at hsame
          clear hlq
          have her := fun W (hW : Below w9.heap.size w9 W) => (h9.below hW).eras (x := (ep, ve, st)) (by omega) hn.out hff.out
          unfold eraV at her
          have hneq := era_neq (ep, ve, st) (ep, ve, st)
          rw [show decide ((ep, ve, st) ≠ (ep, ve, st)) = false by simp] at hneq
          unfold eraV at hneq
          have hb9 := h9.bel
          replace h9 : Hid (TwoL _ _ _ _ _ _) := h9
          replace her : Hid (∀ _, _) := her
          replace hsame : Hid (∀ _, _) := hsame
          replace hq : Hid (_ = _) := hq
          go_wp2_with fail
          replace hqi : Hid (_ = _) := hqi
          refine wp_region_sched [(0, true), (1, true), (2, true), (3, true), (4, true), (5, true), (6, false), (7, true), (8, true), (9, true), (11, true), (10, false), (12, false), (13, true), (14, true)] none (fun w' => True) (by kernel_rfl) (by kernel_rfl) trivial ?_
          (repeat (refine wpSched_quiet (v := ?_) rfl rfl (fun w' hS => ?_) (fun K hK => ?_); rotate_left; (focus ((try have e1 := hS.1.cell); (try have e2 := hS.2.1.cell); (try have e3 := hS.2.2.1.cell); (try have e4 := hS.2.2.2.1.cell); (try have f1 := hS.1); (try have f2 := hS.2.1); (try have f3 := hS.2.2.1); (try have f4 := hS.2.2.2.1); (try have f5 := hS.2.2.2.2.1); clear hS; go_simp; (try with_reducible rfl))); (go_simp; refine hK _ ?_; clear hK K)))
          refine wpSched_loud rfl (fun K hK => ?_)
          go_wp2_with fail
          refine (hsame.out _ (pb_drew (Below.refl _ _))).mono ?_
          rintro r w10 ⟨rfl, hb10⟩
          have hq10 : Below w9.heap.size w9 w10 := pb_trans (pb_drew (Below.refl _ _)) hb10
          go_wp2
          refine hK.out _ _ (fun _ => trivial) ?_
          clear hK K
          (repeat (refine wpSched_quiet (v := ?_) rfl rfl (fun w' hS => ?_) (fun K hK => ?_); rotate_left; (focus ((try have e1 := hS.1.cell); (try have e2 := hS.2.1.cell); (try have e3 := hS.2.2.1.cell); (try have e4 := hS.2.2.2.1.cell); (try have f1 := hS.1); (try have f2 := hS.2.1); (try have f3 := hS.2.2.1); (try have f4 := hS.2.2.2.1); (try have f5 := hS.2.2.2.2.1); clear hS; go_simp; (try with_reducible rfl))); (go_simp; refine hK _ ?_; clear hK K)))
          refine wpSched_loud rfl (fun K hK => ?_)
          go_wp2_with fail
          refine (her.out _ hq10).1.mono ?_
          rintro r w11 ⟨rfl, hb11⟩
          have hq11 := pb_trans hq10 hb11
          go_wp2
          refine hK.out _ _ (fun _ => trivial) ?_
          clear hK K
          refine wpSched_loud rfl (fun K hK => ?_)
          go_wp2_with fail
          refine (her.out _ hq11).2.mono ?_
          rintro r w12 ⟨rfl, hb12⟩
          have hq12 := pb_trans hq11 hb12
          go_wp2
          refine hK.out _ _ (fun _ => trivial) ?_
          clear hK K
          (repeat (refine wpSched_quiet (v := ?_) rfl rfl (fun w' hS => ?_) (fun K hK => ?_); rotate_left; (focus ((try have e1 := hS.1.cell); (try have e2 := hS.2.1.cell); (try have e3 := hS.2.2.1.cell); (try have e4 := hS.2.2.2.1.cell); (try have f1 := hS.1); (try have f2 := hS.2.1); (try have f3 := hS.2.2.1); (try have f4 := hS.2.2.2.1); (try have f5 := hS.2.2.2.2.1); clear hS; go_simp; (try with_reducible rfl))); (go_simp; refine hK _ ?_; clear hK K)))
          refine wpSched_nil ?_
          have h12 := h9.out.below hq12
          replace h12 : Hid (TwoL _ _ _ _ _ _) := h12
          go_wp2
          go_roundw
          case rel => exact ⟨k + 1, by go_num, by omega, by omega, by rw [hnA.out, hnB.out]; exact h12.out, by rw [hnA.out, hnB.out]; exact hff.out⟩
          case measure => simp [intOf]; omega
        · obtain rfl := hfb0.out hkb
          have y1 : ¬ (k : Int) < bl.length := by omega
          have y2 : decide ((k : Int) < (bl.length : Int)) = false := by simp; omega
          have hocc : Hid (∀ W, Below w.heap.size w W → True) := fun W hW => trivial
          go_wp2_with fail
          refine (hcut.out _ hb5).mono ?_
          rintro r w6 ⟨mv6, rfl, hR6, hb6, hf6⟩
          have hap6 := hap5.out mv6 w6 hb6 hR6 hf6
          obtain ⟨sa6, sc6, rfl⟩ := hR6.src.shape
          have hoc6 := hocc.out w6 (pb_trans hb5 hb6)
          replace hap6 : Hid (Calls _ _ _ _ _) := hap6
          clear hR6 hf6 d0 d1 d2 d3
          unfold entV
          go_wp2_with fail
          refine hap6.out.mono ?_
          rintro r w7 ⟨v7, rfl, h7⟩
          have hlg := h7.logs (by omega) (by omega)
          replace h7 : Hid (TwoL _ _ _ _ _ _) := h7
          replace hlg : Hid (_ ∧ _) := hlg
          clear hoc6
          go_wp2_with fail
          refine hlg.out.1.mono ?_
          rintro r w8 ⟨va, rfl, hRa, hb8, -⟩
          have hlg8 := (h7.out.below hb8).logs (by omega) (by omega)
          replace hlg8 : Hid (_ ∧ _) := hlg8
          go_wp2_with fail
          refine hlg8.out.2.mono ?_
          rintro r w9 ⟨vb, rfl, hRb, hb9, -⟩
          have h9 := (h7.out.below hb8).below hb9
          have hRa9 := hRa.src.below hb9
          have hRb9 := hRb.src
          obtain ⟨aa, ac, rfl⟩ := hRa9.shape
          obtain ⟨ba, bc, rfl⟩ := hRb9.shape
          replace hRa9 : Hid (Src _ _ _ _ _) := hRa9
          replace hRb9 : Hid (Src _ _ _ _ _) := hRb9
          clear hRa hRb
          obtain ⟨q, hq⟩ : ∃ q, min LA.log.length LB.log.length = q := ⟨_, rfl⟩
          have hqi : min (LA.log.length : Int) (LB.log.length : Int) = (q : Int) := by omega
          have hac : (LA.log.length : Int) ≤ ac := by
            rcases hRa9.out.2 with ⟨h, h0⟩ | ⟨_, _, _, h, h0, -⟩
            · injection h with h1 h2 h3; omega
            · injection h with h1 h2 h3; omega
          have hbc : (LB.log.length : Int) ≤ bc := by
            rcases hRb9.out.2 with ⟨h, h0⟩ | ⟨_, _, _, h, h0, -⟩
            · injection h with h1 h2 h3; omega
            · injection h with h1 h2 h3; omega
          have hqa : (q : Int) ≤ ac := by omega
          have hqb : (q : Int) ≤ bc := by omega
          have hq0 : (0 : Int) ≤ q := by omega
          have hsame := fun W (hW : Below w9.heap.size w9 W) => sameMsg_any (.slice aa q ac) (.slice ba q bc) (LA.log.take q) (LB.log.take q) W (src_takeG (n := q) (hRa9.out.below hW) (by omega)) (src_takeG (n := q) (hRb9.out.below hW) (by omega)) (by simp; omega) (by simp; omega)
          have hlq := hlogs.out
          rw [hq] at hlq
          rw [show decide (LA.log.take q = LB.log.take q) = true by simpa using hlq] at hsame
          clear hlq
          have her := fun W (hW : Below w9.heap.size w9 W) => (h9.below hW).eras (x := (ep, ve, st)) (by omega) hn.out hff.out
          unfold eraV at her
          have hneq := era_neq (ep, ve, st) (ep, ve, st)
          rw [show decide ((ep, ve, st) ≠ (ep, ve, st)) = false by simp] at hneq
          unfold eraV at hneq
          have hb9 := h9.bel
          replace h9 : Hid (TwoL _ _ _ _ _ _) := h9
          replace her : Hid (∀ _, _) := her
          replace hsame : Hid (∀ _, _) := hsame
          replace hq : Hid (_ = _) := hq
          go_wp2_with fail
          replace hqi : Hid (_ = _) := hqi
          refine wp_region_sched [(0, true), (1, true), (2, true), (3, true), (4, true), (5, true), (6, false), (7, true), (8, true), (9, true), (11, true), (10, false), (12, false), (13, true), (14, true)] none (fun w' => True) (by kernel_rfl) (by kernel_rfl) trivial ?_
          (repeat (refine wpSched_quiet (v := ?_) rfl rfl (fun w' hS => ?_) (fun K hK => ?_); rotate_left; (focus ((try have e1 := hS.1.cell); (try have e2 := hS.2.1.cell); (try have e3 := hS.2.2.1.cell); (try have e4 := hS.2.2.2.1.cell); (try have f1 := hS.1); (try have f2 := hS.2.1); (try have f3 := hS.2.2.1); (try have f4 := hS.2.2.2.1); (try have f5 := hS.2.2.2.2.1); clear hS; go_simp; (try with_reducible rfl))); (go_simp; refine hK _ ?_; clear hK K)))
          refine wpSched_loud rfl (fun K hK => ?_)
          go_wp2_with fail
          refine (hsame.out _ (pb_drew (Below.refl _ _))).mono ?_
          rintro r w10 ⟨rfl, hb10⟩
          have hq10 : Below w9.heap.size w9 w10 := pb_trans (pb_drew (Below.refl _ _)) hb10
          go_wp2
          refine hK.out _ _ (fun _ => trivial) ?_
          clear hK K
          (repeat (refine wpSched_quiet (v := ?_) rfl rfl (fun w' hS => ?_) (fun K hK => ?_); rotate_left; (focus ((try have e1 := hS.1.cell); (try have e2 := hS.2.1.cell); (try have e3 := hS.2.2.1.cell); (try have e4 := hS.2.2.2.1.cell); (try have f1 := hS.1); (try have f2 := hS.2.1); (try have f3 := hS.2.2.1); (try have f4 := hS.2.2.2.1); (try have f5 := hS.2.2.2.2.1); clear hS; go_simp; (try with_reducible rfl))); (go_simp; refine hK _ ?_; clear hK K)))
          refine wpSched_loud rfl (fun K hK => ?_)
          go_wp2_with fail
          refine (her.out _ hq10).1.mono ?_
          rintro r w11 ⟨rfl, hb11⟩
          have hq11 := pb_trans hq10 hb11
          go_wp2
          refine hK.out _ _ (fun _ => trivial) ?_
          clear hK K
          refine wpSched_loud rfl (fun K hK => ?_)
          go_wp2_with fail
          refine (her.out _ hq11).2.mono ?_
          rintro r w12 ⟨rfl, hb12⟩
          have hq12 := pb_trans hq11 hb12
          go_wp2
          refine hK.out _ _ (fun _ => trivial) ?_
          clear hK K
          (repeat (refine wpSched_quiet (v := ?_) rfl rfl (fun w' hS => ?_) (fun K hK => ?_); rotate_left; (focus ((try have e1 := hS.1.cell); (try have e2 := hS.2.1.cell); (try have e3 := hS.2.2.1.cell); (try have e4 := hS.2.2.2.1.cell); (try have f1 := hS.1); (try have f2 := hS.2.1); (try have f3 := hS.2.2.1); (try have f4 := hS.2.2.2.1); (try have f5 := hS.2.2.2.2.1); clear hS; go_simp; (try with_reducible rfl))); (go_simp; refine hK _ ?_; clear hK K)))
          refine wpSched_nil ?_
          have h12 := h9.out.below hq12
          replace h12 : Hid (TwoL _ _ _ _ _ _) := h12
          go_wp2
          go_roundw
          case rel => exact ⟨k + 1, by go_num, by omega, by omega, by rw [hnA.out, hnB.out]; exact h12.out, by rw [hnA.out, hnB.out]; exact hff.out⟩
          case measure => simp [intOf]; omega
      · have hend : (k < es.length ∧ ¬ k < 60) ∨ ¬ k < es.length := by omega
        clear hB1 hB2 hfold
        rcases hend with ⟨q1, q2⟩ | q1
        · go_wp2
          go_ret
          exact ⟨rfl, hbw⟩
        · go_wp2
          go_ret
          exact ⟨rfl, hbw⟩
end Go.Proofs.YtlfledeldhhllaaGreatDoor
