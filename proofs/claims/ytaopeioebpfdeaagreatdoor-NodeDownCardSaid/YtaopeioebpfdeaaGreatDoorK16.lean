/- PROVED HERE: WALKS: batch's Add, right, Done. Condition: the pool is one that calls have made. PLAIN FACTS on the sum's bits, and on numbers of four bytes. No program in sight. -/
import Derived.Laws.Bits64
import Derived.Laws.Bits64b
import Derived.Shelf.Spec.TrailingZeros
import Derived.Test.YtaopeioebpfdeaaGreatDoorK12
import Derived.Test.YtaopeioebpfdeaaGreatDoorK15
namespace Go.Proofs.YtaopeioebpfdeaaGreatDoor
open Go Go.RowKit Go.Shelf Go.Extern.Stop Go.Stop Go.Extern
attribute [local go_sem] Oper.semAt_some wide_fn wide_depth

theorem put_keys {V : Type} (k : MId) (v : V) : ∀ (l : List (MId × V)), (put k v l).map (·.1) = if k ∈ l.map (·.1) then l.map (·.1) else l.map (·.1) ++ [k]
  | [] => by simp [put]
  | (k', v') :: l => by
    have ih := put_keys k v l
    unfold put
    by_cases h : k = k'
    · subst h; simp
    · rw [if_neg h]
      simp only [List.map_cons, ih, List.mem_cons, h, false_or]
      split <;> simp
theorem put_mem {V : Type} (k : MId) (v : V) : ∀ (l : List (MId × V)) (q), q ∈ put k v l → q = (k, v) ∨ q ∈ l
  | [], q, h => by simpa [put] using h
  | (k', v') :: l, q, h => by
    unfold put at h
    split at h
    · rcases List.mem_cons.1 h with h | h
      · exact .inl h
      · exact .inr (List.mem_cons_of_mem _ h)
    · rcases List.mem_cons.1 h with h | h
      · exact .inr (h ▸ List.mem_cons_self ..)
      · rcases put_mem k v l q h with h | h
        · exact .inl h
        · exact .inr (List.mem_cons_of_mem _ h)
theorem pput_len {V : Type} (k : MId) (v : V) : ∀ (l : List (MId × V)), (put k v l).length ≤ l.length + 1
  | [] => by simp [put]
  | (k', v') :: l => by
    have ih := pput_len k v l
    unfold put
    split
    · simp
    · simp; omega
theorem pdel_len {V : Type} (k : MId) : ∀ (l : List (MId × V)), (del k l).length ≤ l.length
  | [] => by simp [del]
  | (k', v') :: l => by
    have ih := pdel_len k l
    unfold del
    split
    · simp
    · simp; omega
theorem PoolOk.add {p : PoolS} (h : PoolOk p) (m : MsgD) (hl : p.waits.length < 1000) : PoolOk { p with waits := put m.1 m p.waits } := by
  refine ⟨fun q hq => ?_, ?_, ?_⟩
  · rcases put_mem _ _ _ _ hq with rfl | hq
    · rfl
    · exact h.1 q hq
  · show ((put m.1 m p.waits).map (·.1)).Nodup
    rw [put_keys]
    split
    · exact h.2.1
    · rename_i hn
      rw [List.nodup_append]
      exact ⟨h.2.1, by simp, fun a ha b hb => by simp at hb; subst hb; exact fun e => hn (e ▸ ha)⟩
  · have := pput_len m.1 m p.waits
    show (put m.1 m p.waits).length ≤ 1000
    omega
theorem PoolOk.less {p : PoolS} (h : PoolOk p) (k : MId) (d : List (MId × Unit)) : PoolOk { waits := del k p.waits, done := d } := by
  refine ⟨fun q hq => h.1 q (del_sub _ _ _ hq), ?_, Nat.le_trans (pdel_len _ _) h.2.2⟩
  show ((del k p.waits).map (·.1)).Nodup
  have : ∀ l : List (MId × MsgD), ((del k l).map (·.1)).Sublist (l.map (·.1)) := by
    intro l
    induction l with
    | nil => simp [del]
    | cons x l ih =>
      obtain ⟨k', v'⟩ := x
      unfold del
      split
      · exact List.sublist_cons_self _ _
      · exact ih.cons_cons _
  exact (this p.waits).nodup h.2.1
theorem len_map {P : Program} {W : World} {b n : Nat} {es : Array MapEntry} {ck : Nat} (h : W.heap[b]? = some (.map es ck)) (hs : es.size = n) {mt kt et : TypeId} (hm : P.underlying mt = some (.map kt et)) (rt : TypeId) : (Builtin.len_ #[mt] rt #[.map (some b)]).run P W = .ok (.int .i64 n) W := by
  simp [Builtin.len_, run_underlying hm, run_getObj_map h, hs, goInt]
set_option maxRecDepth 8000 in
set_option maxHeartbeats 1000000 in
theorem plAdd_any (B : Nat) (p : PoolS) (t : List Nat) (ow : Own) (m : MsgD) (w : World) (h : PoolAt B p t ow w) :
    Calls Tryz.prog 67 #[.pointer (some ⟨B, 0, none⟩), msgV m] w (PoolPost B (addP p m).1 t ow w (.int .i64 (addP p m).2)) := by
  obtain ⟨⟨i, c⟩, d⟩ := m
  have h0 := h
  obtain ⟨hok, wb, db, hB, hv, hk, hne, o1, o2, o3⟩ := h
  have hnil := fun W hW => plNil_any B wb db W hW
  have hright := fun W => right_any i c d W
  have hisd := fun W hW => plIs_any B p t ow i c W hW
  unfold poolCells at hB hnil
  unfold msgV
  have hap : addP p ((i, c), d) = if rightM ((i, c), d) = false then (p, 100) else if (look (i, c) p.waits).isSome ∨ (look (i, c) p.done).isSome then (p, 0) else if 1000 ≤ p.waits.length then (p, 120) else ({ p with waits := put (i, c) ((i, c), d) p.waits }, 0) := rfl
  have hlk : ∃ a b x, ∀ W, Below w.heap.size w W → (Instr.lookup 162 (.map (some wb)) (.agg #[.int .i64 i, .int .u32 c]) true).run Tryz.prog W = .ok (.tuple #[.agg #[.int .i64 a, .int .u32 b, .string x], .bool (look (i, c) p.waits).isSome]) W := by
    have hlk := fun W (hW : Below w.heap.size w W) => (hv.kept (hW.block wb hv.lt)).lookup_ok idKey Tryz.underlying162 (pend_zero W) (i, c)
    simp only [look_map, Option.isSome_map] at hlk
    cases hl : look (i, c) p.waits with
    | none => rw [hl] at hlk; exact ⟨_, _, _, hlk⟩
    | some y => rw [hl] at hlk; exact ⟨_, _, _, hlk⟩
  obtain ⟨la, lb, lx, hlk⟩ := hlk
  cases hr : rightM ((i, c), d)
  · rw [if_pos hr] at hap
    rw [hap]
    rw [hr] at hright
    replace hap : Hid (_ = _) := hap
    replace hright : Hid (∀ _, _) := hright
    replace hnil : Hid (∀ _, _) := hnil
    replace h0 : Hid (PoolAt _ _ _ _ _) := h0
    replace hr : Hid (_ = _) := hr
    have hBA := hB.alloc (.cells #[.int .i64 i, .int .u32 c, .string (bs d)] 34)
    replace hB : Hid (Blk _ _ _ _) := hB
    clear hv hk hlk hisd
    go_enter Tryz.func67, Tryz.ntmps67
    go_wp2_with fail
    refine (hnil.out _ hBA).mono ?_
    rintro e w1 ⟨rfl, rfl⟩
    go_wp2_with fail
    refine (hright.out _).mono ?_
    rintro e w2 ⟨rfl, hb2⟩
    go_wp2
    go_ret
    exact ⟨rfl, ow, Step.of_below t ow (by (repeat (first | exact Below.refl _ _ | with_reducible assumption | refine pb_alloc ?_ _ | refine pb_drew ?_ | refine pb_drewN ?_ _ | refine pb_set ?_ (by simp; try omega) _ | refine pb_trans ?_ (by with_reducible assumption)))), (PoolAt.loc B p t).below h0.out (by (repeat (first | exact Below.refl _ _ | with_reducible assumption | refine pb_alloc ?_ _ | refine pb_drew ?_ | refine pb_drewN ?_ _ | refine pb_set ?_ (by simp; try omega) _ | refine pb_trans ?_ (by with_reducible assumption))))⟩
  · rw [if_neg (by simp [hr])] at hap
    rw [hr] at hright
    replace hright : Hid (∀ _, _) := hright
    replace hnil : Hid (∀ _, _) := hnil
    replace hr : Hid (_ = _) := hr
    replace h0 : Hid (PoolAt _ _ _ _ _) := h0
    have hBA := hB.alloc (.cells #[.int .i64 i, .int .u32 c, .string (bs d)] 34)
    cases hw : (look (i, c) p.waits).isSome
    · rw [hw] at hlk hap
      replace hlk : Hid (∀ _, _) := hlk
      replace hw : Hid (_ = _) := hw
      cases hd : (look (i, c) p.done).isSome
      · rw [hd] at hisd hap
        rw [if_neg (by simp)] at hap
        replace hisd : Hid (∀ _, _) := hisd
        replace hd : Hid (_ = _) := hd
        obtain ⟨es, ck, hes, hesz⟩ := hv.size
        rw [List.length_map] at hesz
        by_cases hfull : 1000 ≤ p.waits.length
        · rw [if_pos hfull] at hap
          rw [hap]
          replace hap : Hid (_ = _) := hap
          go_enter Tryz.func67, Tryz.ntmps67
          go_wp2_with fail
          refine (hnil.out _ hBA).mono ?_
          rintro e w1 ⟨rfl, rfl⟩
          go_wp2_with fail
          refine (hright.out _).mono ?_
          rintro e w2 ⟨rfl, hb2⟩
          have kB2 := hBA.call hb2
          have kX2 : Blk w2 w.heap.size #[.int .i64 i, .int .u32 c, .string (bs d)] 34 := Blk.call (by (repeat (first | with_reducible assumption | (refine Blk.new ?_; simp; done) | refine Blk.alloc ?_ _ | refine Blk.drew ?_ | refine Blk.drewN ?_ _ | refine Blk.call ?_ (by with_reducible assumption)))) hb2
          have hbw2 : Below w.heap.size w w2 := by (repeat (first | exact Below.refl _ _ | with_reducible assumption | refine pb_alloc ?_ _ | refine pb_drew ?_ | refine pb_drewN ?_ _ | refine pb_set ?_ (by simp; try omega) _ | refine pb_trans ?_ (by with_reducible assumption)))
          clear hb2
          go_wp2_with fail
          refine wp_region_sched [(0, true), (1, true), (2, true), (3, true), (4, true), (5, true), (6, true), (7, true), (8, true), (9, true), (10, false), (11, false), (12, true)] none (fun w' => Blk w' B #[.map (some wb), .map (some db)] 165 ∧ Blk w' w.heap.size #[.int .i64 i, .int .u32 c, .string (bs d)] 34 ∧ (Instr.lookup 162 (.map (some wb)) (.agg #[.int .i64 i, .int .u32 c]) true).run Tryz.prog w' = .ok (.tuple #[.agg #[.int .i64 la, .int .u32 lb, .string lx], .bool false]) w' ∧ True) (by kernel_rfl) (by kernel_rfl) ⟨kB2.drew, kX2.drew, hlk.out _ (by (repeat (first | exact Below.refl _ _ | with_reducible assumption | refine pb_alloc ?_ _ | refine pb_drew ?_ | refine pb_drewN ?_ _ | refine pb_set ?_ (by simp; try omega) _ | refine pb_trans ?_ (by with_reducible assumption)))), trivial⟩ ?_
          (repeat (refine wpSched_quiet (v := ?_) rfl rfl (fun w' hS => ?_) (fun K hK => ?_); rotate_left; (focus ((try have e1 := hS.1.cell); (try have e2 := hS.2.1.cell); (try have e3 := hS.2.2.1.cell); (try have e4 := hS.2.2.2.1.cell); (try have f1 := hS.1); (try have f2 := hS.2.1); (try have f3 := hS.2.2.1); (try have f4 := hS.2.2.2.1); (try have f5 := hS.2.2.2.2.1); clear hS; go_simp; (try with_reducible rfl))); (go_simp; refine hK _ ?_; clear hK K)))
          refine wpSched_loud rfl (fun K hK => ?_)
          go_wp2
          refine hK.out _ _ (fun _ => ⟨kB2.drew.alloc _, kX2.drew.alloc _, hlk.out _ (by (repeat (first | exact Below.refl _ _ | with_reducible assumption | refine pb_alloc ?_ _ | refine pb_drew ?_ | refine pb_drewN ?_ _ | refine pb_set ?_ (by simp; try omega) _ | refine pb_trans ?_ (by with_reducible assumption)))), trivial⟩) ?_
          clear hK K
          refine wpSched_loud rfl (fun K hK => ?_)
          go_wp2
          refine hK.out _ _ (fun _ => ⟨kB2.drew.alloc _, kX2.drew.alloc _, hlk.out _ (by (repeat (first | exact Below.refl _ _ | with_reducible assumption | refine pb_alloc ?_ _ | refine pb_drew ?_ | refine pb_drewN ?_ _ | refine pb_set ?_ (by simp; try omega) _ | refine pb_trans ?_ (by with_reducible assumption)))), trivial⟩) ?_
          clear hK K
          (repeat (refine wpSched_quiet (v := ?_) rfl rfl (fun w' hS => ?_) (fun K hK => ?_); rotate_left; (focus ((try have e1 := hS.1.cell); (try have e2 := hS.2.1.cell); (try have e3 := hS.2.2.1.cell); (try have e4 := hS.2.2.2.1.cell); (try have f1 := hS.1); (try have f2 := hS.2.1); (try have f3 := hS.2.2.1); (try have f4 := hS.2.2.2.1); (try have f5 := hS.2.2.2.2.1); clear hS; go_simp; (try with_reducible rfl))); (go_simp; refine hK _ ?_; clear hK K)))
          refine wpSched_nil ?_
          obtain ⟨W3, hW3⟩ : ∃ W3, W3 = (w2.alloc (.cells #[.int .i64 la, .int .u32 lb, .string lx] 178)).drew := ⟨_, rfl⟩
          have hb3 : Below w.heap.size w W3 := by rw [hW3]; exact pb_drew (pb_alloc hbw2 _)
          have kB3 : Blk W3 B #[.map (some wb), .map (some db)] 165 := by rw [hW3]; exact (kB2.alloc _).drew
          have kX3 : Blk W3 w.heap.size #[.int .i64 i, .int .u32 c, .string (bs d)] 34 := by rw [hW3]; exact (kX2.alloc _).drew
          rw [← hW3]
          clear hW3 kB2 kX2 hbw2
          have cX3 := kX3.cell
          have lX3 := kX3.lt
          go_wp2_with fail
          refine (hisd.out _ ((PoolAt.loc B p t).below h0.out hb3)).mono ?_
          rintro e w4 ⟨rfl, hb4⟩
          have kB4 := kB3.call hb4
          have kX4 := kX3.call hb4
          have cB4 := kB4.cell
          have hbw4 := pb_trans hb3 hb4
          clear cX3 lX3
          have kM4 : w4.heap[wb]? = some (.map es ck) := (hbw4.block wb hv.lt).trans hes
          have hlm := fun rt => len_map (P := Tryz.prog) kM4 hesz Tryz.underlying162 rt
          have t1 : decide ((1000 : Int) ≤ (p.waits.length : Int)) = true := by simp; omega
          go_wp2
          go_ret
          exact ⟨rfl, ow, Step.of_below t ow hbw4, (PoolAt.loc B p t).below h0.out hbw4⟩
        · rw [if_neg hfull] at hap
          rw [hap]
          replace hap : Hid (_ = _) := hap
          go_enter Tryz.func67, Tryz.ntmps67
          go_wp2_with fail
          refine (hnil.out _ hBA).mono ?_
          rintro e w1 ⟨rfl, rfl⟩
          go_wp2_with fail
          refine (hright.out _).mono ?_
          rintro e w2 ⟨rfl, hb2⟩
          have kB2 := hBA.call hb2
          have kX2 : Blk w2 w.heap.size #[.int .i64 i, .int .u32 c, .string (bs d)] 34 := Blk.call (by (repeat (first | with_reducible assumption | (refine Blk.new ?_; simp; done) | refine Blk.alloc ?_ _ | refine Blk.drew ?_ | refine Blk.drewN ?_ _ | refine Blk.call ?_ (by with_reducible assumption)))) hb2
          have hbw2 : Below w.heap.size w w2 := by (repeat (first | exact Below.refl _ _ | with_reducible assumption | refine pb_alloc ?_ _ | refine pb_drew ?_ | refine pb_drewN ?_ _ | refine pb_set ?_ (by simp; try omega) _ | refine pb_trans ?_ (by with_reducible assumption)))
          clear hb2
          go_wp2_with fail
          refine wp_region_sched [(0, true), (1, true), (2, true), (3, true), (4, true), (5, true), (6, true), (7, true), (8, true), (9, true), (10, false), (11, false), (12, true)] none (fun w' => Blk w' B #[.map (some wb), .map (some db)] 165 ∧ Blk w' w.heap.size #[.int .i64 i, .int .u32 c, .string (bs d)] 34 ∧ (Instr.lookup 162 (.map (some wb)) (.agg #[.int .i64 i, .int .u32 c]) true).run Tryz.prog w' = .ok (.tuple #[.agg #[.int .i64 la, .int .u32 lb, .string lx], .bool false]) w' ∧ True) (by kernel_rfl) (by kernel_rfl) ⟨kB2.drew, kX2.drew, hlk.out _ (by (repeat (first | exact Below.refl _ _ | with_reducible assumption | refine pb_alloc ?_ _ | refine pb_drew ?_ | refine pb_drewN ?_ _ | refine pb_set ?_ (by simp; try omega) _ | refine pb_trans ?_ (by with_reducible assumption)))), trivial⟩ ?_
          (repeat (refine wpSched_quiet (v := ?_) rfl rfl (fun w' hS => ?_) (fun K hK => ?_); rotate_left; (focus ((try have e1 := hS.1.cell); (try have e2 := hS.2.1.cell); (try have e3 := hS.2.2.1.cell); (try have e4 := hS.2.2.2.1.cell); (try have f1 := hS.1); (try have f2 := hS.2.1); (try have f3 := hS.2.2.1); (try have f4 := hS.2.2.2.1); (try have f5 := hS.2.2.2.2.1); clear hS; go_simp; (try with_reducible rfl))); (go_simp; refine hK _ ?_; clear hK K)))
          refine wpSched_loud rfl (fun K hK => ?_)
          go_wp2
          refine hK.out _ _ (fun _ => ⟨kB2.drew.alloc _, kX2.drew.alloc _, hlk.out _ (by (repeat (first | exact Below.refl _ _ | with_reducible assumption | refine pb_alloc ?_ _ | refine pb_drew ?_ | refine pb_drewN ?_ _ | refine pb_set ?_ (by simp; try omega) _ | refine pb_trans ?_ (by with_reducible assumption)))), trivial⟩) ?_
          clear hK K
          refine wpSched_loud rfl (fun K hK => ?_)
          go_wp2
          refine hK.out _ _ (fun _ => ⟨kB2.drew.alloc _, kX2.drew.alloc _, hlk.out _ (by (repeat (first | exact Below.refl _ _ | with_reducible assumption | refine pb_alloc ?_ _ | refine pb_drew ?_ | refine pb_drewN ?_ _ | refine pb_set ?_ (by simp; try omega) _ | refine pb_trans ?_ (by with_reducible assumption)))), trivial⟩) ?_
          clear hK K
          (repeat (refine wpSched_quiet (v := ?_) rfl rfl (fun w' hS => ?_) (fun K hK => ?_); rotate_left; (focus ((try have e1 := hS.1.cell); (try have e2 := hS.2.1.cell); (try have e3 := hS.2.2.1.cell); (try have e4 := hS.2.2.2.1.cell); (try have f1 := hS.1); (try have f2 := hS.2.1); (try have f3 := hS.2.2.1); (try have f4 := hS.2.2.2.1); (try have f5 := hS.2.2.2.2.1); clear hS; go_simp; (try with_reducible rfl))); (go_simp; refine hK _ ?_; clear hK K)))
          refine wpSched_nil ?_
          obtain ⟨W3, hW3⟩ : ∃ W3, W3 = (w2.alloc (.cells #[.int .i64 la, .int .u32 lb, .string lx] 178)).drew := ⟨_, rfl⟩
          have hb3 : Below w.heap.size w W3 := by rw [hW3]; exact pb_drew (pb_alloc hbw2 _)
          have kB3 : Blk W3 B #[.map (some wb), .map (some db)] 165 := by rw [hW3]; exact (kB2.alloc _).drew
          have kX3 : Blk W3 w.heap.size #[.int .i64 i, .int .u32 c, .string (bs d)] 34 := by rw [hW3]; exact (kX2.alloc _).drew
          rw [← hW3]
          clear hW3 kB2 kX2 hbw2
          have cX3 := kX3.cell
          have lX3 := kX3.lt
          go_wp2_with fail
          refine (hisd.out _ ((PoolAt.loc B p t).below h0.out hb3)).mono ?_
          rintro e w4 ⟨rfl, hb4⟩
          have kB4 := kB3.call hb4
          have kX4 := kX3.call hb4
          have cB4 := kB4.cell
          have hbw4 := pb_trans hb3 hb4
          clear cX3 lX3
          have kM4 : w4.heap[wb]? = some (.map es ck) := (hbw4.block wb hv.lt).trans hes
          have hlm := fun rt => len_map (P := Tryz.prog) kM4 hesz Tryz.underlying162 rt
          have t1 : decide ((1000 : Int) ≤ (p.waits.length : Int)) = false := by simp; omega
          have hm4 : MapAt w4 wb idV (p.waits.map fun q => (q.1, msgV q.2)) := hv.kept (hbw4.block wb hv.lt)
          obtain ⟨o, hu, hm⟩ := (hm4.kept (w' := w4.drew) rfl).update idKey Tryz.underlying162 ((i, c) : MId) (msgV ((i, c), d))
          rw [put_map msgV] at hm
          unfold msgV idV at hu
          have hneB : B ≠ wb := hB.ne_map hv
          have hneX : w.heap.size ≠ wb := by have := hv.lt; omega
          have hwlt := hm4.lt
          replace hm : Hid (MapAt _ _ _ _) := hm
          go_wp2_with fail
          refine wp_region_sched [(0, true), (1, true), (2, true), (3, true), (4, true), (5, true), (6, true), (7, false), (8, false)] none (fun w' => Blk w' B #[.map (some wb), .map (some db)] 165 ∧ Blk w' w.heap.size #[.int .i64 i, .int .u32 c, .string (bs d)] 34 ∧ True) (by kernel_rfl) (by kernel_rfl) ⟨kB4.drew, kX4.drew, trivial⟩ ?_
          (repeat (refine wpSched_quiet (v := ?_) rfl rfl (fun w' hS => ?_) (fun K hK => ?_); rotate_left; (focus ((try have e1 := hS.1.cell); (try have e2 := hS.2.1.cell); (try have e3 := hS.2.2.1.cell); (try have e4 := hS.2.2.2.1.cell); (try have f1 := hS.1); (try have f2 := hS.2.1); (try have f3 := hS.2.2.1); (try have f4 := hS.2.2.2.1); (try have f5 := hS.2.2.2.2.1); clear hS; go_simp; (try with_reducible rfl))); (go_simp; refine hK _ ?_; clear hK K)))
          refine wpSched_loud rfl (fun K hK => ?_)
          go_wp2
          refine hK.out _ _ (fun _ => ⟨kB4.drew, kX4.drew, trivial⟩) ?_
          clear hK K
          refine wpSched_loud rfl (fun K hK => ?_)
          go_wp2
          refine hK.out _ _ (fun _ => ⟨kB4.drew.putObj hneB o, kX4.drew.putObj hneX o, trivial⟩) ?_
          clear hK K
          refine wpSched_nil ?_
          go_wp2
          go_ret
          refine ⟨rfl, ow, ⟨?_, fun _ _ => rfl⟩, hok.add ((i, c), d) (by omega), wb, db, kB4.drew.putObj hneB o, hm.out, ?_, hne, o1, o2, o3⟩
          · exact ((Mod.of_below (fun k => Sub t (ow k)) hbw4).thenDrew).thenPut (by rw [o2]; exact Sub.rfl' t) o
          · exact hk.kept ((World.putObj_heap_other (Ne.symm hne)).trans (hbw4.block db hk.lt))
      · rw [hd] at hisd hap
        rw [if_pos (.inr rfl)] at hap
        rw [hap]
        replace hap : Hid (_ = _) := hap
        replace hisd : Hid (∀ _, _) := hisd
        replace hd : Hid (_ = _) := hd
        go_enter Tryz.func67, Tryz.ntmps67
        go_wp2_with fail
        refine (hnil.out _ hBA).mono ?_
        rintro e w1 ⟨rfl, rfl⟩
        go_wp2_with fail
        refine (hright.out _).mono ?_
        rintro e w2 ⟨rfl, hb2⟩
        have kB2 := hBA.call hb2
        have kX2 : Blk w2 w.heap.size #[.int .i64 i, .int .u32 c, .string (bs d)] 34 := Blk.call (by (repeat (first | with_reducible assumption | (refine Blk.new ?_; simp; done) | refine Blk.alloc ?_ _ | refine Blk.drew ?_ | refine Blk.drewN ?_ _ | refine Blk.call ?_ (by with_reducible assumption)))) hb2
        have hbw2 : Below w.heap.size w w2 := by (repeat (first | exact Below.refl _ _ | with_reducible assumption | refine pb_alloc ?_ _ | refine pb_drew ?_ | refine pb_drewN ?_ _ | refine pb_set ?_ (by simp; try omega) _ | refine pb_trans ?_ (by with_reducible assumption)))
        clear hb2
        go_wp2_with fail
        refine wp_region_sched [(0, true), (1, true), (2, true), (3, true), (4, true), (5, true), (6, true), (7, true), (8, true), (9, true), (10, false), (11, false), (12, true)] none (fun w' => Blk w' B #[.map (some wb), .map (some db)] 165 ∧ Blk w' w.heap.size #[.int .i64 i, .int .u32 c, .string (bs d)] 34 ∧ (Instr.lookup 162 (.map (some wb)) (.agg #[.int .i64 i, .int .u32 c]) true).run Tryz.prog w' = .ok (.tuple #[.agg #[.int .i64 la, .int .u32 lb, .string lx], .bool false]) w' ∧ True) (by kernel_rfl) (by kernel_rfl) ⟨kB2.drew, kX2.drew, hlk.out _ (by (repeat (first | exact Below.refl _ _ | with_reducible assumption | refine pb_alloc ?_ _ | refine pb_drew ?_ | refine pb_drewN ?_ _ | refine pb_set ?_ (by simp; try omega) _ | refine pb_trans ?_ (by with_reducible assumption)))), trivial⟩ ?_
        (repeat (refine wpSched_quiet (v := ?_) rfl rfl (fun w' hS => ?_) (fun K hK => ?_); rotate_left; (focus ((try have e1 := hS.1.cell); (try have e2 := hS.2.1.cell); (try have e3 := hS.2.2.1.cell); (try have e4 := hS.2.2.2.1.cell); (try have f1 := hS.1); (try have f2 := hS.2.1); (try have f3 := hS.2.2.1); (try have f4 := hS.2.2.2.1); (try have f5 := hS.2.2.2.2.1); clear hS; go_simp; (try with_reducible rfl))); (go_simp; refine hK _ ?_; clear hK K)))
        refine wpSched_loud rfl (fun K hK => ?_)
        go_wp2
        refine hK.out _ _ (fun _ => ⟨kB2.drew.alloc _, kX2.drew.alloc _, hlk.out _ (by (repeat (first | exact Below.refl _ _ | with_reducible assumption | refine pb_alloc ?_ _ | refine pb_drew ?_ | refine pb_drewN ?_ _ | refine pb_set ?_ (by simp; try omega) _ | refine pb_trans ?_ (by with_reducible assumption)))), trivial⟩) ?_
        clear hK K
        refine wpSched_loud rfl (fun K hK => ?_)
        go_wp2
        refine hK.out _ _ (fun _ => ⟨kB2.drew.alloc _, kX2.drew.alloc _, hlk.out _ (by (repeat (first | exact Below.refl _ _ | with_reducible assumption | refine pb_alloc ?_ _ | refine pb_drew ?_ | refine pb_drewN ?_ _ | refine pb_set ?_ (by simp; try omega) _ | refine pb_trans ?_ (by with_reducible assumption)))), trivial⟩) ?_
        clear hK K
        (repeat (refine wpSched_quiet (v := ?_) rfl rfl (fun w' hS => ?_) (fun K hK => ?_); rotate_left; (focus ((try have e1 := hS.1.cell); (try have e2 := hS.2.1.cell); (try have e3 := hS.2.2.1.cell); (try have e4 := hS.2.2.2.1.cell); (try have f1 := hS.1); (try have f2 := hS.2.1); (try have f3 := hS.2.2.1); (try have f4 := hS.2.2.2.1); (try have f5 := hS.2.2.2.2.1); clear hS; go_simp; (try with_reducible rfl))); (go_simp; refine hK _ ?_; clear hK K)))
        refine wpSched_nil ?_
        obtain ⟨W3, hW3⟩ : ∃ W3, W3 = (w2.alloc (.cells #[.int .i64 la, .int .u32 lb, .string lx] 178)).drew := ⟨_, rfl⟩
        have hb3 : Below w.heap.size w W3 := by rw [hW3]; exact pb_drew (pb_alloc hbw2 _)
        have kB3 : Blk W3 B #[.map (some wb), .map (some db)] 165 := by rw [hW3]; exact (kB2.alloc _).drew
        have kX3 : Blk W3 w.heap.size #[.int .i64 i, .int .u32 c, .string (bs d)] 34 := by rw [hW3]; exact (kX2.alloc _).drew
        rw [← hW3]
        clear hW3 kB2 kX2 hbw2
        have cX3 := kX3.cell
        have lX3 := kX3.lt
        go_wp2_with fail
        refine (hisd.out _ ((PoolAt.loc B p t).below h0.out hb3)).mono ?_
        rintro e w4 ⟨rfl, hb4⟩
        have kB4 := kB3.call hb4
        have kX4 := kX3.call hb4
        have cB4 := kB4.cell
        have hbw4 := pb_trans hb3 hb4
        clear cX3 lX3
        go_wp2
        go_ret
        exact ⟨rfl, ow, Step.of_below t ow hbw4, (PoolAt.loc B p t).below h0.out hbw4⟩
    · rw [hw] at hlk hap
      rw [if_pos (.inl rfl)] at hap
      rw [hap]
      replace hap : Hid (_ = _) := hap
      replace hlk : Hid (∀ _, _) := hlk
      replace hw : Hid (_ = _) := hw
      clear hisd
      go_enter Tryz.func67, Tryz.ntmps67
      go_wp2_with fail
      refine (hnil.out _ hBA).mono ?_
      rintro e w1 ⟨rfl, rfl⟩
      go_wp2_with fail
      refine (hright.out _).mono ?_
      rintro e w2 ⟨rfl, hb2⟩
      have kB2 := hBA.call hb2
      have kX2 : Blk w2 w.heap.size #[.int .i64 i, .int .u32 c, .string (bs d)] 34 := Blk.call (by (repeat (first | with_reducible assumption | (refine Blk.new ?_; simp; done) | refine Blk.alloc ?_ _ | refine Blk.drew ?_ | refine Blk.drewN ?_ _ | refine Blk.call ?_ (by with_reducible assumption)))) hb2
      have hbw2 : Below w.heap.size w w2 := by (repeat (first | exact Below.refl _ _ | with_reducible assumption | refine pb_alloc ?_ _ | refine pb_drew ?_ | refine pb_drewN ?_ _ | refine pb_set ?_ (by simp; try omega) _ | refine pb_trans ?_ (by with_reducible assumption)))
      clear hb2
      go_wp2_with fail
      refine wp_region_sched [(0, true), (1, true), (2, true), (3, true), (4, true), (5, true), (6, true), (7, true), (8, true), (9, true), (10, false), (11, false), (12, true)] none (fun w' => Blk w' B #[.map (some wb), .map (some db)] 165 ∧ Blk w' w.heap.size #[.int .i64 i, .int .u32 c, .string (bs d)] 34 ∧ (Instr.lookup 162 (.map (some wb)) (.agg #[.int .i64 i, .int .u32 c]) true).run Tryz.prog w' = .ok (.tuple #[.agg #[.int .i64 la, .int .u32 lb, .string lx], .bool true]) w' ∧ True) (by kernel_rfl) (by kernel_rfl) ⟨kB2.drew, kX2.drew, hlk.out _ (by (repeat (first | exact Below.refl _ _ | with_reducible assumption | refine pb_alloc ?_ _ | refine pb_drew ?_ | refine pb_drewN ?_ _ | refine pb_set ?_ (by simp; try omega) _ | refine pb_trans ?_ (by with_reducible assumption)))), trivial⟩ ?_
      (repeat (refine wpSched_quiet (v := ?_) rfl rfl (fun w' hS => ?_) (fun K hK => ?_); rotate_left; (focus ((try have e1 := hS.1.cell); (try have e2 := hS.2.1.cell); (try have e3 := hS.2.2.1.cell); (try have e4 := hS.2.2.2.1.cell); (try have f1 := hS.1); (try have f2 := hS.2.1); (try have f3 := hS.2.2.1); (try have f4 := hS.2.2.2.1); (try have f5 := hS.2.2.2.2.1); clear hS; go_simp; (try with_reducible rfl))); (go_simp; refine hK _ ?_; clear hK K)))
      refine wpSched_loud rfl (fun K hK => ?_)
      go_wp2
      refine hK.out _ _ (fun _ => ⟨kB2.drew.alloc _, kX2.drew.alloc _, hlk.out _ (by (repeat (first | exact Below.refl _ _ | with_reducible assumption | refine pb_alloc ?_ _ | refine pb_drew ?_ | refine pb_drewN ?_ _ | refine pb_set ?_ (by simp; try omega) _ | refine pb_trans ?_ (by with_reducible assumption)))), trivial⟩) ?_
      clear hK K
      refine wpSched_loud rfl (fun K hK => ?_)
      go_wp2
      refine hK.out _ _ (fun _ => ⟨kB2.drew.alloc _, kX2.drew.alloc _, hlk.out _ (by (repeat (first | exact Below.refl _ _ | with_reducible assumption | refine pb_alloc ?_ _ | refine pb_drew ?_ | refine pb_drewN ?_ _ | refine pb_set ?_ (by simp; try omega) _ | refine pb_trans ?_ (by with_reducible assumption)))), trivial⟩) ?_
      clear hK K
      (repeat (refine wpSched_quiet (v := ?_) rfl rfl (fun w' hS => ?_) (fun K hK => ?_); rotate_left; (focus ((try have e1 := hS.1.cell); (try have e2 := hS.2.1.cell); (try have e3 := hS.2.2.1.cell); (try have e4 := hS.2.2.2.1.cell); (try have f1 := hS.1); (try have f2 := hS.2.1); (try have f3 := hS.2.2.1); (try have f4 := hS.2.2.2.1); (try have f5 := hS.2.2.2.2.1); clear hS; go_simp; (try with_reducible rfl))); (go_simp; refine hK _ ?_; clear hK K)))
      refine wpSched_nil ?_
      obtain ⟨W3, hW3⟩ : ∃ W3, W3 = (w2.alloc (.cells #[.int .i64 la, .int .u32 lb, .string lx] 178)).drew := ⟨_, rfl⟩
      have hb3 : Below w.heap.size w W3 := by rw [hW3]; exact pb_drew (pb_alloc hbw2 _)
      have kB3 : Blk W3 B #[.map (some wb), .map (some db)] 165 := by rw [hW3]; exact (kB2.alloc _).drew
      have kX3 : Blk W3 w.heap.size #[.int .i64 i, .int .u32 c, .string (bs d)] 34 := by rw [hW3]; exact (kX2.alloc _).drew
      rw [← hW3]
      clear hW3 kB2 kX2 hbw2
      have cX3 := kX3.cell
      have lX3 := kX3.lt
      go_wp2
      go_ret
      exact ⟨rfl, ow, Step.of_below t ow hb3, (PoolAt.loc B p t).below h0.out hb3⟩
end Go.Proofs.YtaopeioebpfdeaaGreatDoor
namespace Go.Proofs.YtaopeioebpfdeaaGreatDoor
open Go

theorem bits_xor_u32 (a b : Nat) (ha : a < 4294967296) (hb : b < 4294967296) : bits .xor .u32 (a : Int) (b : Int) = ((a ^^^ b : Nat) : Int) := by
  have hx : a ^^^ b < 2 ^ 32 := Nat.xor_lt_two_pow (by omega) (by omega)
  have h1 : (BitVec.ofInt 32 (a : Int)).toNat = a := by
    rw [BitVec.ofInt_natCast, BitVec.toNat_ofNat]; exact Nat.mod_eq_of_lt (by omega)
  have h2 : (BitVec.ofInt 32 (b : Int)).toNat = b := by
    rw [BitVec.ofInt_natCast, BitVec.toNat_ofNat]; exact Nat.mod_eq_of_lt (by omega)
  show IntKind.u32.wrap ((BitVec.ofInt 32 (a : Int) ^^^ BitVec.ofInt 32 (b : Int)).toNat : Int) = _
  rw [BitVec.toNat_xor, h1, h2, IntKind.wrap_u32]
  omega
theorem bits_or_u32 (a b : Nat) (ha : a < 4294967296) (hb : b < 4294967296) : bits .or .u32 (a : Int) (b : Int) = ((a ||| b : Nat) : Int) := by
  have hx : a ||| b < 2 ^ 32 := Nat.or_lt_two_pow (by omega) (by omega)
  have h1 : (BitVec.ofInt 32 (a : Int)).toNat = a := by
    rw [BitVec.ofInt_natCast, BitVec.toNat_ofNat]; exact Nat.mod_eq_of_lt (by omega)
  have h2 : (BitVec.ofInt 32 (b : Int)).toNat = b := by
    rw [BitVec.ofInt_natCast, BitVec.toNat_ofNat]; exact Nat.mod_eq_of_lt (by omega)
  show IntKind.u32.wrap ((BitVec.ofInt 32 (a : Int) ||| BitVec.ofInt 32 (b : Int)).toNat : Int) = _
  rw [BitVec.toNat_or, h1, h2, IntKind.wrap_u32]
  omega
theorem crcBit_lt {s : Nat} (h : s < 4294967296) : crcBit s < 4294967296 := by
  unfold crcBit
  split
  · exact Nat.xor_lt_two_pow (n := 32) (by omega) (by omega)
  · omega
theorem crcBits_lt : ∀ (n : Nat) {s : Nat}, s < 4294967296 → crcBits n s < 4294967296
  | 0, _, h => h
  | n + 1, _, h => crcBits_lt n (crcBit_lt h)
theorem crcBits_succ : ∀ (n s : Nat), crcBits (n + 1) s = crcBit (crcBits n s)
  | 0, _ => rfl
  | n + 1, s => crcBits_succ n (crcBit s)
theorem crcStep_lt {s : Nat} (h : s < 4294967296) (b : UInt8) : crcStep s b < 4294967296 := by
  unfold crcStep
  refine crcBits_lt 8 (Nat.xor_lt_two_pow (n := 32) (by omega) ?_)
  have := b.toNat_lt
  omega
theorem crcFold_lt : ∀ (l : List UInt8) {s : Nat}, s < 4294967296 → l.foldl crcStep s < 4294967296
  | [], _, h => h
  | b :: l, _, h => crcFold_lt l (crcStep_lt h b)
/-- One round of Step. -/
theorem crc_round {s : Nat} (h : s < 4294967296) : bits .xor .u32 ((s : Int) / 2) (bits .and .u32 3988292384 (IntKind.u32.wrap (-((s : Int) % 2)))) = (crcBit s : Int) := by
  have hd : ((s : Int) / 2) = ((s / 2 : Nat) : Int) := by omega
  rw [hd]
  unfold crcBit
  by_cases h1 : s % 2 = 1
  · rw [if_pos h1]
    have e : (s : Int) % 2 = 1 := by omega
    have h2 : bits .and .u32 3988292384 (IntKind.u32.wrap (-1)) = ((3988292384 : Nat) : Int) := by decide
    rw [e, h2, bits_xor_u32 _ _ (by omega) (by omega)]
  · rw [if_neg h1]
    have e : (s : Int) % 2 = 0 := by omega
    have h2 : bits .and .u32 3988292384 (IntKind.u32.wrap (-0)) = ((0 : Nat) : Int) := by decide
    rw [e, h2, bits_xor_u32 _ _ (by omega) (by omega), Nat.xor_zero]
theorem crc_round2 {s : Nat} (h : s < 4294967296) : bits .xor .u32 ((s : Int) / 2) (bits .and .u32 3988292384 (-bits .and .u32 (s : Int) 1 % 4294967296)) = (crcBit s : Int) := by
  have h1 : bits .and .u32 (s : Int) 1 = (s : Int) % 2 := by
    have := bits_and_u32_nat s 1 h (by omega)
    rw [show ((1 : Nat) : Int) = 1 from rfl] at this
    rw [this, Nat.and_one_is_mod]
    omega
  rw [h1, ← IntKind.wrap_u32]
  exact crc_round h
theorem not_u32 (s : Nat) (hs : s < 4294967296) : bits .xor .u32 IntKind.u32.max (s : Int) = ((4294967295 - s : Nat) : Int) := by
  have h0 := bits_xor_u32 4294967295 s (by omega) hs
  have h1 : IntKind.u32.max = ((4294967295 : Nat) : Int) := rfl
  rw [h1, h0]
  have h2 : BitVec.allOnes 32 ^^^ BitVec.ofNat 32 s = ~~~ (BitVec.ofNat 32 s) := BitVec.allOnes_xor
  have h3 := congrArg BitVec.toNat h2
  rw [BitVec.toNat_xor, BitVec.toNat_not, BitVec.toNat_allOnes, BitVec.toNat_ofNat, Nat.mod_eq_of_lt (by omega : s < 2 ^ 32)] at h3
  have h4 : (2 ^ 32 - 1 : Nat) = 4294967295 := by decide
  rw [h4] at h3
  rw [h3]
end Go.Proofs.YtaopeioebpfdeaaGreatDoor
