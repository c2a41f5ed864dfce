/- ROWS OF BYTES: a slice of bytes that is owned, an append of a text to it, its text. ids.join. Condition: the texts can be read, and are not too long together. -/
import Derived.Test.YtlfledeldhhllaaGreatDoorIds1
import Derived.Test.YtlfledeldhhllaaGreatDoorSched
import Derived.Lib.AppendStr
import Derived.Laws.MakeOwn
namespace Go.Proofs.YtlfledeldhhllaaGreatDoor
open Go Go.RowKit Go.Shelf Go.Extern.Stop Go.Stop Go.Extern
open Go.Lib
attribute [local go_sem] Oper.semAt_some wide_fn wide_depth

def u8s (l : List UInt8) : List Value := l.map fun b => Value.int .u8 b.toNat
theorem strCells_bs (l : List UInt8) : strCells (bs l) = u8s l := by simp [strCells, u8s, bs]
theorem u8s_append (a b : List UInt8) : u8s (a ++ b) = u8s a ++ u8s b := by simp [u8s]
theorem byteT : ElemT Tryz.prog 150 5 1 1 (.int .u8 0) := ⟨Tryz.underlying150, by kernel_rfl, rfl, by decide, by decide⟩
theorem strT : ElemT Tryz.prog 135 9 1 16 (.string ⟨#[]⟩) := ⟨Tryz.underlying135, by kernel_rfl, rfl, by decide, by decide⟩
def texts (ts : List (List UInt8)) : List Value := ts.map fun t => Value.string (bs t)
theorem texts_one (ts : List (List UInt8)) : ∀ u ∈ texts ts, u.oneCell' = true := by
  intro u hu; simp [texts] at hu; obtain ⟨t, _, rfl⟩ := hu; rfl

theorem own_src {base : Nat} {w : World} {e : TypeId} {size : Nat} {v : Value} {n : Nat} {xs : List Value} (h : w.ownsRow base e size v n xs) : Src w v size n xs := Row.src (e := e) ⟨h.1, by
  rcases h.2 with h | ⟨g', c', cu, h, hb', r⟩
  · exact .inl h
  · exact .inr ⟨g', c', cu, h, Nat.zero_le _, r⟩⟩
/-- Append of a text. -/
theorem brow_append {base : Nat} {w : World} {v : Value} {l s : List UInt8} (h : w.ownsRow base 5 1 v l.length (u8s l)) (hb : l.length + s.length ≤ 1073741824) (hB : base ≤ w.heap.size) (ty : TypeId) :
    ∃ v' w', (Builtin.append_ #[150, 9] ty #[v, .string (bs s)]).run Tryz.prog w = .ok v' w' ∧ w'.ownsRow base 5 1 v' (l ++ s).length (u8s (l ++ s)) ∧ w.grownBy w' v.ownBlock := by
  obtain ⟨i, hi, hz0, hz1, hz2⟩ := info_parts byteT.info
  obtain ⟨v', w', h1, h2, h3, -⟩ := run_append_own_string (P := Tryz.prog) w base 150 9 ty 5 i byteT.under Tryz.underlying9 hi hz0 hz1 hz2 v _ _ h (bs s) (by rw [bs_size]; unfold maxLen; omega) (by rw [bs_size]; omega) hB
  refine ⟨v', w', h1, ?_, h3⟩
  rw [strCells_bs, bs_size] at h2
  rw [List.length_append, u8s_append]
  exact h2
/-- The same at an operation of the walk. -/
theorem wpList_appendS_by {P : Program} {w : World} {ops : Array Oper} {rest : List Oper} {o : Oper} {a : Act} {Q : Exit → Act → World → Prop} (hgd : o.guard = none) (s x : Operand) (t u : TypeId)
    (ho : o.op = .call { callee := .builtin .append, args := #[s, x], argTypes := #[t, u] }) {v src : Value} (hs : a.eval s = v) (hx : a.eval x = src)
    {v' : Value} {w' : World} (hr : (Builtin.append_ #[t, u] o.type #[v, src]).run P w = .ok v' w') (h : wpList P ops Q rest (a.put o.dst v') w') : wpList P ops Q (o :: rest) a w := by
  refine wpList_plain hgd fun K hK => ?_
  unfold Oper.wp execOp
  simp only [ho, resolve, invoke, builtin, Sem.run_bind, Sem.run_pure, Result.andThen_ok, List.map_toArray, List.map_cons, List.map_nil, hs, hx, hr]
  exact hK _ _ h

theorem strOfNums_bytes (l : List UInt8) : strOfNums (l.map fun b : UInt8 => (b.toNat : Int)) = bs l := by
  unfold strOfNums bs; congr 1; simp [Function.comp_def]
theorem take_flat (ts : List (List UInt8)) (k : Nat) (x : List UInt8) (h : ts[k]? = some x) : (ts.take (k + 1)).flatten = (ts.take k).flatten ++ x := by
  rw [List.take_add_one, h]; simp
theorem take_flat_le (ts : List (List UInt8)) (k : Nat) : (ts.take k).flatten.length ≤ ts.flatten.length := by
  have := congrArg (fun l => l.flatten.length) (List.take_append_drop k ts)
  simp only [List.flatten_append, List.length_append] at this
  omega
/-- The text of bytes that can be read. -/
theorem bytes_text {w : World} {v : Value} {l : List UInt8} (h : Src w v 1 l.length (u8s l)) : (convert 150 9 v).run Tryz.prog w = .ok (.string (bs l)) w := by
  rcases h.2 with ⟨rfl, hn⟩ | ⟨b, off, cap, rfl, hc, hr⟩
  · obtain rfl : l = [] := List.eq_nil_of_length_eq_zero hn
    exact run_convert_bytes_nil (P := Tryz.prog) w 150 5 Tryz.underlying150 Tryz.underlying5 0 0 9 Tryz.underlying9
  · have := run_convert_bytes_arg (P := Tryz.prog) w 150 5 Tryz.underlying150 Tryz.underlying5 b off l.length cap (l.map fun b : UInt8 => (b.toNat : Int)) (by simp) (fun i hi => by
      refine hr i _ ?_
      simp [u8s, hi]) 9 Tryz.underlying9
    rw [this, strOfNums_bytes]

/-- How long the first texts are together. -/
def plen (ts : List (List UInt8)) (k : Nat) : Nat := (ts.take k).flatten.length
theorem plen_succ {ts : List (List UInt8)} {k : Nat} {x : List UInt8} (h : ts[k]? = some x) : plen ts (k + 1) = plen ts k + x.length := by
  unfold plen; rw [take_flat ts k x h, List.length_append]
theorem plen_le (ts : List (List UInt8)) (k : Nat) : plen ts k ≤ plen ts ts.length := by
  have := take_flat_le ts k; simpa [plen] using this
set_option maxHeartbeats 1000000 in
set_option maxRecDepth 8000 in
/-- ids.join. -/
theorem idsJoin_any (v : Value) (ts : List (List UInt8)) (w : World) (hv : Src w v 1 ts.length (texts ts)) (h0 : 0 < ts.length) (hl : ts.length ≤ 1000000) (hb : plen ts ts.length ≤ 1073741824) : Calls Tryz.prog 78 #[v] w fun e w' =>
    e = .returned (.string (bs ts.flatten)) ∧ Below w.heap.size w w' := by
  obtain ⟨i0, hi, hz0, hz1, hz2⟩ := info_parts byteT.info
  rcases hv.2 with ⟨rfl, hn⟩ | ⟨b, off, cap, rfl, hc, hr⟩
  · omega
  · clear hv h0
    go_enter Tryz.func78, Tryz.ntmps78
    go_wp2
    go_loop [3, 11] (fun p3 p11 => ∃ k : Nat, k ≤ ts.length ∧ p11 = .int .i64 k ∧ p3 = .int .i64 (plen ts k : Nat)) (fun _ p11 => ts.length - (intOf p11).toNat)
    case atStart => exact ⟨0, Nat.zero_le _, rfl, rfl⟩
    case round =>
      obtain ⟨k, hk, rfl, rfl⟩ := hrel
      by_cases hlt : k < ts.length
      · obtain ⟨x, hx⟩ : ∃ x, ts[k]? = some x := ⟨_, List.getElem?_eq_getElem hlt⟩
        have hc0 : w.cell? ⟨b, off + k, none⟩ = some (.string (bs x)) := hr k _ (by simp [texts, hx])
        have hl1 := plen_le ts k
        have hl2 := plen_le ts (k + 1)
        have hfl := plen_succ hx
        have hxs := bs_size x
        rw [hfl] at hl2
        have hlx : ((bs x).size : Int) ≤ 1073741824 := by rw [hxs]; omega
        replace hfl : Hid (_ = _) := hfl
        replace hxs : Hid (_ = _) := hxs
        replace hx : Hid (_ = _) := hx
        clear hr
        go_wp2
        go_round
        case rel => exact ⟨k + 1, by omega, by go_num, by rw [hfl.out]; have := hxs.out; go_num⟩
        case measure => simp [intOf]; omega
      · obtain rfl : k = ts.length := by omega
        replace hr : Hid (∀ _, _) := hr
        obtain ⟨w1, hmk, hown1, hgr1⟩ := run_make_own (P := Tryz.prog) w w.heap.size 150 5 i0 (.int .u8 0) 1 byteT.under hi hz0 hz1 .i64 .i64 (plen ts ts.length) (by rw [hz2]; omega) (by unfold maxLen; omega) (Nat.le_refl _)
        have hb1 : Below w.heap.size w w1 := (Below.refl _ _).grown hgr1 (Nat.le_refl _) (fun _ h => by cases h)
        clear hgr1 hi hz0 hz1 hz2
        go_wp2
        clear hmk
        go_loopw [6, 24] (fun p6 p24 wr => ∃ k : Nat, k ≤ ts.length ∧ p24 = .int .i64 k ∧ wr.ownsRow w.heap.size 5 1 p6 (ts.take k).flatten.length (u8s (ts.take k).flatten) ∧ Below w.heap.size w wr) (fun _ p24 _ => ts.length - (intOf p24).toNat)
        case atStart => exact ⟨0, Nat.zero_le _, rfl, hown1, hb1⟩
        case round =>
          obtain ⟨k, hk, rfl, hown, hbw⟩ := hrel
          clear hown1 hb1
          by_cases hlt : k < ts.length
          · obtain ⟨x, hx⟩ : ∃ x, ts[k]? = some x := ⟨_, List.getElem?_eq_getElem hlt⟩
            have hc0 : wr.cell? ⟨b, off + k, none⟩ = some (.string (bs x)) := (hbw.cell (cell_lt (hr.out k (.string (bs x)) (by simp [texts, hx])))).trans (hr.out k _ (by simp [texts, hx]))
            have hfl := take_flat ts k x hx
            have hle : (ts.take k).flatten.length + x.length ≤ 1073741824 := by
              have h1 := plen_le ts (k + 1)
              rw [plen_succ hx] at h1
              have h2 : plen ts k = (ts.take k).flatten.length := rfl
              omega
            replace hfl : Hid (_ = _) := hfl
            replace hle : Hid (_ ≤ _) := hle
            replace hx : Hid (_ = _) := hx
            generalize hacc : (ts.take k).flatten = acc at *
            replace hacc : Hid (_ = _) := hacc
            go_wp2_with (at_builtin
                         obtain ⟨v', w2, hrun, hrow, hgr⟩ := brow_append hown hle.out hbw.size 150
                         refine wpList_appendS_by rfl _ _ _ _ rfl rfl rfl hrun ?_
                         have hbw2 := hbw.grown hgr hbw.size (fun g hg => by
                           rcases hown.2 with ⟨h, _⟩ | ⟨g', c', cu, h, hb', _⟩
                           · rw [h] at hg; cases hg
                           · rw [h] at hg; cases hg; exact hb')
                         clear hrun hgr)
            go_roundw
            case rel => exact ⟨k + 1, by omega, by go_num, by rw [hfl.out]; exact hrow, hbw2⟩
            case measure => simp [intOf]; omega
          · obtain rfl : k = ts.length := by omega
            rw [List.take_length] at hown
            have hcv := bytes_text (own_src hown)
            clear hown hc hr
            go_wp2
            go_ret
            exact ⟨rfl, hbw⟩
end Go.Proofs.YtlfledeldhhllaaGreatDoor
