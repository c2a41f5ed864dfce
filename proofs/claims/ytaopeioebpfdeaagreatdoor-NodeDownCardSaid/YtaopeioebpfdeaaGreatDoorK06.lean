/- PROVED HERE: slices.Values at rostrum/api.Msg: its contract, and its iterator. Condition: the slice can be read. A RANGE OVER A FUNCTION WHOSE VARIABLE LIES IN A BOX OF ITS OWN EACH ROUND, OR IN A SLOT: the law of XLib with the frame told by what changes in it. No condition. ROWS OF BYTES: a slice of bytes that is owned, an append of a text to it, its text. ids.join. Condition: the texts can be read, and are not too long together. WALKS of ids: wait, Log, row, Take. Condition: the book is one that calls have made ('BookAt'). -/
import Derived.Lib.AppendStr
import Derived.Laws.MakeOwn
import Derived.Test.YtaopeioebpfdeaaGreatDoorK05
namespace Go.Proofs.YtaopeioebpfdeaaGreatDoor
open Go Go.RowKit Go.Shelf Go.Extern.Stop Go.Stop Go.Extern
attribute [local go_sem] Oper.semAt_some wide_fn wide_depth

theorem valMsg_any (v : Value) (hv : ∃ a n c, v = .slice a n c) (w : World) : Calls Tryz.prog 61 #[v] w fun e w' =>
    e = .returned (.func (.func 93) #[] #[.pointer (some ⟨w.heap.size, 0, none⟩)]) ∧ w' = w.alloc (.cells #[v] 42) := by
  obtain ⟨a, n, c, rfl⟩ := hv
  go_enter Tryz.func61, Tryz.ntmps61
  go_wp2
  go_ret
  exact ⟨rfl, rfl⟩

theorem flatMsg_at (l : List MsgD) (k : Nat) (x : MsgD) (h : l[k]? = some x) (j : Nat) (hj : j < 3) : (l.flatMap msgCells)[k * 3 + j]? = (msgCells x)[j]? := by
  induction l generalizing k with
  | nil => simp at h
  | cons y l ih =>
    cases k with
    | zero =>
      simp at h; subst h
      rw [List.flatMap_cons, Nat.zero_mul, Nat.zero_add, List.getElem?_append_left (by simp [msgCells]; omega)]
    | succ k =>
      simp at h
      have := ih k h
      rw [List.flatMap_cons, List.getElem?_append_right (by simp [msgCells]; omega)]
      rw [← this]
      congr 1
      simp [msgCells]; omega

set_option maxHeartbeats 1000000 in
theorem valMsg_iter (cb : Nat) (v : Value) (l : List MsgD) (hlen : l.length ≤ 1073741824) :
    Iter Fence.wide 2 Tryz.prog 93 #[.pointer (some ⟨cb, 0, none⟩)] (fun x : MsgD => #[msgV x])
      (fun (k : Nat) x => l[k]? = some x) (fun k _ => k + 1) (fun k => k = l.length)
      (fun _ W => Blk W cb #[v] 42 ∧ Src W v 3 l.length (l.flatMap msgCells)) 0 := by
  intro lp J Jx W hJ hJx hRd hY h0
  obtain ⟨r0, r1⟩ := hRd _ _ _ h0
  have e0 := r0.cell
  have hF : Fence.wide.fn 93 := trivial
  have hro : Fence.wide.round = none := rfl
  rcases r1.2 with ⟨rfl, hn⟩ | ⟨b, off, cap, rfl, hc, -⟩
  · obtain rfl : l = [] := List.eq_nil_of_length_eq_zero hn
    clear r0 r1
    refine callsIn_of_wp Tryz.func93 rfl hF ?_ hro
    simp only [Tryz.ntmps93, List.size_toArray, List.length_cons, List.length_nil, Nat.reduceAdd, Nat.reduceSub, Array.replicate_succ, Array.replicate_zero, List.push_toArray, List.append_toArray, List.nil_append, List.cons_append]
    gi_wp2
    gi_loopw [7] (fun p wr => p = .int .i64 0 ∧ wr = W) (fun p _ => 0)
    case atStart => exact ⟨rfl, rfl⟩
    case round =>
      obtain ⟨rfl, rfl⟩ := hrel
      gi_wp2
      go_end0
      exact ⟨⟨_, rfl⟩, .inl ⟨0, _, rfl, h0⟩⟩
  · clear r0 r1
    refine callsIn_of_wp Tryz.func93 rfl hF ?_ hro
    simp only [Tryz.ntmps93, List.size_toArray, List.length_cons, List.length_nil, Nat.reduceAdd, Nat.reduceSub, Array.replicate_succ, Array.replicate_zero, List.push_toArray, List.append_toArray, List.nil_append, List.cons_append]
    gi_wp2
    gi_loopw [7] (fun p wr => ∃ (k : Nat) (X : Nat → Prop), p = .int .i64 (k : Int) ∧ k ≤ l.length ∧ J k X wr) (fun p _ => l.length - (intOf p).toNat)
    case atStart => exact ⟨0, _, rfl, Nat.zero_le _, h0⟩
    case round =>
      obtain ⟨k, X, rfl, hk, hJs⟩ := hrel
      clear e0
      by_cases hlt : k < l.length
      · obtain ⟨x, hx⟩ : ∃ x, l[k]? = some x := ⟨_, List.getElem?_eq_getElem hlt⟩
        obtain ⟨-, r1⟩ := hRd _ _ _ hJs
        rcases r1.2 with ⟨h, -⟩ | ⟨b', off', cap', h, -, hr⟩
        · cases h
        · cases h
          have hcell : ∀ j, j < 3 → wr.cell? ⟨b, off + (k * 3 + j), none⟩ = (msgCells x)[j]? := fun j hj => by
            have h1 := flatMsg_at l k x hx j hj
            cases hu : (msgCells x)[j]? with
            | none => simp [msgCells] at hu; omega
            | some u => exact hr _ u (h1.trans hu)
          have c0 : wr.cell? ⟨b, off + k * 3, none⟩ = (msgCells x)[0]? := hcell 0 (by omega)
          have c1 : wr.cell? ⟨b, off + k * 3 + 1, none⟩ = (msgCells x)[1]? := hcell 1 (by omega)
          have c2 : wr.cell? ⟨b, off + k * 3 + 2, none⟩ = (msgCells x)[2]? := hcell 2 (by omega)
          have hY' := hY k x _ _ (hJ.alloc (.cells (msgCells x).toArray 34) hJs) hx
          obtain ⟨⟨i, c⟩, d⟩ := x
          simp only [msgCells] at c0 c1 c2 hY'
          simp only [List.getElem?_cons_zero, List.getElem?_cons_succ] at c0 c1 c2
          clear hcell hr r1
          obtain ⟨fn, tmps, assign, body, hy, hR⟩ := hY'
          unfold msgV at hy
          gi_wp2
          refine hR.mono ?_
          rintro e W' (⟨rfl, hJ', -⟩ | ⟨rfl, hx'⟩)
          · clear c0 c1 c2 hR hy
            gi_wp2
            go_roundw
            case rel => exact ⟨k + 1, _, by go_num, by omega, hJ'⟩
            case measure => simp [intOf]; omega
          · gi_wp2
            refine bodyPost_ret (results_none rfl _ _ _) rfl ?_
            exact ⟨⟨_, rfl⟩, .inr ⟨_, hx'⟩⟩
      · obtain rfl : k = l.length := by omega
        gi_wp2
        go_end0
        exact ⟨⟨_, rfl⟩, .inl ⟨l.length, X, rfl, hJs⟩⟩
end Go.Proofs.YtaopeioebpfdeaaGreatDoor
namespace Go.Proofs.YtaopeioebpfdeaaGreatDoor
open Go Go.RowKit
variable {P : Program}

/-- The frame with the iterator's values laid in. -/
def laidIn (ps : Array Tmp) (vs : Array Value) (t : Array Value) : Array Value := (ps.zip vs).foldl (fun t (p, v) => t.setIfInBounds p v) t
theorem laidIn_one (p : Tmp) (v : Value) (t : Array Value) : laidIn #[p] #[v] t = t.setIfInBounds p v := by simp [laidIn]
theorem laidIn_two (p q : Tmp) (u v : Value) (t : Array Value) : laidIn #[p, q] #[u, v] t = (t.setIfInBounds p u).setIfInBounds q v := by simp [laidIn]
/-- THE VARIABLE IN A BOX. -/
theorem wp_rangeBox {α σ : Type} {g : Operand} {ps : Array Tmp} {assign body : Code} {Q : Exit → Act → World → Prop} {a : Act} {w : World}
    {gf : Nat} {lb : Array Value} (hg : a.eval g = .func (.func gf) #[] lb) (eg : ∀ args w, (callFunc gf args).run P w = .ok (.enter gf args) w)
    {encs : α → Array Value} {nx : σ → α → Prop} {st : σ → α → σ} {fin : σ → Prop} {Rd : σ → World → Prop} {s0 : σ} (hit : Iter Fence.wide 2 P gf lb encs nx st fin Rd s0) (hps : ∀ x, (encs x).size = ps.size)
    (I : σ → (Nat → Prop) → World → Prop) (Ix : Code → (Nat → Prop) → World → Prop) (hI : Stab I) (hIx : ∀ c, Stab fun (_ : Unit) => Ix c) (hRd : ∀ s X W, I s X W → Rd s W)
    (hX : ∀ s X W, I s X W → w.heap.size ≤ W.heap.size ∧ ∀ k, X k → k < W.heap.size) (h0 : I s0 (fun _ => False) w)
    (d : Tmp) (T : TypeId) (cells : α → Array Value)
    (hassign : ∀ (l : Nat) (x : α) (W : World) (K : Act → World → Prop), K { tmps := (laidIn ps (encs x) a.tmps).setIfInBounds d (.pointer (some ⟨W.heap.size, 0, none⟩)), defers := [] } (W.alloc (.cells (cells x) T)) →
      assign.wpIn (Fence.wide.inRound l) 1 P (Exit.then K (fun _ _ _ => False)) { tmps := laidIn ps (encs x) a.tmps, defers := [] } W)
    (hbody : ∀ (l : Nat) (s : σ) (x : α) (cb : Nat) (X X1 : Nat → Prop) (W1 W : World), I s X1 W1 → I s X W → nx s x → W1.heap.size ≤ cb → w.heap.size ≤ cb → ¬ X cb → Blk W cb (cells x) T → X l → (∃ r, W.heap[l]? = some (.loop r)) →
      body.wpIn (Fence.wide.inRound l) 1 P (rpost I Ix (st s x) X W) { tmps := (laidIn ps (encs x) a.tmps).setIfInBounds d (.pointer (some ⟨cb, 0, none⟩)), defers := [] } W)
    (hdone : ∀ (D : Nat) (s : σ) (X : Nat → Prop) (W : World), w.heap.size ≤ D → X D → fin s → I s X W → W.heap[D]? = some (.deferred (some [])) → Q .normal { a with defers := { target := .collected D, args := #[] } :: a.defers } W)
    (hstop : ∀ (D : Nat) (c : Code) (X : Nat → Prop) (W : World), w.heap.size ≤ D → X D → Ix c X W → W.heap[D]? = some (.deferred (some [])) → c.wp P Q { a with defers := { target := .collected D, args := #[] } :: a.defers } W) :
    (Code.rangeFunc g ps assign body).wp P Q a w := by
  refine wp_rangeA hg eg hit hps I Ix hI hIx hRd h0
    (fun s x a' X W => ∃ cb X1 W1, a' = { tmps := (laidIn ps (encs x) a.tmps).setIfInBounds d (.pointer (some ⟨cb, 0, none⟩)), defers := [] } ∧ I s X1 W1 ∧ I s X W ∧ nx s x ∧ W1.heap.size ≤ cb ∧ w.heap.size ≤ cb ∧ ¬ X cb ∧ Blk W cb (cells x) T)
    ?ax ?assign ?body hdone hstop
  case ax =>
    rintro s x a' u X X' W W' ⟨cb, X1, W1, ha, h1, h2, h3, h4, h5, h6, h7⟩ hm hx
    exact ⟨cb, X1, W1, ha, h1, hI _ _ _ _ _ h2 hm hx, h3, h4, h5, fun h => (hx cb h).elim h6 (fun h' => by have := h7.lt; omega), h7.mod hm h6⟩
  case assign =>
    intro l s x X W K h hn hK
    have hw := hX _ _ _ h
    have hnx : ¬ X W.heap.size := fun e => by have := hw.2 _ e; omega
    refine hassign l x W K (hK _ _ ⟨W.heap.size, X, W, rfl, h, ?_, hn, Nat.le_refl _, hw.1, hnx, Blk.new rfl⟩ (Saves.of_mod (Mod.alloc (fun _ => False) _ _) (fun _ _ _ h => h)))
    exact hI _ _ _ _ _ h (Mod.alloc _ _ _) (fun k hk => .inl hk)
  case body =>
    rintro l s x a' X W ⟨cb, X1, W1, rfl, h1, h2, h3, h4, h5, h6, h7⟩ hXl hr
    exact hbody l s x cb X X1 W1 W h1 h2 h3 h4 h5 h6 h7 hXl hr

/-- THE VARIABLE IN A SLOT (or none). -/
theorem wp_rangeVar {α σ : Type} {g : Operand} {ps : Array Tmp} {assign body : Code} {Q : Exit → Act → World → Prop} {a : Act} {w : World}
    {gf : Nat} {lb : Array Value} (hg : a.eval g = .func (.func gf) #[] lb) (eg : ∀ args w, (callFunc gf args).run P w = .ok (.enter gf args) w)
    {encs : α → Array Value} {nx : σ → α → Prop} {st : σ → α → σ} {fin : σ → Prop} {Rd : σ → World → Prop} {s0 : σ} (hit : Iter Fence.wide 2 P gf lb encs nx st fin Rd s0) (hps : ∀ x, (encs x).size = ps.size)
    (I : σ → (Nat → Prop) → World → Prop) (Ix : Code → (Nat → Prop) → World → Prop) (hI : Stab I) (hIx : ∀ c, Stab fun (_ : Unit) => Ix c) (hRd : ∀ s X W, I s X W → Rd s W) (h0 : I s0 (fun _ => False) w)
    (sets : α → List (Tmp × Value))
    (hassign : ∀ (l : Nat) (x : α) (W : World) (K : Act → World → Prop), K { tmps := (sets x).foldl (fun t p => t.setIfInBounds p.1 p.2) (laidIn ps (encs x) a.tmps), defers := [] } W →
      assign.wpIn (Fence.wide.inRound l) 1 P (Exit.then K (fun _ _ _ => False)) { tmps := laidIn ps (encs x) a.tmps, defers := [] } W)
    (hbody : ∀ (l : Nat) (s : σ) (x : α) (X : Nat → Prop) (W : World), I s X W → nx s x → X l → (∃ r, W.heap[l]? = some (.loop r)) →
      body.wpIn (Fence.wide.inRound l) 1 P (rpost I Ix (st s x) X W) { tmps := (sets x).foldl (fun t p => t.setIfInBounds p.1 p.2) (laidIn ps (encs x) a.tmps), defers := [] } W)
    (hdone : ∀ (D : Nat) (s : σ) (X : Nat → Prop) (W : World), w.heap.size ≤ D → X D → fin s → I s X W → W.heap[D]? = some (.deferred (some [])) → Q .normal { a with defers := { target := .collected D, args := #[] } :: a.defers } W)
    (hstop : ∀ (D : Nat) (c : Code) (X : Nat → Prop) (W : World), w.heap.size ≤ D → X D → Ix c X W → W.heap[D]? = some (.deferred (some [])) → c.wp P Q { a with defers := { target := .collected D, args := #[] } :: a.defers } W) :
    (Code.rangeFunc g ps assign body).wp P Q a w :=
  wp_range hg eg hit hps I Ix hI hIx hRd h0 (fun x => { tmps := (sets x).foldl (fun t p => t.setIfInBounds p.1 p.2) (laidIn ps (encs x) a.tmps), defers := [] })
    (fun l x W K hK => hassign l x W K hK) (fun l s x X W h hn hl hr => hbody l s x X W h hn hl hr) hdone hstop
end Go.Proofs.YtaopeioebpfdeaaGreatDoor
namespace Go.Proofs.YtaopeioebpfdeaaGreatDoor
open Go Go.RowKit Go.Shelf Go.Extern.Stop Go.Stop Go.Extern
open Go.Lib
attribute [local go_sem] Oper.semAt_some wide_fn wide_depth

def u8s (l : List UInt8) : List Value := l.map fun b => Value.int .u8 b.toNat
theorem strCells_bs (l : List UInt8) : strCells (bs l) = u8s l := by simp [strCells, u8s, bs]
theorem u8s_append (a b : List UInt8) : u8s (a ++ b) = u8s a ++ u8s b := by simp [u8s]
theorem byteT : ElemT Tryz.prog 87 5 1 1 (.int .u8 0) := ⟨Tryz.underlying87, by kernel_rfl, rfl, by decide, by decide⟩
theorem strT : ElemT Tryz.prog 97 9 1 16 (.string ⟨#[]⟩) := ⟨Tryz.underlying97, by kernel_rfl, rfl, by decide, by decide⟩
def texts (ts : List (List UInt8)) : List Value := ts.map fun t => Value.string (bs t)
theorem texts_one (ts : List (List UInt8)) : ∀ u ∈ texts ts, u.oneCell' = true := by
  intro u hu; simp [texts] at hu; obtain ⟨t, _, rfl⟩ := hu; rfl

theorem own_src {base : Nat} {w : World} {e : TypeId} {size : Nat} {v : Value} {n : Nat} {xs : List Value} (h : w.ownsRow base e size v n xs) : Src w v size n xs := Row.src (e := e) ⟨h.1, by
  rcases h.2 with h | ⟨g', c', cu, h, hb', r⟩
  · exact .inl h
  · exact .inr ⟨g', c', cu, h, Nat.zero_le _, r⟩⟩
/-- Append of a text. -/
theorem brow_append {base : Nat} {w : World} {v : Value} {l s : List UInt8} (h : w.ownsRow base 5 1 v l.length (u8s l)) (hb : l.length + s.length ≤ 1073741824) (hB : base ≤ w.heap.size) (ty : TypeId) :
    ∃ v' w', (Builtin.append_ #[87, 9] ty #[v, .string (bs s)]).run Tryz.prog w = .ok v' w' ∧ w'.ownsRow base 5 1 v' (l ++ s).length (u8s (l ++ s)) ∧ w.grownBy w' v.ownBlock := by
  obtain ⟨i, hi, hz0, hz1, hz2⟩ := info_parts byteT.info
  obtain ⟨v', w', h1, h2, h3, -⟩ := run_append_own_string (P := Tryz.prog) w base 87 9 ty 5 i byteT.under Tryz.underlying9 hi hz0 hz1 hz2 v _ _ h (bs s) (by rw [bs_size]; unfold maxLen; omega) (by rw [bs_size]; omega) hB
  refine ⟨v', w', h1, ?_, h3⟩
  rw [strCells_bs, bs_size] at h2
  rw [List.length_append, u8s_append]
  exact h2
/-- The same at an operation of the walk. -/
theorem wpList_appendS_by {P : Program} {w : World} {ops : Array Oper} {rest : List Oper} {o : Oper} {a : Act} {Q : Exit → Act → World → Prop} (hgd : o.guard = none) (s x : Operand) (t u : TypeId)
    (ho : o.op = .call { callee := .builtin .append, args := #[s, x], argTypes := #[t, u] }) {v src : Value} (hs : a.eval s = v) (hx : a.eval x = src)
    {v' : Value} {w' : World} (hr : (Builtin.append_ #[t, u] o.type #[v, src]).run P w = .ok v' w') (h : wpList P ops Q rest (a.put o.dst v') w') : wpList P ops Q (o :: rest) a w := by
  refine wpList_plain hgd fun K hK => ?_
  unfold Oper.wp execOp
  simp only [ho, resolve, invoke, builtin, Sem.run_bind, Sem.run_pure, Result.andThen_ok, List.map_toArray, List.map_cons, List.map_nil, hs, hx, hr]
  exact hK _ _ h

theorem strOfNums_bytes (l : List UInt8) : strOfNums (l.map fun b : UInt8 => (b.toNat : Int)) = bs l := by
  unfold strOfNums bs; congr 1; simp [Function.comp_def]
theorem take_flat (ts : List (List UInt8)) (k : Nat) (x : List UInt8) (h : ts[k]? = some x) : (ts.take (k + 1)).flatten = (ts.take k).flatten ++ x := by
  rw [List.take_add_one, h]; simp
theorem take_flat_le (ts : List (List UInt8)) (k : Nat) : (ts.take k).flatten.length ≤ ts.flatten.length := by
  have := congrArg (fun l => l.flatten.length) (List.take_append_drop k ts)
  simp only [List.flatten_append, List.length_append] at this
  omega
/-- The text of bytes that can be read. -/
theorem bytes_text {w : World} {v : Value} {l : List UInt8} (h : Src w v 1 l.length (u8s l)) : (convert 87 9 v).run Tryz.prog w = .ok (.string (bs l)) w := by
  rcases h.2 with ⟨rfl, hn⟩ | ⟨b, off, cap, rfl, hc, hr⟩
  · obtain rfl : l = [] := List.eq_nil_of_length_eq_zero hn
    exact run_convert_bytes_nil (P := Tryz.prog) w 87 5 Tryz.underlying87 Tryz.underlying5 0 0 9 Tryz.underlying9
  · have := run_convert_bytes_arg (P := Tryz.prog) w 87 5 Tryz.underlying87 Tryz.underlying5 b off l.length cap (l.map fun b : UInt8 => (b.toNat : Int)) (by simp) (fun i hi => by
      refine hr i _ ?_
      simp [u8s, hi]) 9 Tryz.underlying9
    rw [this, strOfNums_bytes]

/-- How long the first texts are together. -/
def plen (ts : List (List UInt8)) (k : Nat) : Nat := (ts.take k).flatten.length
theorem plen_succ {ts : List (List UInt8)} {k : Nat} {x : List UInt8} (h : ts[k]? = some x) : plen ts (k + 1) = plen ts k + x.length := by
  unfold plen; rw [take_flat ts k x h, List.length_append]
theorem plen_le (ts : List (List UInt8)) (k : Nat) : plen ts k ≤ plen ts ts.length := by
  have := take_flat_le ts k; simpa [plen] using this
set_option maxHeartbeats 1000000 in
set_option maxRecDepth 8000 in
/-- ids.join. -/
theorem idsJoin_any (v : Value) (ts : List (List UInt8)) (w : World) (hv : Src w v 1 ts.length (texts ts)) (h0 : 0 < ts.length) (hl : ts.length ≤ 1000000) (hb : plen ts ts.length ≤ 1073741824) : Calls Tryz.prog 63 #[v] w fun e w' =>
    e = .returned (.string (bs ts.flatten)) ∧ Below w.heap.size w w' := by
  obtain ⟨i0, hi, hz0, hz1, hz2⟩ := info_parts byteT.info
  rcases hv.2 with ⟨rfl, hn⟩ | ⟨b, off, cap, rfl, hc, hr⟩
  · omega
  · clear hv h0
    go_enter Tryz.func63, Tryz.ntmps63
    go_wp2
    go_loop [3, 11] (fun p3 p11 => ∃ k : Nat, k ≤ ts.length ∧ p11 = .int .i64 k ∧ p3 = .int .i64 (plen ts k : Nat)) (fun _ p11 => ts.length - (Lib.intOf p11).toNat)
    case atStart => exact ⟨0, Nat.zero_le _, rfl, rfl⟩
    case round =>
      obtain ⟨k, hk, rfl, rfl⟩ := hrel
      by_cases hlt : k < ts.length
      · obtain ⟨x, hx⟩ : ∃ x, ts[k]? = some x := ⟨_, List.getElem?_eq_getElem hlt⟩
        have hc0 : w.cell? ⟨b, off + k, none⟩ = some (.string (bs x)) := hr k _ (by simp [texts, hx])
        have hl1 := plen_le ts k
        have hl2 := plen_le ts (k + 1)
        have hfl := plen_succ hx
        have hxs := bs_size x
        rw [hfl] at hl2
        have hlx : ((bs x).size : Int) ≤ 1073741824 := by rw [hxs]; omega
        replace hfl : Hid (_ = _) := hfl
        replace hxs : Hid (_ = _) := hxs
        replace hx : Hid (_ = _) := hx
        clear hr
        go_wp2
        go_round
        case rel => exact ⟨k + 1, by omega, by go_num, by rw [hfl.out]; have := hxs.out; go_num⟩
        case measure => simp [Lib.intOf]; omega
      · obtain rfl : k = ts.length := by omega
        replace hr : Hid (∀ _, _) := hr
        obtain ⟨w1, hmk, hown1, hgr1⟩ := run_make_own (P := Tryz.prog) w w.heap.size 87 5 i0 (.int .u8 0) 1 byteT.under hi hz0 hz1 .i64 .i64 (plen ts ts.length) (by rw [hz2]; omega) (by unfold maxLen; omega) (Nat.le_refl _)
        have hb1 : Below w.heap.size w w1 := (Below.refl _ _).grown hgr1 (Nat.le_refl _) (fun _ h => by cases h)
        clear hgr1 hi hz0 hz1 hz2
        go_wp2
        clear hmk
        go_loopw [6, 24] (fun p6 p24 wr => ∃ k : Nat, k ≤ ts.length ∧ p24 = .int .i64 k ∧ wr.ownsRow w.heap.size 5 1 p6 (ts.take k).flatten.length (u8s (ts.take k).flatten) ∧ Below w.heap.size w wr) (fun _ p24 _ => ts.length - (Lib.intOf p24).toNat)
        case atStart => exact ⟨0, Nat.zero_le _, rfl, hown1, hb1⟩
        case round =>
          obtain ⟨k, hk, rfl, hown, hbw⟩ := hrel
          clear hown1 hb1
          by_cases hlt : k < ts.length
          · obtain ⟨x, hx⟩ : ∃ x, ts[k]? = some x := ⟨_, List.getElem?_eq_getElem hlt⟩
            have hc0 : wr.cell? ⟨b, off + k, none⟩ = some (.string (bs x)) := (hbw.cell (cell_lt (hr.out k (.string (bs x)) (by simp [texts, hx])))).trans (hr.out k _ (by simp [texts, hx]))
            have hfl := take_flat ts k x hx
            have hle : (ts.take k).flatten.length + x.length ≤ 1073741824 := by
              have h1 := plen_le ts (k + 1)
              rw [plen_succ hx] at h1
              have h2 : plen ts k = (ts.take k).flatten.length := rfl
              omega
            replace hfl : Hid (_ = _) := hfl
            replace hle : Hid (_ ≤ _) := hle
            replace hx : Hid (_ = _) := hx
            generalize hacc : (ts.take k).flatten = acc at *
            replace hacc : Hid (_ = _) := hacc
            go_wp2_with (at_builtin
                         obtain ⟨v', w2, hrun, hrow, hgr⟩ := brow_append hown hle.out hbw.size 87
                         refine wpList_appendS_by rfl _ _ _ _ rfl rfl rfl hrun ?_
                         have hbw2 := hbw.grown hgr hbw.size (fun g hg => by
                           rcases hown.2 with ⟨h, _⟩ | ⟨g', c', cu, h, hb', _⟩
                           · rw [h] at hg; cases hg
                           · rw [h] at hg; cases hg; exact hb')
                         clear hrun hgr)
            go_roundw
            case rel => exact ⟨k + 1, by omega, by go_num, by rw [hfl.out]; exact hrow, hbw2⟩
            case measure => simp [Lib.intOf]; omega
          · obtain rfl : k = ts.length := by omega
            rw [List.take_length] at hown
            have hcv := bytes_text (own_src hown)
            clear hown hc hr
            go_wp2
            go_ret
            exact ⟨rfl, hbw⟩
end Go.Proofs.YtaopeioebpfdeaaGreatDoor
namespace Go.Proofs.YtaopeioebpfdeaaGreatDoor
open Go Go.RowKit Go.Shelf Go.Extern.Stop Go.Stop Go.Extern
attribute [local go_sem] Oper.semAt_some wide_fn wide_depth

theorem BookOk.wait {b : BookS} (h : BookOk b) {m : MsgD} (hm : rightM m = true) : BookOk { b with ws := put m.1 m b.ws } := by
  refine ⟨h.sixteen, h.most, ?_⟩
  intro p hp
  have hk := h.keys
  generalize b.ws = l at hp hk
  have hp' : p ∈ put m.1 m l := hp
  clear hp
  induction l with
  | nil => simp [put] at hp'; subst hp'; exact ⟨rfl, hm⟩
  | cons q l ih =>
    obtain ⟨k, v⟩ := q
    unfold put at hp'
    split at hp'
    · rcases List.mem_cons.1 hp' with rfl | h1
      · exact ⟨rfl, hm⟩
      · exact hk p (List.mem_cons_of_mem _ h1)
    · rcases List.mem_cons.1 hp' with rfl | h1
      · exact hk _ (List.mem_cons_self ..)
      · exact ih (fun q hq => hk q (List.mem_cons_of_mem _ hq)) h1

theorem map_nil_no (mb : Nat) (w : World) : (binOp .eql 238 (.map (some mb)) (.map none)).run Tryz.prog w = .ok (.bool false) w := by kernel_rfl

set_option maxRecDepth 8000 in
theorem wait_any (B : Nat) (b : BookS) (t : List Nat) (ow : Own) (m : MsgD) (hm : rightM m = true) (w : World) (hb : BookAt B b t ow w) : Calls Tryz.prog 214 #[.pointer (some ⟨B, 0, none⟩), msgV m] w fun e w' =>
    e = .returned (.tuple #[]) ∧ ∃ ow', Step t ow w ow' w' ∧ BookAt B (if hasP b m.1 then b else { b with ws := put m.1 m b.ws }) t ow' w' := by
  obtain ⟨⟨i, c⟩, d⟩ := m
  have hb0 := hb
  obtain ⟨hok, lv, mb, hB, hR, hM, o1, o2, o3⟩ := hb
  have hnil := map_nil_no mb
  cases hh : hasP b (i, c)
  · unfold msgV
    go_enter Tryz.func214, Tryz.ntmps214
    go_wp2_with (first
      | (go_at_call 217; refine (has_any B b t ow _ _ _ ((BookAt.loc B b t).below hb0 (by (repeat (first | exact Below.refl _ _ | with_reducible assumption | refine pb_alloc ?_ _ | refine pb_drew ?_ | refine pb_drewN ?_ _ | refine pb_set ?_ (by simp; try omega) _ | refine pb_trans ?_ (by with_reducible assumption)))))).mono ?_; rintro e w1 ⟨rfl, hb1⟩
         have k0 : Blk w1 w.heap.size #[.int .i64 i, .int .u32 c, .string (bs d)] 34 := Blk.call (by (repeat (first | with_reducible assumption | (refine Blk.new ?_; simp; done) | refine Blk.alloc ?_ _ | refine Blk.drew ?_ | refine Blk.drewN ?_ _ | refine Blk.call ?_ (by with_reducible assumption)))) hb1
         have hBw : Below w.heap.size w w1 := by (repeat (first | exact Below.refl _ _ | with_reducible assumption | refine pb_alloc ?_ _ | refine pb_drew ?_ | refine pb_drewN ?_ _ | refine pb_set ?_ (by simp; try omega) _ | refine pb_trans ?_ (by with_reducible assumption)))
         have c0 := k0.cell
         have cB : w1.cell? ⟨B, 17, none⟩ = some (.map (some mb)) := ((hB.call hBw).cell 17).trans (bookCells_map b.tk lv mb hok.sixteen)
         have hM1 : MapAt w1.drew mb idV (b.ws.map fun p => (p.1, msgV p.2)) := hM.kept (hBw.block mb hM.lt)
         obtain ⟨o, hup, hM2⟩ := hM1.update idKey Tryz.underlying238 (i, c) (.agg #[.int .i64 i, .int .u32 c, .string (bs d)])
         unfold idV at hup))


    go_region
    go_wp2
    go_end0
    refine ⟨rfl, ow, (Step.of_below t ow (pb_drew hBw)).trans (Step.putObj _ mb o (by rw [o2]; exact Sub.rfl' t)), hok.wait hm, lv, mb, (hB.call hBw).drew.putObj (hB.ne_map hM) o, ?_, ?_, o1, o2, o3⟩
    · exact hR.kept (fun g hg => (World.putObj_heap_other (hR.ne_map hM hg)).trans (hBw.block g (hR.lt hg)))
    · have hM3 : MapAt (w1.drew.putObj mb o) mb idV (put (i, c) (msgV ((i, c), d)) (b.ws.map fun p => (p.1, msgV p.2))) := hM2
      rw [put_map msgV] at hM3
      exact hM3
  · unfold msgV
    go_enter Tryz.func214, Tryz.ntmps214
    go_wp2_with (go_at_call 217; refine (has_any B b t ow _ _ _ ((BookAt.loc B b t).below hb0 (by (repeat (first | exact Below.refl _ _ | with_reducible assumption | refine pb_alloc ?_ _ | refine pb_drew ?_ | refine pb_drewN ?_ _ | refine pb_set ?_ (by simp; try omega) _ | refine pb_trans ?_ (by with_reducible assumption)))))).mono ?_; rintro e w1 ⟨rfl, hb1⟩)
    refine bodyPost_ret (results_none rfl _ _ _) rfl ?_
    have hBw : Below w.heap.size w w1 := by (repeat (first | exact Below.refl _ _ | with_reducible assumption | refine pb_alloc ?_ _ | refine pb_drew ?_ | refine pb_drewN ?_ _ | refine pb_set ?_ (by simp; try omega) _ | refine pb_trans ?_ (by with_reducible assumption)))
    exact ⟨rfl, ow, Step.of_below t ow hBw, (BookAt.loc B b t).below hb0 hBw⟩

theorem msgT : ElemT Tryz.prog 42 34 3 32 (.agg #[.int .i64 0, .int .u32 0, .string ⟨#[]⟩]) := ⟨Tryz.underlying42, by kernel_rfl, rfl, by decide, by decide⟩
theorem msgCells_one (l : List MsgD) : ∀ u ∈ l.flatMap msgCells, u.oneCell' = true := by
  intro u hu
  obtain ⟨m, _, hm⟩ := List.mem_flatMap.1 hu
  simp [msgCells] at hm
  rcases hm with rfl | rfl | rfl <;> rfl
theorem msgCells_len (l : List MsgD) : (l.flatMap msgCells).length = l.length * 3 := by
  induction l with
  | nil => rfl
  | cons m l ih => simp [List.flatMap_cons, msgCells, ih]; omega

theorem msgs_nil_yes (w : World) : (binOp .eql 42 (.slice none 0 0) (.slice none 0 0)).run Tryz.prog w = .ok (.bool true) w := by kernel_rfl
theorem msgs_nil_no (a : Addr) (n c : Nat) (w : World) : (binOp .eql 42 (.slice (some a) n c) (.slice none 0 0)).run Tryz.prog w = .ok (.bool false) w := by kernel_rfl
theorem row_made (w : World) (e : TypeId) (size : Nat) : Row (w.alloc (.cells #[] e)) e size (.slice (some ⟨w.heap.size, 0, none⟩) 0 0) 0 [] :=
  ⟨by simp, .inr ⟨w.heap.size, 0, #[], rfl, Nat.zero_le _, World.alloc_heap_new w _, Nat.le_refl _, Nat.zero_le _, by simp, by simp⟩⟩

set_option maxRecDepth 8000 in
/-- slices.Clone of messages. -/
theorem clone_any (v : Value) (l : List MsgD) (w : World) (hv : Src w v 3 l.length (l.flatMap msgCells)) (hb : l.length ≤ 1073741824) : Calls Tryz.prog 49 #[v] w fun e w' =>
    ∃ v', e = .returned v' ∧ Row w' 34 3 v' l.length (l.flatMap msgCells) ∧ Below w.heap.size w w' ∧ (∀ g, v'.ownBlock = some g → w.heap.size ≤ g) := by
  have hyes := msgs_nil_yes w
  have hno := fun a n c => msgs_nil_no a n c w
  have hv0 := hv
  rcases hv.2 with ⟨rfl, h0⟩ | ⟨b, off, cap, rfl, hc, hr⟩
  · obtain rfl : l = [] := List.eq_nil_of_length_eq_zero h0
    go_enter Tryz.func49, Tryz.ntmps49
    go_wp2
    go_ret
    exact ⟨_, rfl, row_nil _ _ _, Below.refl _ _, by simp [Value.ownBlock]⟩
  · clear hr hv
    replace hv0 : Hid (Src w (.slice (some ⟨b, off, none⟩) l.length cap) 3 l.length (l.flatMap msgCells)) := hv0
    replace hb : Hid (l.length ≤ 1073741824) := hb
    go_enter Tryz.func49, Tryz.ntmps49
    go_wp2_with (at_builtin
                 obtain ⟨v', w', hrun, hrow, hgr, hown⟩ := row_append msgT (row_made w 34 3) (Src.below (Hid.out hv0) ((Below.refl _ _).alloc (Nat.le_refl _) _)) (msgCells_one l) (by have := hb.out; omega) 42
                 refine wpList_append_by rfl _ _ _ rfl rfl rfl hrun ?_)
    go_ret
    refine ⟨_, rfl, by simpa using hrow, ((Below.refl _ _).alloc (Nat.le_refl _) _).grown hgr (by simp) (fun k hk => by simp [Value.ownBlock] at hk; omega), fun g hg => ?_⟩
    have hg' : v'.ownBlock = some g := hg
    rcases hown with h1 | h1 <;> rw [hg'] at h1 <;> simp [Value.ownBlock] at h1 <;> omega

theorem row_any (B : Nat) (m : MsgD) (w : World) : Calls Tryz.prog 215 #[.pointer (some ⟨B, 0, none⟩), msgV m] w fun e w' =>
    e = .returned (.func (.func 218) #[] #[.pointer (some ⟨w.heap.size + 1, 0, none⟩), .pointer (some ⟨w.heap.size, 0, none⟩)]) ∧
    w' = (w.alloc (.cells #[.pointer (some ⟨B, 0, none⟩)] 204)).alloc (.cells #[.int .i64 m.1.1, .int .u32 m.1.2, .string (bs m.2)] 34) := by
  unfold msgV
  go_enter Tryz.func215, Tryz.ntmps215
  go_wp2
  go_ret
  exact ⟨rfl, rfl⟩

theorem look_mem {V : Type} {k : MId} {v : V} : ∀ {l : List (MId × V)}, look k l = some v → (k, v) ∈ l
  | [], h => by cases h
  | (k', v') :: l, h => by
    unfold look at h
    split at h
    · rename_i hk; cases h; subst hk; exact List.mem_cons_self ..
    · exact List.mem_cons_of_mem _ (look_mem h)
theorem del_sub {V : Type} (k : MId) : ∀ (l : List (MId × V)), ∀ p ∈ del k l, p ∈ l
  | [], p, h => by cases h
  | (k', v') :: l, p, h => by
    unfold del at h
    split at h
    · exact List.mem_cons_of_mem _ h
    · rcases List.mem_cons.1 h with rfl | h1
      · exact List.mem_cons_self ..
      · exact List.mem_cons_of_mem _ (del_sub k l p h1)
/-- What waits bears its own id, and is right. -/
def WsOk (ws : List (MId × MsgD)) : Prop := ∀ p ∈ ws, p.2.1 = p.1 ∧ rightM p.2 = true
theorem WsOk.del {ws : List (MId × MsgD)} (h : WsOk ws) (k : MId) : WsOk (del k ws) := fun p hp => h p (del_sub k ws p hp)
def zeroM : MsgD := ((0, 0), [])
def ptrCell (v : Value) (o : Nat) (w : World) : Value := match v with | .pointer (some a) => (w.cell? ⟨a.block, o, none⟩).getD undef | _ => undef

def rowMeas (p4 p5 : Value) (wr : World) : Nat := match p5 with | .bool true => 4294967296 - (intOf (ptrCell p4 1 wr)).toNat | _ => 0

set_option maxRecDepth 8000 in
set_option maxHeartbeats 1000000 in
/-- The iterator over a message and those that wait behind it. -/
theorem row_iter (bm bb B mb : Nat) (m : MsgD) (ws0 : List (MId × MsgD)) (hok0 : WsOk ws0) (hm : rightM m = true) :
    Iter Fence.wide 2 Tryz.prog 218 #[.pointer (some ⟨bm, 0, none⟩), .pointer (some ⟨bb, 0, none⟩)] (fun x : MsgD => #[msgV x])
      (fun (s : List (MId × MsgD) × Option MsgD) x => s.2 = some x ∧ rightM x = true ∧ WsOk s.1) (fun s x => (del x.1 s.1, look (x.1.1, (x.1.2 + 1) % 4294967296) (del x.1 s.1))) (fun s => s.2 = none)
      (fun s W => Blk W bm #[.int .i64 m.1.1, .int .u32 m.1.2, .string (bs m.2)] 34 ∧ W.cell? ⟨bb, 0, none⟩ = some (.pointer (some ⟨B, 0, none⟩)) ∧ W.cell? ⟨B, 17, none⟩ = some (.map (some mb)) ∧ MapAt W mb idV (s.1.map fun p => (p.1, msgV p.2))) (ws0, some m) := by
  intro l J Jx W hJ hJx hRd hY h0
  obtain ⟨r0, r1, r2, r3⟩ := hRd _ _ _ h0
  have c0 := r0.cell
  have f0 := r0.lt
  have hF : Fence.wide.fn 218 := trivial
  have hro : Fence.wide.round = none := rfl
  refine callsIn_of_wp Tryz.func218 rfl hF ?_ hro
  simp only [Tryz.ntmps218, List.size_toArray, List.length_cons, List.length_nil, Nat.reduceAdd, Nat.reduceSub, Array.replicate_succ, Array.replicate_zero, List.push_toArray, List.append_toArray, List.nil_append, List.cons_append]
  gi_wp2
  gi_loopw [4, 5] (fun p4 p5 wr => ∃ (ws : List (MId × MsgD)) (o : Option MsgD) (X : Nat → Prop) (cb : Nat), p4 = .pointer (some ⟨cb, 0, none⟩) ∧ p5 = .bool o.isSome ∧
      Blk wr cb #[.int .i64 (o.getD zeroM).1.1, .int .u32 ((o.getD zeroM).1.2 : Nat), .string (bs (o.getD zeroM).2)] 34 ∧ X cb ∧ WsOk ws ∧ rightM (o.getD m) = true ∧ J (ws, o) X wr)
    (fun p4 p5 wr => rowMeas p4 p5 wr)
  case atStart => exact ⟨ws0, some m, fun k => False ∨ k = W.heap.size, W.heap.size, rfl, rfl, Blk.new rfl, .inr rfl, hok0, hm, hJ.alloc (.cells #[.int .i64 m.1.1, .int .u32 m.1.2, .string (bs m.2)] 34) h0⟩
  case round =>
    clear r0 r1 r2 r3 c0 f0
    obtain ⟨ws, o, X, cb, rfl, rfl, hcb, hX, hws, hrm, hJs⟩ := hrel
    cases o with
    | none =>
      gi_wp2
      go_end0
      exact ⟨⟨_, rfl⟩, .inl ⟨(ws, none), X, rfl, hJs⟩⟩
    | some x =>
      obtain ⟨⟨i, c⟩, d⟩ := x
      have c0 := hcb.cell
      simp only [Option.getD_some] at c0
      obtain ⟨fn, tmps, assign, body, hy, hR⟩ := hY (ws, some ((i, c), d)) ((i, c), d) X _ hJs ⟨rfl, hrm, hws⟩
      unfold msgV at hy
      gi_wp2
      refine hR.mono ?_
      rintro e W' (⟨rfl, hJ', hsv⟩ | ⟨rfl, hx'⟩)
      · clear c0 hR hy
        obtain ⟨-, r1, r2, r3⟩ := hRd _ _ _ hJ'
        have kcb : Blk W' cb #[.int .i64 i, .int .u32 c, .string (bs d)] 34 := hcb.kept (hsv.2 cb hX hcb.lt)
        have c0 := kcb.cell
        have g0 := kcb.frozen
        have lcb := kcb.lt
        have hcast : (((c + 1) % 4294967296 : Nat) : Int) = ((c : Int) + 1) % 4294967296 := by omega
        obtain ⟨y, hy⟩ : ∃ y, look (i, (c + 1) % 4294967296) (del (i, c) ws) = y := ⟨_, rfl⟩
        have hlk := (r3.kept (w' := W'.drew) rfl).lookup_ok idKey Tryz.underlying238 (msg_zero W'.drew) (i, (c + 1) % 4294967296)
        rw [look_map, Option.isSome_map, hy] at hlk
        obtain ⟨ym, hym⟩ : ∃ ym, y.getD zeroM = ym := ⟨_, rfl⟩
        have hyk : Hid (∀ z, y = some z → z.1 = (i, (c + 1) % 4294967296)) := fun z hz => ((hws.del (i, c)) _ (look_mem (hy.trans hz))).1
        have hry : Hid (rightM (y.getD m) = true) := by
          cases hyy : y with
          | none => exact hm
          | some z => exact ((hws.del (i, c)) _ (look_mem (hy.trans hyy))).2
        replace hy : Hid (_ = _) := hy
        replace hym : Hid (_ = _) := hym
        have hv : (y.map msgV).getD (.agg #[.int .i64 0, .int .u32 0, .string ⟨#[]⟩]) = .agg #[.int .i64 ym.1.1, .int .u32 ym.1.2, .string (bs ym.2)] := by
          rw [← hym.out]; cases y <;> rfl
        rw [hv] at hlk
        unfold idV at hlk
        rw [hcast] at hlk
        have hlk2 := hlk
        rw [show ((c : Int) + 1) % 4294967296 = IntKind.u32.wrap ((c : Int) + 1) from (IntKind.wrap_u32 _).symm] at hlk2
        clear hv r3
        gi_wp2
        refine wpIn_wide.2 ?_
        go_region
        gi_wp2
        go_roundw
        case rel =>
          refine ⟨del (i, c) ws, y, fun k => X k ∨ k = W'.heap.size, W'.heap.size, rfl, rfl, ?_, .inr rfl, hws.del _, hry.out, ?_⟩
          · rw [hym.out]; exact (Blk.new (by simp)).drew
          · rw [hy.out] at hJ'
            exact hJ _ _ _ _ _ hJ' (((((Mod.refl X W').thenSet hX _).thenSet hX _).thenSet hX _).thenAlloc _).thenDrew (fun k hk => by
              rcases hk with h | h
              · exact .inl h
              · right; subst h; simp)
        case measure =>
          have e1 : ptrCell (.pointer (some ⟨cb, 0, none⟩)) 1 wr = .int .u32 (c : Int) := by
            show (wr.cell? ⟨cb, 1, none⟩).getD undef = _
            rw [hcb.cell 1]; rfl
          have hc4 : c ≤ 4294967294 := by
            have h1 : rightM ((i, c), d) = true := hrm
            simp [rightM] at h1; exact h1.2
          cases y with
          | none =>
            show 0 < 4294967296 - (intOf (ptrCell (.pointer (some ⟨cb, 0, none⟩)) 1 wr)).toNat
            rw [e1]
            simp only [intOf]
            omega
          | some z =>
            have hz := hyk.out z rfl
            have hzm : ym = z := hym.out.symm
            have e2 : ptrCell (.pointer (some ⟨W'.heap.size, 0, none⟩)) 1 ((((W'.setCell ⟨cb, 0, none⟩ (.int .i64 ym.1.1)).setCell ⟨cb, 1, none⟩ (.int .u32 ym.1.2)).setCell ⟨cb, 2, none⟩ (.string (bs ym.2))).alloc (.cells #[.int .i64 ym.1.1, .int .u32 ym.1.2, .string (bs ym.2)] 34)).drew = .int .u32 (ym.1.2 : Int) := by
              have hk : Blk ((((W'.setCell ⟨cb, 0, none⟩ (.int .i64 ym.1.1)).setCell ⟨cb, 1, none⟩ (.int .u32 ym.1.2)).setCell ⟨cb, 2, none⟩ (.string (bs ym.2))).alloc (.cells #[.int .i64 ym.1.1, .int .u32 ym.1.2, .string (bs ym.2)] 34)).drew W'.heap.size #[.int .i64 ym.1.1, .int .u32 ym.1.2, .string (bs ym.2)] 34 := (Blk.new (by simp)).drew
              show (World.cell? _ ⟨W'.heap.size, 1, none⟩).getD undef = _
              rw [hk.cell 1]; rfl
            show 4294967296 - (intOf (ptrCell (.pointer (some ⟨W'.heap.size, 0, none⟩)) 1 _)).toNat < 4294967296 - (intOf (ptrCell (.pointer (some ⟨cb, 0, none⟩)) 1 wr)).toNat
            rw [e1, e2]
            simp only [intOf]
            rw [hzm, hz]
            simp only
            omega
      · gi_wp2
        refine bodyPost_ret (results_none rfl _ _ _) rfl ?_
        exact ⟨⟨_, rfl⟩, .inr ⟨_, hx'⟩⟩
end Go.Proofs.YtaopeioebpfdeaaGreatDoor
