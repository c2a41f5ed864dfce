/- PROVED HERE: WALKS: rostrumlaw10.Cut, rostrumlaw14.cut. Condition: the messages can be read. HOW ARGUMENTS ARE OPENED: a slice of messages, an entry, a slice of entries. No condition. HOW ARGUMENTS ARE OPENED: messages by value; slices of elements of so many cells each. No condition. PLAIN FACTS on a book's row. No program in sight. -/
import Derived.Deep.Slices
import Derived.Deep.Fields
import Derived.ChangeSame
import Derived.Lib.SmallJoins
import Derived.Test.YtaopeioebpfdeaaGreatDoorK01
import Derived.Test.YtaopeioebpfdeaaGreatDoorK06
import Derived.Test.YtaopeioebpfdeaaGreatDoorK07
namespace Go.Proofs.YtaopeioebpfdeaaGreatDoor
open Go Go.RowKit Go.Shelf Go.Extern.Stop Go.Stop Go.Extern
attribute [local go_sem] Oper.semAt_some wide_fn wide_depth

theorem src_take {w : World} {mb off cap : Nat} {l : List MsgD} {n : Nat} (h : MsgsAt w (.slice (some ⟨mb, off, none⟩) l.length cap) l) (hn : n ≤ l.length) : MsgsAt w (.slice (some ⟨mb, off, none⟩) n cap) (l.take n) := by
  have hlen : (l.take n).length = n := by rw [List.length_take]; omega
  refine ⟨by rw [msgCells_len], .inr ⟨mb, off, cap, by rw [hlen], ?_, fun j u hu => ?_⟩⟩
  · rcases h.2 with ⟨h, -⟩ | ⟨_, _, _, h, hc, _⟩
    · cases h
    · cases h; rw [hlen]; omega
  · rcases h.2 with ⟨h, -⟩ | ⟨_, _, _, h, _, hr⟩
    · cases h
    · cases h
      refine hr j u ?_
      have hs : l.flatMap msgCells = (l.take n).flatMap msgCells ++ (l.drop n).flatMap msgCells := by rw [← List.flatMap_append, List.take_append_drop]
      rw [hs, List.getElem?_append_left (List.getElem?_eq_some_iff.1 hu).1]
      exact hu

/-- The messages are not too long for Go. -/
def MsgsOk (l : List MsgD) : Prop := l.length ≤ 9223372036854775807 ∧ ∀ m ∈ l, m.2.length ≤ 9223372036854775807
/-- Messages that came in: they can be read, or there are none, nor room for any. -/
def MsgsIn (w : World) (v : Value) (l : List MsgD) : Prop := MsgsAt w v l ∨ ∃ a, v = .slice (some a) 0 0 ∧ l = []
theorem MsgsIn.below {w W : World} {v : Value} {l : List MsgD} (h : MsgsIn w v l) (hb : Below w.heap.size w W) : MsgsIn W v l := h.imp (fun h => h.below hb) id
end Go.Proofs.YtaopeioebpfdeaaGreatDoor
namespace Go.Proofs.YtaopeioebpfdeaaGreatDoor
open Go Go.RowKit Go.ChangeShapes Go.WideShapes Go.ChangeAt Go.Deep

theorem cellsInt1 : Tryz.prog.cellsOf 3 = 1 := by kernel_rfl
theorem addr_add (b off j : Nat) : (⟨b, off, none⟩ : Addr).add j = ⟨b, off + j, none⟩ := by unfold Addr.add; split <;> simp_all
section
variable {H : Type} {enc : TypeId × Value → H} {w : World} {base : Nat} {held : Bool}
/-- An entry's cells. -/
def entCells (p : EntryD × Value) : List Value := [.int .i64 p.1.kind, .int .u32 p.1.epoch, .int .i64 p.1.ver, p.2]
/-- Entries that came in. -/
def EntsIn (w : World) (v : Value) (es : List (EntryD × Value)) : Prop :=
  ((v = .slice none 0 0 ∧ es = []) ∨ ∃ a cap, v = .slice (some a) es.length cap ∧ ∀ i p, es[i]? = some p → ∀ j, j < 4 → w.cell? (a.add (i * 4 + j)) = (entCells p)[j]?) ∧
    ∀ p ∈ es, MsgsIn w p.2 p.1.msgs ∧ MsgsOk p.1.msgs
end
end Go.Proofs.YtaopeioebpfdeaaGreatDoor
namespace Go.Proofs.YtaopeioebpfdeaaGreatDoor
open Go Go.RowKit Go.ChangeShapes Go.WideShapes Go.ChangeAt Go.Deep
/-- Elements that came in, of n cells each. -/
def ElemsIn {α : Type} (w : World) (v : Value) (n : Nat) (cells : α → List Value) (l : List α) : Prop :=
  (v = .slice none 0 0 ∧ l = []) ∨ ∃ a cap, v = .slice (some a) l.length cap ∧ ∀ i p, l[i]? = some p → ∀ j, j < n → w.cell? (a.add (i * n + j)) = (cells p)[j]?
theorem open_elems {α H : Type} {enc : TypeId × Value → H} {P : Program} {w : World} {base : Nat} {held : Bool} {t e : TypeId} {n : Nat} (ht : P.underlying t = some (.slice e)) (hc : P.cellsOf e = n) {cells : α → List Value} {Q : α → Prop}
    (ho : ∀ (fuel : Nat) (cs : List Value) (x : DataW H × List MemPlace), DataW.trod enc P w base (fun _ => true) held fuel e cs = some x → ∃ y, cs = cells y ∧ Q y)
    {fuel : Nat} {v : Value} {x : DataW H × List MemPlace} (h : DataW.trod enc P w base (fun _ => true) held fuel t [v] = some x) :
    ∃ l : List α, ElemsIn w v n cells l ∧ (∀ y ∈ l, Q y) ∧ l.length ≤ 9223372036854775807 := by
  subst hc
  rcases open_slice ht h with ⟨h0, -⟩ | ⟨a, len, cap, m, n, D, Pl, hcs, hb, hl, hm, hmm, hx, hi⟩
  · simp at h0; subst h0
    exact ⟨[], .inl ⟨rfl, rfl⟩, by simp, by simp⟩
  · simp at hcs; subst hcs
    have hmc : m = cap := by rw [hmm]; simp
    subst hmc
    have hex : ∀ k, k ≤ len → ∃ l : List α, l.length = k ∧ (∀ i y, l[i]? = some y → ∀ j, j < P.cellsOf e → w.cell? (a.add (i * P.cellsOf e + j)) = (cells y)[j]?) ∧ ∀ y ∈ l, Q y := by
      intro k
      induction k with
      | zero => intro _; exact ⟨[], rfl, by simp, by simp⟩
      | succ k ih =>
        intro hk
        obtain ⟨l, h1, h2, h3⟩ := ih (by omega)
        obtain ⟨cs', hc, ht'⟩ := hi k (by omega)
        obtain ⟨y, rfl, hy⟩ := ho _ _ _ ht'
        obtain ⟨_, hcl, hat⟩ := World.cells?_some hc
        refine ⟨l ++ [y], by simp [h1], fun i z hz j hj => ?_, ?_⟩
        · by_cases hik : i < k
          · rw [List.getElem?_append_left (by omega)] at hz
            exact h2 i z hz j hj
          · rw [List.getElem?_append_right (by omega)] at hz
            have : i = k := by
              rcases Nat.lt_or_ge i (k + 1) with h | h
              · omega
              · rw [List.getElem?_eq_none (by simp; omega)] at hz; cases hz
            subst this
            simp [h1] at hz; subst hz
            rw [← Go.Deep.add_add]
            exact hat j hj
        · intro z hz
          rcases List.mem_append.1 hz with h | h
          · exact h3 z h
          · simp at h; rw [h]; exact hy
    obtain ⟨l, h1, h2, h3⟩ := hex len (Nat.le_refl _)
    subst h1
    exact ⟨l, .inr ⟨a, m, rfl, h2⟩, h3, by have : m ≤ maxLen := hm; unfold maxLen at this; omega⟩
theorem ElemsIn.shape {α : Type} {w : World} {v : Value} {n : Nat} {cells : α → List Value} {l : List α} (h : ElemsIn w v n cells l) (hn : 0 < n) (h0 : ∀ y, ∃ u, (cells y)[0]? = some u) :
    ∃ a cap, v = .slice a l.length cap ∧ ∀ i p, l[i]? = some p → ∃ b off, a = some ⟨b, off, none⟩ ∧ ∀ j, j < n → w.cell? ⟨b, off + (i * n + j), none⟩ = (cells p)[j]? := by
  rcases h with ⟨rfl, rfl⟩ | ⟨⟨b, off, spot⟩, cap, rfl, hc⟩
  · exact ⟨none, 0, rfl, fun i p hp => by simp at hp⟩
  · refine ⟨_, cap, rfl, fun i p hp => ?_⟩
    obtain ⟨p0, hp0⟩ : ∃ p0, l[0]? = some p0 := ⟨_, List.getElem?_eq_getElem (by have := (List.getElem?_eq_some_iff.1 hp).1; omega)⟩
    have h1 := hc 0 p0 hp0 0 hn
    obtain ⟨u, hu⟩ := h0 p0
    rw [hu] at h1
    have hspot : spot = none := by
      have := World.cell?_spot (w := w) (v := u) (a := (⟨b, off, spot⟩ : Addr).add (0 * n + 0)) h1
      simpa [Addr.add] using this
    subst hspot
    exact ⟨b, off, rfl, fun j hj => by rw [← addr_add]; exact hc i p hp j hj⟩
end Go.Proofs.YtaopeioebpfdeaaGreatDoor
namespace Go.Proofs.YtaopeioebpfdeaaGreatDoor
open Go

theorem del_len_le {V : Type} (k : MId) : ∀ (l : List (MId × V)), (del k l).length ≤ l.length
  | [] => Nat.le_refl _
  | (k', v') :: l => by
    have ih := del_len_le k l
    unfold del
    split
    · simp
    · simp; exact ih
theorem del_len {V : Type} {k : MId} {v : V} : ∀ {l : List (MId × V)}, look k l = some v → (del k l).length + 1 = l.length
  | [], h => by cases h
  | (k', v') :: l, h => by
    by_cases hk : k = k'
    · simp [del, hk]
    · have h' : look k l = some v := by simpa [look, hk] using h
      have ih := del_len h'
      simp [del, hk]
      exact ih
theorem takeRow_fuel : ∀ (n m : Nat) (ws : List (MId × MsgD)) (x : MsgD), WsOk ws → (del x.1 ws).length ≤ n → (del x.1 ws).length ≤ m → takeRow n ws x = takeRow m ws x
  | 0, 0, ws, x, _, _, _ => rfl
  | 0, m + 1, ws, x, hw, h0, hm => by
    have hn : del x.1 ws = [] := List.eq_nil_of_length_eq_zero (by omega)
    simp [takeRow, hn, look]
  | n + 1, 0, ws, x, hw, h0, hm => by
    have hn : del x.1 ws = [] := List.eq_nil_of_length_eq_zero (by omega)
    simp [takeRow, hn, look]
  | n + 1, m + 1, ws, x, hw, h0, hm => by
    unfold takeRow
    cases hl : look (x.1.1, (x.1.2 + 1) % 4294967296) (del x.1 ws) with
    | none => rfl
    | some y =>
      have hy : y.1 = (x.1.1, (x.1.2 + 1) % 4294967296) := ((hw.del x.1) _ (look_mem hl)).1
      have hlen := del_len hl
      rw [← hy] at hlen
      have := takeRow_fuel n m (del x.1 ws) y (hw.del x.1) (by omega) (by omega)
      simp only [this]

/-- What is still to come, and what waits in the end. -/
def rowRem (s : List (MId × MsgD) × Option MsgD) : List MsgD := match s.2 with | none => [] | some x => (takeRow s.1.length s.1 x).2
def rowFin (s : List (MId × MsgD) × Option MsgD) : List (MId × MsgD) := match s.2 with | none => s.1 | some x => (takeRow s.1.length s.1 x).1
def rowNext (ws : List (MId × MsgD)) (x : MsgD) : List (MId × MsgD) × Option MsgD := (del x.1 ws, look (x.1.1, (x.1.2 + 1) % 4294967296) (del x.1 ws))
theorem row_step {ws : List (MId × MsgD)} {x : MsgD} (hw : WsOk ws) : rowRem (ws, some x) = x :: rowRem (rowNext ws x) ∧ rowFin (ws, some x) = rowFin (rowNext ws x) := by
  have hle := del_len_le x.1 ws
  show (takeRow ws.length ws x).2 = _ ∧ (takeRow ws.length ws x).1 = _
  unfold rowNext
  cases hl : look (x.1.1, (x.1.2 + 1) % 4294967296) (del x.1 ws) with
  | none =>
    cases hn : ws.length with
    | zero => exact ⟨rfl, rfl⟩
    | succ n => simp [takeRow, hl, rowRem, rowFin]
  | some y =>
    have hy : y.1 = (x.1.1, (x.1.2 + 1) % 4294967296) := ((hw.del x.1) _ (look_mem hl)).1
    have hlen := del_len hl
    rw [← hy] at hlen
    cases hn : ws.length with
    | zero => omega
    | succ n =>
      have := takeRow_fuel n (del x.1 ws).length (del x.1 ws) y (hw.del x.1) (by omega) (by omega)
      simp [takeRow, hl, rowRem, rowFin, this]
/-- Each next one is of the same origin, and right. -/
theorem rowNext_ok {ws : List (MId × MsgD)} {x y : MsgD} (hw : WsOk ws) (h : (rowNext ws x).2 = some y) : y.1.1 = x.1.1 ∧ rightM y = true := by
  have h1 := (hw.del x.1) _ (look_mem h)
  exact ⟨by rw [h1.1], h1.2⟩
theorem takeRow_ok : ∀ (n : Nat) (ws : List (MId × MsgD)) (x : MsgD), WsOk ws → rightM x = true → WsOk (takeRow n ws x).1 ∧ ∀ y ∈ (takeRow n ws x).2, rightM y = true
  | 0, ws, x, hw, hx => ⟨hw.del _, by simp [takeRow, hx]⟩
  | n + 1, ws, x, hw, hx => by
    unfold takeRow
    cases hl : look (x.1.1, (x.1.2 + 1) % 4294967296) (del x.1 ws) with
    | none => exact ⟨hw.del _, by simp [hx]⟩
    | some y =>
      have hy := ((hw.del x.1) _ (look_mem hl)).2
      have ih := takeRow_ok n (del x.1 ws) y (hw.del _) hy
      exact ⟨ih.1, by simpa [hx] using ih.2⟩
theorem setTk_most : ∀ (l : List MsgD) (tk : List Nat), (∀ n ∈ tk, n ≤ 4294967294) → (∀ y ∈ l, rightM y = true) → ∀ n ∈ setTk tk l, n ≤ 4294967294
  | [], tk, h, _ => h
  | x :: l, tk, h, hl => by
    show ∀ n ∈ setTk (tk.set x.1.1.toNat x.1.2) l, n ≤ 4294967294
    refine setTk_most l _ (fun n hn => ?_) (fun y hy => hl y (List.mem_cons_of_mem _ hy))
    rcases List.mem_or_eq_of_mem_set hn with h1 | h1
    · exact h n h1
    · have := hl x (List.mem_cons_self ..)
      simp [rightM] at this
      omega
theorem setTk_len (tk : List Nat) (l : List MsgD) : (setTk tk l).length = tk.length := by
  unfold setTk
  induction l generalizing tk with
  | nil => rfl
  | cons x l ih => rw [List.foldl_cons, ih]; simp
theorem setTk_snoc (tk : List Nat) (l : List MsgD) (x : MsgD) : setTk tk (l ++ [x]) = (setTk tk l).set x.1.1.toNat x.1.2 := by
  simp [setTk, List.foldl_append]
theorem takeRow_len : ∀ (n : Nat) (ws : List (MId × MsgD)) (x : MsgD), (takeRow n ws x).2.length ≤ n + 1
  | 0, ws, x => by simp [takeRow]
  | n + 1, ws, x => by
    unfold takeRow
    cases look (x.1.1, (x.1.2 + 1) % 4294967296) (del x.1 ws) with
    | none => simp
    | some y => have := takeRow_len n (del x.1 ws) y; simp; omega
theorem BookOk.row {b : BookS} (h : BookOk b) {m : MsgD} (hm : rightM m = true) (n : Nat) : BookOk { tk := setTk b.tk (takeRow n b.ws m).2, log := b.log ++ (takeRow n b.ws m).2, ws := (takeRow n b.ws m).1 } :=
  ⟨by rw [setTk_len]; exact h.sixteen, setTk_most _ _ h.most (takeRow_ok n b.ws m h.keys hm).2, (takeRow_ok n b.ws m h.keys hm).1⟩
end Go.Proofs.YtaopeioebpfdeaaGreatDoor
