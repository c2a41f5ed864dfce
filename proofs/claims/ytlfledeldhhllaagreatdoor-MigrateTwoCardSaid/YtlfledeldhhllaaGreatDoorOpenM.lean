/- HOW ARGUMENTS ARE OPENED: a slice of messages, an entry, a slice of entries. No condition. -/
import Derived.Test.YtlfledeldhhllaaGreatDoorCut
import Derived.Deep.Slices
import Derived.Deep.Fields
import Derived.ChangeSame
import Derived.Lib.SmallJoins
import Derived.Test.YtlfledeldhhllaaGreatDoorLaw
namespace Go.Proofs.YtlfledeldhhllaaGreatDoor
open Go Go.RowKit Go.ChangeShapes Go.WideShapes Go.ChangeAt Go.Deep

theorem cellsId : Tryz.prog.cellsOf 52 = 2 := by kernel_rfl
theorem cellsMsg : Tryz.prog.cellsOf 54 = 3 := by kernel_rfl
theorem cellsStr1 : Tryz.prog.cellsOf 9 = 1 := by kernel_rfl
theorem cellsInt1 : Tryz.prog.cellsOf 3 = 1 := by kernel_rfl
theorem cellsU321 : Tryz.prog.cellsOf 30 = 1 := by kernel_rfl
theorem cellsSl1 : Tryz.prog.cellsOf 22 = 1 := by kernel_rfl
theorem cellsEnt : Tryz.prog.cellsOf 32 = 4 := by kernel_rfl

theorem addr_add (b off j : Nat) : (⟨b, off, none⟩ : Addr).add j = ⟨b, off + j, none⟩ := by unfold Addr.add; split <;> simp_all
theorem u32_of_wf {c : Int} (h : (Lit.int .u32 c).wf = true) : 0 ≤ c := by
  simp [Lit.wf] at h
  have hmin : IntKind.u32.min = 0 := rfl
  omega
section
variable {H : Type} {enc : TypeId × Value → H} {w : World} {base : Nat} {held : Bool}
set_option maxRecDepth 100000 in
theorem open_msg {fuel : Nat} {cs : List Value} {x : DataW H × List MemPlace} (h : DataW.trod enc Tryz.prog w base (fun _ => true) held fuel 54 cs = some x) :
    ∃ m : MsgD, cs = msgCells m ∧ m.2.length ≤ 9223372036854775807 := by
  obtain ⟨y0, y1, n, -, hl, h0, h1⟩ := trod_struct2 Tryz.underlying54 h
  rw [cellsMsg] at hl
  match cs, hl with
  | [c0, c1, c2], _ =>
    simp only [cellsId, cellsStr1, List.drop_zero, List.take_succ_cons, List.take_zero, List.drop_succ_cons] at h0 h1
    obtain ⟨z0, z1, n2, -, hl2, g0, g1⟩ := trod_struct2 Tryz.underlying52 h0
    simp only [cellsInt1, cellsU321, List.drop_zero, List.take_succ_cons, List.take_zero, List.drop_succ_cons] at g0 g1
    obtain ⟨i, e0, -, -⟩ := DataW.trod_int Tryz.underlying3 g0
    obtain ⟨c, e1, -, wc⟩ := DataW.trod_int Tryz.underlying30 g1
    obtain ⟨s, e2, -, ws⟩ := DataW.trod_string Tryz.underlying9 h1
    simp at e0 e1 e2
    subst e0 e1 e2
    obtain ⟨c, rfl⟩ := Int.eq_ofNat_of_zero_le (u32_of_wf wc)
    refine ⟨((i, c), s.data.toList), by simp [msgCells, bs_of], ?_⟩
    have hs : s.size ≤ maxLen := ws
    unfold maxLen at hs
    rw [← bs_size, bs_of]; exact hs
/-- A slice of messages. -/
theorem open_msgs {fuel : Nat} {v : Value} {x : DataW H × List MemPlace} (h : DataW.trod enc Tryz.prog w base (fun _ => true) held fuel 22 [v] = some x) :
    ∃ l : List MsgD, MsgsIn w v l ∧ MsgsOk l := by
  rcases open_slice Tryz.underlying22 h with ⟨h0, -⟩ | ⟨a, len, cap, m, n, D, Pl, hcs, hb, hl, hm, hmm, hx, hi⟩
  · simp at h0; subst h0
    exact ⟨[], .inl ⟨rfl, .inl ⟨rfl, rfl⟩⟩, by simp [MsgsOk]⟩
  · simp at hcs; subst hcs
    have hmc : m = cap := by rw [hmm]; simp
    subst hmc
    have hlm := hl
    rw [cellsMsg] at hi
    have hex : ∀ k, k ≤ len → ∃ l : List MsgD, l.length = k ∧ (∀ i y, l[i]? = some y → ∀ j, j < 3 → w.cell? (a.add (i * 3 + j)) = (msgCells y)[j]?) ∧ ∀ y ∈ l, y.2.length ≤ 9223372036854775807 := by
      intro k
      induction k with
      | zero => intro _; exact ⟨[], rfl, by simp, by simp⟩
      | succ k ih =>
        intro hk
        obtain ⟨l, h1, h2, h3⟩ := ih (by omega)
        obtain ⟨cs', hc, ht⟩ := hi k (by omega)
        obtain ⟨y, rfl, hy⟩ := open_msg ht
        obtain ⟨_, hcl, hat⟩ := World.cells?_some hc
        refine ⟨l ++ [y], by simp [h1], fun i z hz j hj => ?_, ?_⟩
        · by_cases hik : i < k
          · rw [List.getElem?_append_left (by omega)] at hz
            exact h2 i z hz j hj
          · rw [List.getElem?_append_right (by omega)] at hz
            have : i = k := by
              rcases Nat.lt_or_ge i (k + 1) with h | h
              · omega
              · rw [List.getElem?_eq_none (by simp; omega)] at hz; cases hz
            subst this
            simp [h1] at hz; subst hz
            rw [← Go.Deep.add_add]
            exact hat j hj
        · intro z hz
          rcases List.mem_append.1 hz with h | h
          · exact h3 z h
          · simp at h; rw [h]; exact hy
    obtain ⟨l, h1, h2, h3⟩ := hex len (Nat.le_refl _)
    subst h1
    have hok : MsgsOk l := ⟨by have : m ≤ maxLen := hm; unfold maxLen at this; omega, h3⟩
    by_cases hm0 : m = 0
    · subst hm0
      have hl0 : l = [] := List.eq_nil_of_length_eq_zero (by omega)
      subst hl0
      exact ⟨[], .inr ⟨a, rfl, rfl⟩, hok⟩
    · obtain ⟨cs', hc, ht⟩ := hi 0 (by omega)
      obtain ⟨y, rfl, _⟩ := open_msg ht
      obtain ⟨_, _, hat⟩ := World.cells?_some hc
      have h00 := hat 0 (by omega)
      obtain ⟨b, off, spot⟩ := a
      have hspot : spot = none := by
        have := World.cell?_spot (w := w) (v := .int .i64 y.1.1) (a := ((⟨b, off, spot⟩ : Addr).add (0 * 3)).add 0) (by rw [h00]; rfl)
        simpa [Addr.add] using this
      subst hspot
      have hadd : ∀ j, (⟨b, off, none⟩ : Addr).add j = ⟨b, off + j, none⟩ := fun j => addr_add b off j
      refine ⟨l, .inl ⟨msgCells_len l, .inr ⟨b, off, m, rfl, by omega, fun j u hu => ?_⟩⟩, hok⟩
      have hjl : j < l.length * 3 := by rw [← msgCells_len]; exact (List.getElem?_eq_some_iff.1 hu).1
      obtain ⟨z, hz⟩ : ∃ z, l[j / 3]? = some z := ⟨_, List.getElem?_eq_getElem (by omega)⟩
      have h5 := flatMsg_at l (j / 3) z hz (j % 3) (by omega)
      have h6 := h2 (j / 3) z hz (j % 3) (by omega)
      rw [hadd] at h6
      rw [show j / 3 * 3 + j % 3 = j by omega] at h5 h6
      rw [h6, ← h5, hu]

/-- An entry's cells. -/
def entCells (p : EntryD × Value) : List Value := [.int .i64 p.1.kind, .int .u32 p.1.epoch, .int .i64 p.1.ver, p.2]
set_option maxRecDepth 100000 in
theorem open_ent {fuel : Nat} {cs : List Value} {x : DataW H × List MemPlace} (h : DataW.trod enc Tryz.prog w base (fun _ => true) held fuel 32 cs = some x) :
    ∃ p : EntryD × Value, cs = entCells p ∧ MsgsIn w p.2 p.1.msgs ∧ MsgsOk p.1.msgs := by
  obtain ⟨ys, n, -, -, hl, hyl, hf⟩ := DataW.trod_struct Tryz.underlying32 h
  rw [cellsEnt] at hl
  match cs, hl with
  | [c0, c1, c2, c3], _ =>
  match ys, hyl with
  | [y0, y1, y2, y3], _ =>
    have h0 := hf 0 _ rfl
    have h1 := hf 1 _ rfl
    have h2 := hf 2 _ rfl
    have h3 := hf 3 _ rfl
    simp only [List.getElem_toArray, List.getElem_cons_zero, List.getElem_cons_succ, cellsInt1, cellsU321, cellsSl1, List.drop_zero, List.take_succ_cons, List.take_zero, List.drop_succ_cons, List.getElem?_cons_zero, List.getElem?_cons_succ] at h0 h1 h2 h3
    obtain ⟨k, e0, -, -⟩ := DataW.trod_int Tryz.underlying3 h0
    obtain ⟨ep, e1, -, wc⟩ := DataW.trod_int Tryz.underlying30 h1
    obtain ⟨ve, e2, -, -⟩ := DataW.trod_int Tryz.underlying3 h2
    obtain ⟨l, hm, hok⟩ := open_msgs h3
    simp at e0 e1 e2
    subst e0 e1 e2
    obtain ⟨ep, rfl⟩ := Int.eq_ofNat_of_zero_le (u32_of_wf wc)
    exact ⟨(⟨k, ep, ve, l⟩, c3), rfl, hm, hok⟩

/-- Entries that came in. -/
def EntsIn (w : World) (v : Value) (es : List (EntryD × Value)) : Prop :=
  ((v = .slice none 0 0 ∧ es = []) ∨ ∃ a cap, v = .slice (some a) es.length cap ∧ ∀ i p, es[i]? = some p → ∀ j, j < 4 → w.cell? (a.add (i * 4 + j)) = (entCells p)[j]?) ∧
    ∀ p ∈ es, MsgsIn w p.2 p.1.msgs ∧ MsgsOk p.1.msgs
set_option maxRecDepth 100000 in
/-- An entry by value. -/
theorem open_entV {b0 : Nat} {v : Value} {d : DataW H} {p : List MemPlace} (hv : Value.okWide Tryz.prog w .any b0 32 v) (h : DataW.Trod enc Tryz.prog w base (fun _ => true) held 32 v d p) :
    ∃ (e : EntryD) (mv : Value), v = entV e mv ∧ MsgsIn w mv e.msgs ∧ MsgsOk e.msgs := by
  obtain ⟨cs, rfl, hsz⟩ := okWide_struct Tryz.underlying32 hv
  obtain ⟨fuel, hf⟩ := h
  obtain ⟨q, hq, h1, h2⟩ := open_ent hf
  refine ⟨q.1, q.2, ?_, h1, h2⟩
  have : cs.toList = entCells q := by simpa [Value.cells] using hq
  unfold entV
  rw [show cs = (entCells q).toArray from by rw [← this]]
  rfl
end
end Go.Proofs.YtlfledeldhhllaaGreatDoor
