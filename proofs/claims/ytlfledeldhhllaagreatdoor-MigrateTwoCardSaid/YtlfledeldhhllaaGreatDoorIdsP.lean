/- PLAIN FACTS on a book's row. No program in sight. -/
import Derived.Test.YtlfledeldhhllaaGreatDoorIds2
namespace Go.Proofs.YtlfledeldhhllaaGreatDoor
open Go

theorem del_len_le {V : Type} (k : MId) : ∀ (l : List (MId × V)), (del k l).length ≤ l.length
  | [] => Nat.le_refl _
  | (k', v') :: l => by
    have ih := del_len_le k l
    unfold del
    split
    · simp
    · simp; exact ih
theorem del_len {V : Type} {k : MId} {v : V} : ∀ {l : List (MId × V)}, look k l = some v → (del k l).length + 1 = l.length
  | [], h => by cases h
  | (k', v') :: l, h => by
    by_cases hk : k = k'
    · simp [del, hk]
    · have h' : look k l = some v := by simpa [look, hk] using h
      have ih := del_len h'
      simp [del, hk]
      exact ih
theorem takeRow_fuel : ∀ (n m : Nat) (ws : List (MId × MsgD)) (x : MsgD), WsOk ws → (del x.1 ws).length ≤ n → (del x.1 ws).length ≤ m → takeRow n ws x = takeRow m ws x
  | 0, 0, ws, x, _, _, _ => rfl
  | 0, m + 1, ws, x, hw, h0, hm => by
    have hn : del x.1 ws = [] := List.eq_nil_of_length_eq_zero (by omega)
    simp [takeRow, hn, look]
  | n + 1, 0, ws, x, hw, h0, hm => by
    have hn : del x.1 ws = [] := List.eq_nil_of_length_eq_zero (by omega)
    simp [takeRow, hn, look]
  | n + 1, m + 1, ws, x, hw, h0, hm => by
    unfold takeRow
    cases hl : look (x.1.1, (x.1.2 + 1) % 4294967296) (del x.1 ws) with
    | none => rfl
    | some y =>
      have hy : y.1 = (x.1.1, (x.1.2 + 1) % 4294967296) := ((hw.del x.1) _ (look_mem hl)).1
      have hlen := del_len hl
      rw [← hy] at hlen
      have := takeRow_fuel n m (del x.1 ws) y (hw.del x.1) (by omega) (by omega)
      simp only [this]

/-- What is still to come, and what waits in the end. -/
def rowRem (s : List (MId × MsgD) × Option MsgD) : List MsgD := match s.2 with | none => [] | some x => (takeRow s.1.length s.1 x).2
def rowFin (s : List (MId × MsgD) × Option MsgD) : List (MId × MsgD) := match s.2 with | none => s.1 | some x => (takeRow s.1.length s.1 x).1
def rowNext (ws : List (MId × MsgD)) (x : MsgD) : List (MId × MsgD) × Option MsgD := (del x.1 ws, look (x.1.1, (x.1.2 + 1) % 4294967296) (del x.1 ws))
theorem row_step {ws : List (MId × MsgD)} {x : MsgD} (hw : WsOk ws) : rowRem (ws, some x) = x :: rowRem (rowNext ws x) ∧ rowFin (ws, some x) = rowFin (rowNext ws x) := by
  have hle := del_len_le x.1 ws
  show (takeRow ws.length ws x).2 = _ ∧ (takeRow ws.length ws x).1 = _
  unfold rowNext
  cases hl : look (x.1.1, (x.1.2 + 1) % 4294967296) (del x.1 ws) with
  | none =>
    cases hn : ws.length with
    | zero => exact ⟨rfl, rfl⟩
    | succ n => simp [takeRow, hl, rowRem, rowFin]
  | some y =>
    have hy : y.1 = (x.1.1, (x.1.2 + 1) % 4294967296) := ((hw.del x.1) _ (look_mem hl)).1
    have hlen := del_len hl
    rw [← hy] at hlen
    cases hn : ws.length with
    | zero => omega
    | succ n =>
      have := takeRow_fuel n (del x.1 ws).length (del x.1 ws) y (hw.del x.1) (by omega) (by omega)
      simp [takeRow, hl, rowRem, rowFin, this]
/-- Each next one is of the same origin, and right. -/
theorem rowNext_ok {ws : List (MId × MsgD)} {x y : MsgD} (hw : WsOk ws) (h : (rowNext ws x).2 = some y) : y.1.1 = x.1.1 ∧ rightM y = true := by
  have h1 := (hw.del x.1) _ (look_mem h)
  exact ⟨by rw [h1.1], h1.2⟩
theorem takeRow_ok : ∀ (n : Nat) (ws : List (MId × MsgD)) (x : MsgD), WsOk ws → rightM x = true → WsOk (takeRow n ws x).1 ∧ ∀ y ∈ (takeRow n ws x).2, rightM y = true
  | 0, ws, x, hw, hx => ⟨hw.del _, by simp [takeRow, hx]⟩
  | n + 1, ws, x, hw, hx => by
    unfold takeRow
    cases hl : look (x.1.1, (x.1.2 + 1) % 4294967296) (del x.1 ws) with
    | none => exact ⟨hw.del _, by simp [hx]⟩
    | some y =>
      have hy := ((hw.del x.1) _ (look_mem hl)).2
      have ih := takeRow_ok n (del x.1 ws) y (hw.del _) hy
      exact ⟨ih.1, by simpa [hx] using ih.2⟩
theorem setTk_most : ∀ (l : List MsgD) (tk : List Nat), (∀ n ∈ tk, n ≤ 4294967294) → (∀ y ∈ l, rightM y = true) → ∀ n ∈ setTk tk l, n ≤ 4294967294
  | [], tk, h, _ => h
  | x :: l, tk, h, hl => by
    show ∀ n ∈ setTk (tk.set x.1.1.toNat x.1.2) l, n ≤ 4294967294
    refine setTk_most l _ (fun n hn => ?_) (fun y hy => hl y (List.mem_cons_of_mem _ hy))
    rcases List.mem_or_eq_of_mem_set hn with h1 | h1
    · exact h n h1
    · have := hl x (List.mem_cons_self ..)
      simp [rightM] at this
      omega
theorem setTk_len (tk : List Nat) (l : List MsgD) : (setTk tk l).length = tk.length := by
  unfold setTk
  induction l generalizing tk with
  | nil => rfl
  | cons x l ih => rw [List.foldl_cons, ih]; simp
theorem setTk_snoc (tk : List Nat) (l : List MsgD) (x : MsgD) : setTk tk (l ++ [x]) = (setTk tk l).set x.1.1.toNat x.1.2 := by
  simp [setTk, List.foldl_append]
theorem takeRow_len : ∀ (n : Nat) (ws : List (MId × MsgD)) (x : MsgD), (takeRow n ws x).2.length ≤ n + 1
  | 0, ws, x => by simp [takeRow]
  | n + 1, ws, x => by
    unfold takeRow
    cases look (x.1.1, (x.1.2 + 1) % 4294967296) (del x.1 ws) with
    | none => simp
    | some y => have := takeRow_len n (del x.1 ws) y; simp; omega
theorem BookOk.row {b : BookS} (h : BookOk b) {m : MsgD} (hm : rightM m = true) (n : Nat) : BookOk { tk := setTk b.tk (takeRow n b.ws m).2, log := b.log ++ (takeRow n b.ws m).2, ws := (takeRow n b.ws m).1 } :=
  ⟨by rw [setTk_len]; exact h.sixteen, setTk_most _ _ h.most (takeRow_ok n b.ws m h.keys hm).2, (takeRow_ok n b.ws m h.keys hm).1⟩
end Go.Proofs.YtlfledeldhhllaaGreatDoor
