/- PLAIN FACTS on what entries deliver: each origin's messages follow one another. No program in sight. -/
import Derived.Test.YtlfledeldhhllaaGreatDoorRunP
namespace Go.Proofs.YtlfledeldhhllaaGreatDoor
open Go

/-- Each message is its origin's next one. -/
def Follows : List Nat → List MsgD → Prop
  | _, [] => True
  | tk, x :: l => (0 ≤ x.1.1 ∧ x.1.1 ≤ 15 ∧ x.1.2 = (tk[x.1.1.toNat]?.getD 0) + 1 ∧ x.1.2 ≤ 4294967294) ∧ Follows (tk.set x.1.1.toNat x.1.2) l
theorem rightM_parts {m : MsgD} (h : rightM m = true) : 0 ≤ m.1.1 ∧ m.1.1 ≤ 15 ∧ m.2.length ≤ 1000 ∧ 1 ≤ m.1.2 ∧ m.1.2 ≤ 4294967294 := by
  simp [rightM] at h
  omega
theorem Follows.append : ∀ {tk : List Nat} {a b : List MsgD}, Follows tk a → Follows (setTk tk a) b → Follows tk (a ++ b)
  | _, [], _, _, h2 => h2
  | _, _ :: a, _, h, h2 => ⟨h.1, Follows.append (a := a) h.2 h2⟩
theorem setTk_append (tk : List Nat) (a b : List MsgD) : setTk tk (a ++ b) = setTk (setTk tk a) b := by simp [setTk, List.foldl_append]
theorem row_follows : ∀ (n : Nat) (ws : List (MId × MsgD)) (x : MsgD) (tk : List Nat), tk.length = 16 → WsOk ws → rightM x = true → x.1.2 = (tk[x.1.1.toNat]?.getD 0) + 1 → Follows tk (takeRow n ws x).2
  | 0, ws, x, tk, ht, hw, hx, h => by
    have := rightM_parts hx
    exact ⟨⟨this.1, this.2.1, h, this.2.2.2.2⟩, trivial⟩
  | n + 1, ws, x, tk, ht, hw, hx, h => by
    have hp := rightM_parts hx
    unfold takeRow
    cases hl : look (x.1.1, (x.1.2 + 1) % 4294967296) (del x.1 ws) with
    | none => exact ⟨⟨hp.1, hp.2.1, h, hp.2.2.2.2⟩, trivial⟩
    | some y =>
      have hy := (hw.del x.1) _ (look_mem hl)
      have hy1 : y.1 = (x.1.1, (x.1.2 + 1) % 4294967296) := hy.1
      refine ⟨⟨hp.1, hp.2.1, h, hp.2.2.2.2⟩, ?_⟩
      refine row_follows n (del x.1 ws) y _ (by simpa using ht) (hw.del _) hy.2 ?_
      rw [hy1]
      simp only
      rw [List.getElem?_set_self (by omega)]
      simp only [Option.getD_some]
      omega
theorem take_follows {b : BookS} (hok : BookOk b) (m : MsgD) : Follows b.tk (takeP b m).2.1 ∧ (takeP b m).1.tk = setTk b.tk (takeP b m).2.1 := by
  unfold takeP
  split
  · exact ⟨trivial, rfl⟩
  · rename_i hr
    have hr' : rightM m = true := by simpa using hr
    have hp := rightM_parts hr'
    split
    · split <;> exact ⟨trivial, rfl⟩
    · rename_i hn
      have hn' : m.1.2 = nextP b m.1.1 := by simpa using hn
      refine ⟨row_follows _ _ _ _ hok.sixteen hok.keys hr' ?_, rfl⟩
      unfold nextP at hn'
      rw [if_pos (by simp [isNodeP]; omega)] at hn'
      have hm : b.tk[m.1.1.toNat]?.getD 0 ≤ 4294967294 := by
        cases h : b.tk[m.1.1.toNat]? with
        | none => simp
        | some n => exact hok.most n (List.mem_of_getElem? h)
      omega
theorem deliver_follows {b : BookS} (hok : BookOk b) : ∀ (l : List MsgD), Follows b.tk (deliverP b l).2 ∧ (deliverP b l).1.tk = setTk b.tk (deliverP b l).2
  | [] => ⟨trivial, rfl⟩
  | m :: l => by
    have h1 := take_follows hok m
    have h2 := deliver_follows (take_ok hok m) l
    simp only [deliverP]
    refine ⟨h1.1.append (by rw [← h1.2]; exact h2.1), ?_⟩
    rw [h2.2, h1.2, setTk_append]
/-- What an Apply delivers. -/
theorem apply_follows {f : FoldS} (hok : BookOk f.book) (e : EntryD) : Follows f.book.tk (applyP f e).2.1 ∧ (applyP f e).1.book.tk = setTk f.book.tk (applyP f e).2.1 ∧ (applyP f e).1.book.log = f.book.log ++ (applyP f e).2.1 ∧ (e.kind ≠ 1 → (applyP f e).2.1 = []) := by
  unfold applyP
  split
  · exact ⟨trivial, rfl, by simp, fun _ => rfl⟩
  · split
    · exact ⟨trivial, rfl, by simp, fun _ => rfl⟩
    · split
      · rename_i hk
        have h1 := deliver_follows hok e.msgs
        exact ⟨h1.1, h1.2, (deliver_ok hok e.msgs).2.2, fun h => absurd hk h⟩
      · split
        · split
          · exact ⟨trivial, rfl, by simp, fun _ => rfl⟩
          · exact ⟨trivial, rfl, by simp [beginEra], fun _ => rfl⟩
        · split
          · exact ⟨trivial, rfl, by simp, fun _ => rfl⟩
          · exact ⟨trivial, rfl, by simp [beginEra], fun _ => rfl⟩
/-- The message at a place. -/
theorem Follows.at {l : List MsgD} : ∀ {tk : List Nat}, tk.length = 16 → Follows tk l → ∀ (j : Nat) (x : MsgD), l[j]? = some x →
    0 ≤ x.1.1 ∧ x.1.1 ≤ 15 ∧ x.1.2 = ((setTk tk (l.take j))[x.1.1.toNat]?.getD 0) + 1 ∧ x.1.2 ≤ 4294967294 ∧ setTk tk (l.take (j + 1)) = (setTk tk (l.take j)).set x.1.1.toNat x.1.2 := by
  induction l with
  | nil => intro tk _ _ j x hx; simp at hx
  | cons y l ih =>
    intro tk ht h j x hx
    cases j with
    | zero =>
      simp at hx; subst hx
      exact ⟨h.1.1, h.1.2.1, h.1.2.2.1, h.1.2.2.2, by simp [setTk]⟩
    | succ j =>
      have h1 := ih (tk := tk.set y.1.1.toNat y.1.2) (by simpa using ht) h.2 j x (by simpa using hx)
      simpa [setTk] using h1
theorem Follows.len {tk : List Nat} (l : List MsgD) (h : tk.length = 16) : (setTk tk l).length = 16 := by rw [setTk_len]; exact h
end Go.Proofs.YtlfledeldhhllaaGreatDoor
