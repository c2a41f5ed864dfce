/- PLAIN FACTS on books: how many messages there are; books stay books. No program in sight. -/
import Derived.Test.YtlfledeldhhllaaGreatDoorIdsP
namespace Go.Proofs.YtlfledeldhhllaaGreatDoor
open Go

theorem takeRow_size : ∀ (n : Nat) (ws : List (MId × MsgD)) (x : MsgD), WsOk ws → (takeRow n ws x).2.length + (takeRow n ws x).1.length ≤ (del x.1 ws).length + 1
  | 0, ws, x, _ => by simp [takeRow]; omega
  | n + 1, ws, x, hw => by
    unfold takeRow
    cases hl : look (x.1.1, (x.1.2 + 1) % 4294967296) (del x.1 ws) with
    | none => simp; omega
    | some y =>
      have h1 := takeRow_size n (del x.1 ws) y (hw.del _)
      have hy : y.1 = (x.1.1, (x.1.2 + 1) % 4294967296) := ((hw.del x.1) _ (look_mem hl)).1
      have hlen := del_len hl
      rw [← hy] at hlen
      simp; omega
theorem put_len {V : Type} (k : MId) (v : V) : ∀ l : List (MId × V), (put k v l).length ≤ l.length + 1
  | [] => by simp [put]
  | (k', v') :: l => by
    have ih := put_len k v l
    unfold put
    split
    · simp
    · simp; exact ih
/-- How many messages a book holds. -/
def bookN (b : BookS) : Nat := b.log.length + b.ws.length
theorem take_log (b : BookS) (m : MsgD) : (takeP b m).1.log = b.log ++ (takeP b m).2.1 := by
  unfold takeP
  split
  · simp
  · split
    · split <;> simp
    · simp
theorem take_N {b : BookS} (hok : BookOk b) (m : MsgD) : bookN (takeP b m).1 ≤ bookN b + 1 := by
  unfold takeP bookN
  split
  · simp
  · split
    · split
      · simp
      · have := put_len m.1 m b.ws; simp; omega
    · have h1 := takeRow_size b.ws.length b.ws m hok.keys
      have h2 := del_len_le m.1 b.ws
      simp; omega
theorem wsOk_put {ws : List (MId × MsgD)} (h : WsOk ws) {m : MsgD} (hm : rightM m = true) : WsOk (put m.1 m ws) := by
  induction ws with
  | nil => intro p hp; simp [put] at hp; subst hp; exact ⟨rfl, hm⟩
  | cons q l ih =>
    obtain ⟨k, v⟩ := q
    intro p hp
    unfold put at hp
    split at hp
    · rcases List.mem_cons.1 hp with rfl | h1
      · exact ⟨rfl, hm⟩
      · exact h p (List.mem_cons_of_mem _ h1)
    · rcases List.mem_cons.1 hp with rfl | h1
      · exact h _ (List.mem_cons_self ..)
      · exact ih (fun q hq => h q (List.mem_cons_of_mem _ hq)) p h1
theorem take_ok {b : BookS} (hok : BookOk b) (m : MsgD) : BookOk (takeP b m).1 := by
  unfold takeP
  split
  · exact hok
  · rename_i hr
    have hr' : rightM m = true := by simpa using hr
    split
    · split
      · exact hok
      · exact ⟨hok.sixteen, hok.most, wsOk_put hok.keys hr'⟩
    · exact hok.row hr' _
theorem deliver_snoc (b : BookS) : ∀ (l : List MsgD) (m : MsgD), deliverP b (l ++ [m]) = ((takeP (deliverP b l).1 m).1, (deliverP b l).2 ++ (takeP (deliverP b l).1 m).2.1)
  | [], m => by simp [deliverP]
  | x :: l, m => by
    have ih := deliver_snoc (takeP b x).1 l m
    simp [deliverP, ih]
theorem deliver_ok {b : BookS} (hok : BookOk b) : ∀ (l : List MsgD), BookOk (deliverP b l).1 ∧ bookN (deliverP b l).1 ≤ bookN b + l.length ∧ (deliverP b l).1.log = b.log ++ (deliverP b l).2
  | [] => ⟨hok, Nat.le_refl _, by simp [deliverP]⟩
  | m :: l => by
    have h1 := deliver_ok (take_ok hok m) l
    have h2 := take_N hok m
    have h3 := take_log b m
    refine ⟨h1.1, ?_, ?_⟩
    · have := h1.2.1; simp only [deliverP, List.length_cons]; omega
    · simp only [deliverP]; rw [h1.2.2, h3, List.append_assoc]
theorem deliver_len {b : BookS} (hok : BookOk b) (l : List MsgD) : (deliverP b l).2.length ≤ bookN b + l.length := by
  have h := deliver_ok hok l
  have h2 := congrArg List.length h.2.2
  have h3 := h.2.1
  rw [List.length_append] at h2
  unfold bookN at h3 ⊢
  omega
theorem newBook_ok : BookOk newBook := ⟨rfl, by simp [newBook], by simp [newBook]⟩
end Go.Proofs.YtlfledeldhhllaaGreatDoor
