/- A REGION THAT DRAWS ITS ORDER, BY A SCHEDULE: the quiet operations (whose value is the same in each world that meets S) are taken as soon as they may come up, each other one when it alone is left. Outside a round and inside one. No condition. -/
import Derived.Test.YtlfledeldhhllaaGreatDoorRound
import Derived.Deep.RegionHeld
namespace Go.Proofs.YtlfledeldhhllaaGreatDoor
open Go Go.RowKit
variable {P : Program} {ops : Array Oper} {S : World → Prop} {Q : Exit → Act → World → Prop}

/-- No panic comes out. -/
def NoPanicQ (Q : Exit → Act → World → Prop) : Exit → Act → World → Prop
  | .normal, a, w => Q .normal a w
  | _, _, _ => False
theorem NoPanicQ.imp {Q : Exit → Act → World → Prop} : ∀ (e : Exit) (a : Act) (w : World), NoPanicQ Q e a w → Q e a w := fun e a w h => by
  cases e <;> first | exact h | exact h.elim
/-- What has come up is closed: with each operation all those that it waits for. -/
def Closed (ops : Array Oper) (listed : Array Bool) : Prop := ∀ j oj, ops[j]? = some oj → listed.getD j false = true → ∀ e ∈ oj.after, Region.binds .any e = true → listed.getD e.on false = true
theorem Closed.set {listed : Array Bool} {i : Nat} (h : Closed ops listed) (hi : i ∈ Region.ready .any ops listed) : Closed ops (listed.setIfInBounds i true) := by
  intro j oj hj hl e he hb
  by_cases hji : i = j
  · subst hji
    obtain ⟨_, o, ho, hall⟩ := mem_ready.1 hi
    rw [hj] at ho; cases ho
    exact getD_set_true (hall e he hb)
  · exact getD_set_true (h j oj hj (by rwa [getD_set_ne false hji] at hl) e he hb)
/-- All that the operation f waits for, at last. -/
def ancs (ops : Array Oper) (f : Nat) : List Nat :=
  (List.range ops.size).reverse.foldl (fun m k => if m.contains k then m ++ ((ops[k]?.map fun o => (o.after.toList.filter (Region.binds .any)).map (·.on)).getD []) else m) [f]
theorem ancs_spec {f : Nat} {listed : Array Bool} (hc : Closed ops listed) (hf : listed.getD f false = true) : ∀ i ∈ ancs ops f, listed.getD i false = true := by
  unfold ancs
  generalize (List.range ops.size).reverse = l
  suffices H : ∀ (l m : List Nat), (∀ i ∈ m, listed.getD i false = true) → ∀ i ∈ l.foldl (fun m k => if m.contains k then m ++ ((ops[k]?.map fun o => (o.after.toList.filter (Region.binds .any)).map (·.on)).getD []) else m) m, listed.getD i false = true by
    exact H l [f] (by simpa using hf)
  intro l
  induction l with
  | nil => intro m h; simpa using h
  | cons k l ih =>
    intro m h
    rw [List.foldl_cons]
    refine ih _ ?_
    split
    · rename_i hk
      intro i hi
      rcases List.mem_append.1 hi with hi | hi
      · exact h i hi
      · cases ho : ops[k]? with
        | none => rw [ho] at hi; simp at hi
        | some o =>
          rw [ho] at hi
          simp only [Option.map_some, Option.getD_some, List.mem_map, List.mem_filter] at hi
          obtain ⟨e, ⟨he, hb⟩, rfl⟩ := hi
          exact hc k o ho (h k (by simpa using hk)) e (by simpa using he) hb
    · exact h

/-- S is asked for as long as the operation 'f' (if there is one) has not come up. -/
def Asked (brk : Option Nat) (listed : Array Bool) : Prop := ∀ f, brk = some f → listed.getD f true = false
def wpAnyF (P : Program) (ops : Array Oper) (Q : Exit → Act → World → Prop) (S : World → Prop) (brk : Option Nat) : Nat → Array Bool → Act → World → Prop
  | 0, listed, a, w => Region.ready .any ops listed = [] ∧ Q .normal a w
  | fuel + 1, listed, a, w =>
    (Region.ready .any ops listed = [] → Q .normal a w) ∧
    ∀ i ∈ Region.ready .any ops listed, wpOp P ops Q i (fun a' w' => (Asked brk (listed.setIfInBounds i true) → S w') ∧ wpAnyF P ops Q S brk fuel (listed.setIfInBounds i true) a' w') a w
theorem wpAny_of_F {brk : Option Nat} : ∀ (fuel : Nat) (listed : Array Bool) (a : Act) (w : World), wpAnyF P ops Q S brk fuel listed a w → wpAny P .any ops Q fuel listed a w
  | 0, _, _, _, h => h
  | fuel + 1, _, _, _, h => ⟨h.1, fun i hi => wpOp_mono (fun a' w' h' => wpAny_of_F fuel _ a' w' h'.2) (h.2 i hi)⟩
theorem wpAnyF_first {brk : Option Nat} {i : Nat} {oi : Oper} {v : Value} (hi : ops[i]? = some oi) (hsel : ∀ (j : Nat) (o : Oper) cs b, ops[j]? = some o → o.op ≠ .select cs b)
    (hQ : ∀ c a w, Q (.panic c) (a.put oi.dst v) w → Q (.panic c) a w) (hb : ∀ f, brk = some f → i ∈ ancs ops f ∧ i ≠ f) :
    ∀ (fuel : Nat) (listed : Array Bool) (a : Act) (w : World), Closed ops listed → Asked brk listed →
      (∀ j oj, ops[j]? = some oj → j ≠ i → listed.getD j true = false → (∀ e ∈ oj.after, Region.binds .any e = true → e.on ≠ i) → oi.apart ops oj = true) →
      i ∈ Region.ready .any ops listed → YieldsIf P ops S oi v a → S w →
      wpAnyF P ops Q S brk fuel (listed.setIfInBounds i true) (a.put oi.dst v) w → wpAnyF P ops Q S brk (fuel + 1) listed a w := by
  intro fuel
  induction fuel with
  | zero =>
    intro listed a w _ _ _ hr hy hS H
    refine ⟨fun h => (by rw [h] at hr; cases hr), fun j hj => ?_⟩
    by_cases hji : j = i
    · subst hji; exact hy.wpOp hi hS ⟨fun _ => hS, H⟩
    · have := ready_mono hj hji
      rw [H.1] at this
      cases this
  | succ fuel ih =>
    intro listed a w hcl has hfree hr hy hS H
    refine ⟨fun h => (by rw [h] at hr; cases hr), fun j hj => ?_⟩
    by_cases hji : j = i
    · subst hji; exact hy.wpOp hi hS ⟨fun _ => hS, H⟩
    · have h1 := H.2 j (ready_mono hj hji)
      obtain ⟨hjun, oj, hoj, hall⟩ := mem_ready.1 hj
      have hi0 := (mem_ready.1 hr).1
      have hif : listed.getD i false = false := by
        rcases Nat.lt_or_ge i listed.size with h' | h'
        · simp [h'] at hi0 ⊢; exact hi0
        · simp [Array.getElem?_eq_none h']
      have hnot : ∀ e ∈ oj.after, Region.binds .any e = true → e.on ≠ i := fun e he hb heq => by
        have h1 := hall e he hb
        rw [heq, hif] at h1
        cases h1
      have hjb : ∀ f, brk = some f → j ≠ f := fun f hf e => by
        subst e
        have hc' := hcl.set hj
        have hjl : (listed.setIfInBounds j true).getD j false = true := by
          have : j < listed.size := by
            rcases Nat.lt_or_ge j listed.size with h' | h'
            · exact h'
            · simp [Array.getElem?_eq_none h'] at hjun
          simp [this]
        have := ancs_spec hc' hjl i (hb j hf).1
        rw [getD_set_ne false hji, hif] at this
        cases this
      have has' : Asked brk (listed.setIfInBounds j true) := fun f hf => by rw [getD_set_ne true (hjb f hf)]; exact has f hf
      have h2 := wpOp_putIf hoj (hfree j oj hoj hji hjun hnot) (fun cs b => hsel i oi cs b hi) (fun cs b => hsel j oj cs b hoj) hQ hy h1
      have hfree' : ∀ k ok, ops[k]? = some ok → k ≠ i → (listed.setIfInBounds j true).getD k true = false →
          (∀ e ∈ ok.after, Region.binds .any e = true → e.on ≠ i) → oi.apart ops ok = true := fun k ok hk hki hun hno => by
        refine hfree k ok hk hki ?_ hno
        by_cases hjk : j = k
        · subst hjk; exact hjun
        · rw [getD_set_ne true hjk] at hun; exact hun
      have hasi : Asked brk ((listed.setIfInBounds i true).setIfInBounds j true) := fun f hf => by
        rw [Array.setIfInBounds_comm _ _ (Ne.symm hji), getD_set_ne true (Ne.symm (hb f hf).2.symm)]; exact has' f hf
      refine wpOp_mono (fun a' w' h3 => ⟨fun _ => h3.2.1 hasi, ih (listed.setIfInBounds j true) a' w' (hcl.set hj) has' hfree' (ready_mono hr (Ne.symm hji)) h3.1 (h3.2.1 hasi) ?_⟩) h2
      rw [Array.setIfInBounds_comm _ _ hji]
      exact h3.2.2

/-- Is it a schedule? -/
def schedB (ops : Array Oper) (brk : Option Nat) : List (Nat × Bool) → Array Bool → Bool
  | [], listed => (Region.ready .any ops listed).isEmpty
  | (i, true) :: r, listed => (match brk with | none => true | some f => !listed.getD f true && (ancs ops f).contains i && i != f) && (Region.ready .any ops listed).contains i && Region.free .any ops listed i && schedB ops brk r (listed.setIfInBounds i true)
  | (i, false) :: r, listed => decide (Region.ready .any ops listed = [i]) && schedB ops brk r (listed.setIfInBounds i true)
/-- The walk along a schedule. -/
def wpSched (P : Program) (ops : Array Oper) (S : World → Prop) (brk : Option Nat) (Q : Exit → Act → World → Prop) : List (Nat × Bool) → Act → World → Prop
  | [], a, w => Q .normal a w
  | (i, true) :: r, a, w => ∃ o v, ops[i]? = some o ∧ YieldsIf P ops S o v a ∧ wpSched P ops S brk Q r (a.put o.dst v) w
  | (i, false) :: r, a, w => wpOp P ops (fun _ _ _ => False) i (fun a' w' => (brk ≠ some i → S w') ∧ wpSched P ops S brk Q r a' w') a w

theorem wpOp_false {i : Nat} {K : Act → World → Prop} {a : Act} {w : World} (h : wpOp P ops (fun _ _ _ => False) i K a w) : wpOp P ops Q i K a w := by
  unfold wpOp at *
  cases ho : ops[i]? with
  | none => rw [ho] at h; exact h
  | some o =>
    rw [ho] at h
    simp only at h ⊢
    split
    · rename_i hw
      rw [if_pos hw] at h
      rcases h with h | ⟨_, h⟩
      · refine .inl ?_
        unfold Oper.wp at *
        generalize (execOp a.eval o).run P w = r at *
        cases r with
        | ok n w' =>
          cases n <;> simp only [Oper.upon] at h ⊢ <;>
            first
              | exact h
              | exact Calls.mono h (fun e w'' he => by cases e <;> first | exact he | exact he.elim | (obtain ⟨_, _, h0⟩ := he; exact h0.elim))
        | halt x w' => cases x <;> simp only [Oper.upon] at h ⊢ <;> first | exact h | exact h.elim
      · obtain ⟨_, _, h⟩ := h; exact h.elim
    · rename_i hw
      rw [if_neg hw] at h
      exact h

theorem any_of_sched {brk : Option Nat} (hsel : Region.noSelect ops = true) : ∀ (l : List (Nat × Bool)) (listed : Array Bool) (a : Act) (w : World), schedB ops brk l listed = true → Closed ops listed → (Asked brk listed → S w) →
    wpSched P ops S brk Q l a w → wpAnyF P ops (NoPanicQ Q) S brk l.length listed a w
  | [], listed, a, w, hB, hc, hS, h => ⟨by simpa [schedB] using hB, h⟩
  | (i, true) :: l, listed, a, w, hB, hc, hS, h => by
    simp only [schedB, Bool.and_eq_true] at hB
    obtain ⟨⟨⟨hk, hr⟩, hf⟩, hB⟩ := hB
    have hr' : i ∈ Region.ready .any ops listed := by simpa using hr
    have has : Asked brk listed := fun f hf => by subst hf; simp at hk; simpa using hk.1.1
    obtain ⟨o, v, ho, hy, h⟩ := h
    refine wpAnyF_first ho (Region.noSelect_spec hsel) (fun _ _ _ h => h) (fun f hf => (by subst hf; simp at hk; exact ⟨hk.1.2, hk.2⟩)) _ listed a w hc has (Region.free_spec ho hf) hr' hy (hS has)
      (any_of_sched hsel l _ _ w hB (hc.set hr') (fun _ => hS has) h)
  | (i, false) :: l, listed, a, w, hB, hc, hS, h => by
    simp only [schedB, Bool.and_eq_true, decide_eq_true_eq] at hB
    obtain ⟨hr, hB⟩ := hB
    refine ⟨fun h0 => (by rw [h0] at hr; cases hr), fun j hj => ?_⟩
    have hji : j = i := by rw [hr] at hj; simpa using hj
    subst hji
    have hlt : j < listed.size := by
      rcases Nat.lt_or_ge j listed.size with h' | h'
      · exact h'
      · have := (mem_ready.1 hj).1; simp [Array.getElem?_eq_none h'] at this
    refine wpOp_mono (fun a' w' ⟨h1, h2⟩ => ?_) (wpOp_false h)
    have hS' : Asked brk (listed.setIfInBounds j true) → S w' := fun has => h1 (fun e => by have := has j e; simp [hlt] at this)
    exact ⟨hS', any_of_sched hsel l _ a' w' hB (hc.set hj) hS' h2⟩

theorem closed_none (l : List Oper) : Closed l.toArray (Array.replicate l.length false) := fun j oj hj hl => by
  rw [getD_replicate_false] at hl; cases hl
/-- A REGION OUTSIDE A ROUND. -/
theorem wp_region_sched {id : Nat} {a : Act} {w : World} {l : List Oper} (sch : List (Nat × Bool)) (brk : Option Nat) (S : World → Prop) (hm : P.follows .mixedOrders = true)
    (hB : (Region.noSelect l.toArray && decide (sch.length = l.length) && schedB l.toArray brk sch (Array.replicate l.length false)) = true) (hS : S w.drew)
    (h : wpSched P l.toArray S brk Q sch a w.drew) : (Code.region id l.toArray true).wp P Q a w := by
  simp only [Bool.and_eq_true, decide_eq_true_eq] at hB
  obtain ⟨⟨h1, h2⟩, h3⟩ := hB
  have H := any_of_sched h1 sch _ a w.drew h3 (closed_none l) (fun _ => hS) h
  rw [h2] at H
  exact wp_mono (wp_region_any (Q := NoPanicQ Q) hm (by simpa using wpAny_of_F _ _ _ _ H)) (fun e a w h => NoPanicQ.imp e a w h)
/-- A REGION IN A ROUND. -/
theorem wpIn_region_sched {id k r : Nat} {a : Act} {w : World} {l : List Oper} (sch : List (Nat × Bool)) (brk : Option Nat) (S : World → Prop) (hm : P.follows .mixedOrders = true)
    (hB : (noDefer l && Region.noSelect l.toArray && decide (sch.length = l.length) && schedB l.toArray brk sch (Array.replicate l.length false)) = true) (hS : S w.drew)
    (h : wpSched P l.toArray S brk Q sch a w.drew) : (Code.region id l.toArray true).wpIn (Fence.wide.inRound r) k P Q a w := by
  simp only [Bool.and_eq_true, decide_eq_true_eq] at hB
  obtain ⟨⟨⟨h0, h1⟩, h2⟩, h3⟩ := hB
  have H := any_of_sched h1 sch _ a w.drew h3 (closed_none l) (fun _ => hS) h
  rw [h2] at H
  refine wpIn_mono (wpIn_region_any (Q := NoPanicQ Q) hm (anyIn_of_any r k h0 (fun ⟨_, _, h⟩ => h) _ _ _ _ (by simpa using wpAny_of_F _ _ _ _ H))) (fun e a w h => NoPanicQ.imp e a w h)

variable {brk : Option Nat}
theorem wpSched_nil {a : Act} {w : World} (h : Q .normal a w) : wpSched P ops S brk Q [] a w := h
/-- A quiet operation. -/
theorem wpSched_quiet {i : Nat} {r : List (Nat × Bool)} {o : Oper} {a : Act} {w : World} {v : Value} (ho : ops[i]? = some o) (hg : Region.wanted o (yielded ops a.tmps) = true)
    (h1 : ∀ w', S w' → (execOp a.eval o).run P w' = .ok (.value v) w') (h2 : ∀ K : Act → Prop, (∀ a', wpSched P ops S brk Q r a' w → K a') → K (a.put o.dst v)) : wpSched P ops S brk Q ((i, true) :: r) a w :=
  ⟨o, v, ho, .inl ⟨hg, h1⟩, h2 _ (fun _ h => h)⟩
/-- One that is not wanted. -/
theorem wpSched_unwanted {i : Nat} {r : List (Nat × Bool)} {o : Oper} {a : Act} {w : World} (ho : ops[i]? = some o) (hg : Region.wanted o (yielded ops a.tmps) = false)
    (h2 : ∀ K : Act → Prop, (∀ a', wpSched P ops S brk Q r a' w → K a') → K (a.put o.dst undef)) : wpSched P ops S brk Q ((i, true) :: r) a w :=
  ⟨o, undef, ho, .inr ⟨hg, rfl⟩, h2 _ (fun _ h => h)⟩
/-- Another operation. -/
theorem wpSched_loud {i : Nat} {r : List (Nat × Bool)} {o : Oper} {a : Act} {w : World} (ho : ops[i]? = some o)
    (h : ∀ K : Act → World → Prop, Shut (∀ a' w', (brk ≠ some i → S w') → wpSched P ops S brk Q r a' w' → K a' w') → wpList P ops (Exit.then K (fun _ _ _ => False)) [o] a w) : wpSched P ops S brk Q ((i, false) :: r) a w := by
  have H := h (fun a' w' => (brk ≠ some i → S w') ∧ wpSched P ops S brk Q r a' w') (fun a' w' h1 h2 => ⟨h1, h2⟩)
  show wpOp P ops _ i _ a w
  unfold wpOp
  rw [ho]
  unfold wpList at H
  simp only
  split
  · rename_i hw
    rw [if_pos hw] at H
    rcases H with H | ⟨_, _, _, H⟩
    · refine .inl ?_
      unfold Oper.wp at *
      generalize (execOp a.eval o).run P w = x at *
      cases x with
      | ok n w' =>
        cases n <;> simp only [Oper.upon] at H ⊢ <;>
          first
            | exact H
            | exact Calls.mono H (fun e w'' he => by cases e <;> first | exact he | exact he.elim | (obtain ⟨_, _, h0⟩ := he; exact h0.elim))
            | exact Rows.mono H (fun _ _ he => he)
      | halt x w' => cases x <;> simp only [Oper.upon] at H ⊢ <;> first | exact H | exact H.elim
    · exact H.elim
  · rename_i hw
    rw [if_neg hw] at H
    exact H
end Go.Proofs.YtlfledeldhhllaaGreatDoor
