/- PROVED HERE: PLAIN FACTS on locals: how much they hold; what they have delivered and hold is what their fold has delivered. No program in sight. PLAIN LAWS of node: what acts keep true, what its records give again; what was told is kept, votes are kept, counts are used once. No program in sight. PLAIN LAWS of node: an act keeps what the records tell; nothing that was told is lost; votes only rise; counts follow one another. No program in sight. PLAIN LAWS of node: broadcasting, recovering, all acts; what the statements say of a run of acts. No program in sight. -/
import Derived.Test.YtaopeioebpfdeaaGreatDoorK14
import Derived.Test.YtaopeioebpfdeaaGreatDoorK19
namespace Go.Proofs.YtaopeioebpfdeaaGreatDoor
open Go

theorem apply_err {f : FoldS} {e : EntryD} (h : (applyP f e).2.2.2 ≠ 0) : applyP f e = (f, [], false, 140) := by
  unfold applyP at h ⊢
  split
  · rfl
  · rename_i h1
    rw [if_neg h1] at h
    exfalso
    revert h
    repeat' split
    all_goals simp
theorem applyL_fold (L : LocalS) (e : EntryD) (fails : Bool) : (applyL L e fails).1.fold = (applyP L.fold e).1 := by
  unfold applyL
  split
  · rfl
  · unfold releaseL midL migrateL holdL
    repeat' split
    all_goals rfl
theorem midL_same (L : LocalS) (R : FoldS × List MsgD × Bool × Int) (fails : Bool) : (midL L R fails).held = L.held ∧ (midL L R fails).log = L.log := by
  unfold midL migrateL
  split <;> exact ⟨rfl, rfl⟩
theorem releaseL_all (L : LocalS) : (releaseL L).1.log ++ (releaseL L).1.held = L.log ++ L.held := by
  unfold releaseL
  split <;> simp
theorem releaseL_len (L : LocalS) : (releaseL L).2.length ≤ L.held.length := by
  unfold releaseL
  split <;> simp
/-- How much a local holds behind k entries. -/
structure LocalB (L : LocalS) (k : Nat) : Prop where
  fold : FoldB L.fold k
  all : L.log ++ L.held = L.fold.book.log
theorem LocalB.mono {L : LocalS} {k n : Nat} (h : LocalB L k) (hk : k ≤ n) : LocalB L n := ⟨h.fold.mono hk, h.all⟩
theorem newL_b (v : Int) (s : StD) : LocalB (newL v s) 0 := ⟨newFold_b v, rfl⟩
theorem LocalB.len {L : LocalS} {k : Nat} (h : LocalB L k) : L.log.length + L.held.length ≤ 64 * k := by
  have h1 := congrArg List.length h.all
  rw [List.length_append] at h1
  have h2 := h.fold.few
  unfold bookN at h2
  omega
theorem applyL_b {L : LocalS} {k : Nat} (h : LocalB L k) (e : EntryD) (fails : Bool) : LocalB (applyL L e fails).1 (k + 1) := by
  refine ⟨by rw [applyL_fold]; exact apply_b h.fold e, ?_⟩
  rw [applyL_fold, (apply_follows h.fold.ok e).2.2.1]
  unfold applyL
  split
  · rename_i hr
    have := apply_err hr
    rw [this]
    simp only [List.append_nil]
    exact h.all
  · rw [releaseL_all]
    unfold holdL
    simp only [(midL_same L _ fails).1, (midL_same L _ fails).2]
    rw [← List.append_assoc, h.all]
theorem apply_len {f : FoldS} {k : Nat} (h : FoldB f k) (e : EntryD) : (applyP f e).2.1.length ≤ 64 * (k + 1) := by
  have h1 := (apply_b h e).few
  have h2 := (apply_follows h.ok e).2.2.1
  unfold bookN at h1
  rw [h2, List.length_append] at h1
  omega
end Go.Proofs.YtaopeioebpfdeaaGreatDoor
namespace Go.Proofs.YtaopeioebpfdeaaGreatDoor
open Go

/-- What records give: what was accepted, the part in decisions. -/
def replayR (q : List MsgD × PaxS) (r : List UInt8) : List MsgD × PaxS :=
  match r with
  | [] => q
  | k :: d => if k = 109 ∧ (unpackP d).2 = 0 ∧ (unpackP d).1.length = 1 then (q.1 ++ (unpackP d).1, q.2) else (q.1, replayP q.2 r)
def RR (l : List (List UInt8)) : List MsgD × PaxS := l.foldl replayR ([], newPax)
theorem RR_snoc (l : List (List UInt8)) (r : List UInt8) : RR (l ++ [r]) = replayR (RR l) r := by simp [RR, List.foldl_append]
theorem replayN_R (n : NodeS) (r : List UInt8) : replayN n r = { n with acc := (replayR (n.acc, n.pax) r).1, pax := (replayR (n.acc, n.pax) r).2 } := by
  unfold replayN replayR
  cases r with
  | nil => rfl
  | cons k d => simp only; split <;> rfl
theorem foldN_R : ∀ (l : List (List UInt8)) (n : NodeS), l.foldl replayN n = { n with acc := (l.foldl replayR (n.acc, n.pax)).1, pax := (l.foldl replayR (n.acc, n.pax)).2 }
  | [], n => rfl
  | r :: l, n => by
    rw [List.foldl_cons, foldN_R l, replayN_R]
    simp only [List.foldl_cons]

/-- The version that a marker's epoch would have. -/
def aheadL (L : LocalS) (e : EntryD) : Int :=
  if e.kind = 2 then e.ver else if e.kind = 3 then (if 1 < L.fold.eras.length then ((L.fold.eras[L.fold.eras.length - 2]?).getD (0, 0, 0)).2.1 else 0) else 0
def locStep (bad : List Int) (L : LocalS) (x : List UInt8) : LocalS := if (decodeP x).2 ≠ 0 then L else (applyL L (decodeP x).1 (bad.contains (aheadL L (decodeP x).1))).1
/-- The local behind values. -/
def locOf (v : Int) (bad : List Int) (s : StD) (vals : List (List UInt8)) : LocalS := vals.foldl (locStep bad) (newL v s)
theorem locOf_snoc (v : Int) (bad : List Int) (s : StD) (vals : List (List UInt8)) (x : List UInt8) : locOf v bad s (vals ++ [x]) = locStep bad (locOf v bad s vals) x := by simp [locOf, List.foldl_append]
theorem releaseL_log (L : LocalS) : L.log <+: (releaseL L).1.log := by
  unfold releaseL
  split
  · exact List.prefix_refl _
  · exact List.prefix_append _ _
theorem applyL_log (L : LocalS) (e : EntryD) (b : Bool) : L.log <+: (applyL L e b).1.log := by
  unfold applyL
  split
  · exact List.prefix_refl _
  · have h := releaseL_log (holdL (midL L (applyP L.fold e) b) (applyP L.fold e).2.1)
    have h2 : (holdL (midL L (applyP L.fold e) b) (applyP L.fold e).2.1).log = L.log := (midL_same L _ b).2
    rw [h2] at h; exact h
theorem locStep_log (bad : List Int) (L : LocalS) (x : List UInt8) : L.log <+: (locStep bad L x).log := by
  unfold locStep
  split
  · exact List.prefix_refl _
  · exact applyL_log _ _ _
theorem locOf_log (v : Int) (bad : List Int) (s : StD) (a b : List (List UInt8)) : (locOf v bad s a).log <+: (locOf v bad s (a ++ b)).log := by
  induction b generalizing a with
  | nil => rw [List.append_nil]; exact List.prefix_refl _
  | cons x b ih =>
    have h1 := locStep_log bad (locOf v bad s a) x
    rw [← locOf_snoc] at h1
    have h2 := ih (a ++ [x])
    rw [List.append_assoc] at h2
    exact h1.trans h2

/-- What a node has applied. -/
def Applied (n : NodeS) (s : StD) (known : List (Int × List UInt8)) (vals : List (List UInt8)) : Prop :=
  vals.length = n.applied ∧ n.loc = locOf n.version n.bad s vals ∧ ∀ (j : Nat) (x : List UInt8), vals[j]? = some x → look ((j : Int) + 1) known = some x
/-- Two that differ in the pool, and what was offered or is wanted, alone. -/
structure SameN (n m : NodeS) : Prop where
  id : m.id = n.id
  version : m.version = n.version
  bad : m.bad = n.bad
  store : m.store = n.store
  pax : m.pax = n.pax
  acc : m.acc = n.acc
  down : m.down = n.down
theorem SameN.refl (n : NodeS) : SameN n n := ⟨rfl, rfl, rfl, rfl, rfl, rfl, rfl⟩
theorem SameN.trans {a b c : NodeS} (h : SameN a b) (k : SameN b c) : SameN a c := ⟨k.id.trans h.id, k.version.trans h.version, k.bad.trans h.bad, k.store.trans h.store, k.pax.trans h.pax, k.acc.trans h.acc, k.down.trans h.down⟩
theorem offer_same : ∀ (k : Nat) (n : NodeS), SameN n (offerN k n) ∧ (offerN k n).loc = n.loc ∧ (offerN k n).applied = n.applied
  | 0, n => ⟨SameN.refl n, rfl, rfl⟩
  | k + 1, n => by
    unfold offerN
    split
    · exact ⟨SameN.refl n, rfl, rfl⟩
    · rename_i m _
      split
      · have h := offer_same k { n with pool := (addP n.pool m).1, offered := n.offered + 1 }
        exact ⟨⟨h.1.id, h.1.version, h.1.bad, h.1.store, h.1.pax, h.1.acc, h.1.down⟩, h.2.1, h.2.2⟩
      · exact ⟨⟨rfl, rfl, rfl, rfl, rfl, rfl, rfl⟩, rfl, rfl⟩
theorem enter_same (n : NodeS) (e : EntryD) : SameN n (enterN n e).1 ∧ (enterN n e).1.loc = (applyL n.loc e (n.bad.contains (aheadL n.loc e))).1 ∧ (enterN n e).1.applied = n.applied := by
  unfold enterN
  simp only
  have h := offer_same (n.acc.length + 1) { n with loc := (applyL n.loc e (n.bad.contains (aheadN n e))).1, wanted := if nowP (applyL n.loc e (n.bad.contains (aheadN n e))).1.fold.eras = nowP n.loc.fold.eras then n.wanted else 0, pool := doneP (doneP n.pool (applyL n.loc e (n.bad.contains (aheadN n e))).2.1) (applyL n.loc e (n.bad.contains (aheadN n e))).1.held }
  exact ⟨⟨h.1.id, h.1.version, h.1.bad, h.1.store, h.1.pax, h.1.acc, h.1.down⟩, h.2.1, h.2.2⟩
/-- Applying goes on along what is known, to the first gap (or as far as it may). -/
theorem apply_far (s : StD) : ∀ (k : Nat) (n : NodeS) (vals : List (List UInt8)), Applied n s n.pax.known vals → SameN n (applyN k n).1 ∧ ∃ more, Applied (applyN k n).1 s n.pax.known (vals ++ more) ∧ (look (((vals ++ more).length : Int) + 1) n.pax.known = none ∨ more.length = k)
  | 0, n, vals, h => ⟨SameN.refl n, [], by simpa [applyN] using h, .inr rfl⟩
  | k + 1, n, vals, h => by
    unfold applyN
    cases hl : look ((n.applied : Int) + 1) n.pax.known with
    | none => exact ⟨SameN.refl n, [], by simpa using h, .inl (by simp only [List.append_nil]; rw [h.1]; exact hl)⟩
    | some x =>
      simp only
      have step : ∀ m : NodeS, SameN n m → m.loc = locStep n.bad n.loc x → m.applied = n.applied + 1 → Applied m s m.pax.known (vals ++ [x]) := fun m hs hloc happ => by
        refine ⟨by rw [List.length_append, List.length_singleton, happ, h.1], ?_, fun j y hj => ?_⟩
        · rw [hs.version, hs.bad, locOf_snoc, ← h.2.1]; exact hloc
        · rw [hs.pax]
          rcases Nat.lt_or_ge j vals.length with hlt | hge
          · rw [List.getElem?_append_left hlt] at hj; exact h.2.2 j y hj
          · rw [List.getElem?_append_right hge] at hj
            have : j = vals.length := by
              have := (List.getElem?_eq_some_iff.1 hj).1
              simp at this; omega
            subst this
            simp at hj; subst hj
            rw [h.1]; exact hl
      have go : ∀ m : NodeS, SameN n m → Applied m s m.pax.known (vals ++ [x]) → SameN n (applyN k m).1 ∧ ∃ more, Applied (applyN k m).1 s n.pax.known (vals ++ more) ∧ (look (((vals ++ more).length : Int) + 1) n.pax.known = none ∨ more.length = k + 1) := fun m hs ha => by
        obtain ⟨h1, more, h2, h3⟩ := apply_far s k m (vals ++ [x]) ha
        rw [hs.pax] at h2 h3
        refine ⟨hs.trans h1, [x] ++ more, by rw [← List.append_assoc]; exact h2, ?_⟩
        rw [← List.append_assoc]
        rcases h3 with h3 | h3
        · exact .inl h3
        · exact .inr (by simp; omega)
      split
      · rename_i hd
        refine go _ ⟨rfl, rfl, rfl, rfl, rfl, rfl, rfl⟩ (step _ ⟨rfl, rfl, rfl, rfl, rfl, rfl, rfl⟩ ?_ rfl)
        unfold locStep; rw [if_pos hd]
      · rename_i hd
        have he := enter_same { n with applied := n.applied + 1 } (decodeP x).1
        have hs : SameN n (enterN { n with applied := n.applied + 1 } (decodeP x).1).1 := ⟨he.1.id, he.1.version, he.1.bad, he.1.store, he.1.pax, he.1.acc, he.1.down⟩
        refine go _ hs (step _ hs ?_ he.2.2)
        unfold locStep; rw [if_neg hd]; exact he.2.1
end Go.Proofs.YtaopeioebpfdeaaGreatDoor
namespace Go.Proofs.YtaopeioebpfdeaaGreatDoor
open Go

/-- Instances that are known are instances. -/
def KnownOk (known : List (Int × List UInt8)) : Prop := ∀ i x, look i known = some x → 1 ≤ i ∧ i ≤ 10000
theorem learn_known {p : PaxS} (i : Int) (x : List UInt8) : (∀ j y, look j p.known = some y → look j (learnP p i x).1.known = some y) ∧ (KnownOk p.known → KnownOk (learnP p i x).1.known) ∧ (learnP p i x).1.votes = p.votes := by
  unfold learnP
  by_cases h1 : isInstP i = false ∨ 4000 < x.length
  · rw [if_pos h1]; exact ⟨fun _ _ h => h, fun h => h, rfl⟩
  · rw [if_neg h1]
    have hi : isInstP i = true := by
      cases hi : isInstP i
      · exact absurd (.inl hi) h1
      · rfl
    cases hl : look i p.known with
    | some y => simp only; split <;> exact ⟨fun _ _ h => h, fun h => h, rfl⟩
    | none =>
      refine ⟨fun j y h => ?_, fun h j y hj => ?_, rfl⟩
      · show look j (put i x p.known) = some y
        rw [look_put]
        split
        · rename_i e; subst e; rw [hl] at h; cases h
        · exact h
      · have hj' : look j (put i x p.known) = some y := hj
        rw [look_put] at hj'
        split at hj'
        · rename_i e; subst e; exact inst_parts hi
        · exact h j y hj'
theorem replayV_up (kind : UInt8) (v : VoteD) (b : Nat) (x : List UInt8) : v.1 ≤ (replayV kind v b x).1 := by
  unfold replayV
  split <;> exact Nat.le_max_left _ _
theorem replay_keeps (p : PaxS) (r : List UInt8) : (∀ j y, look j p.known = some y → look j (replayP p r).known = some y) ∧ (KnownOk p.known → KnownOk (replayP p r).known) ∧ ∀ i, (voteAt p i).1 ≤ (voteAt (replayP p r) i).1 := by
  unfold replayP
  cases readRec r with
  | none => exact ⟨fun _ _ h => h, fun h => h, fun _ => Nat.le_refl _⟩
  | some q =>
    obtain ⟨k, i, b, x⟩ := q
    simp only
    split
    · have h := learn_known (p := p) i x
      exact ⟨h.1, h.2.1, fun j => by unfold voteAt; rw [h.2.2]; exact Nat.le_refl _⟩
    · split
      · exact ⟨fun _ _ h => h, fun h => h, fun _ => Nat.le_refl _⟩
      · refine ⟨fun _ _ h => h, fun h => h, fun j => ?_⟩
        show _ ≤ ((look j (put i _ p.votes)).getD (0, 0, [])).1
        rw [look_put]
        split
        · rename_i e; subst e; exact replayV_up _ _ _ _
        · exact Nat.le_refl _
theorem replayR_keeps (q : List MsgD × PaxS) (r : List UInt8) : q.1 <+: (replayR q r).1 ∧ (∀ j y, look j q.2.known = some y → look j (replayR q r).2.known = some y) ∧ (KnownOk q.2.known → KnownOk (replayR q r).2.known) ∧ ∀ i, (voteAt q.2 i).1 ≤ (voteAt (replayR q r).2 i).1 := by
  unfold replayR
  cases r with
  | nil => exact ⟨List.prefix_refl _, fun _ _ h => h, fun h => h, fun _ => Nat.le_refl _⟩
  | cons k d =>
    simp only
    split
    · exact ⟨List.prefix_append _ _, fun _ _ h => h, fun h => h, fun _ => Nat.le_refl _⟩
    · exact ⟨List.prefix_refl _, replay_keeps _ _⟩
theorem RR_keeps (l : List (List UInt8)) : ∀ (m : List (List UInt8)), (RR l).1 <+: (RR (l ++ m)).1 ∧ (∀ j y, look j (RR l).2.known = some y → look j (RR (l ++ m)).2.known = some y) ∧ ∀ i, (voteAt (RR l).2 i).1 ≤ (voteAt (RR (l ++ m)).2 i).1 := by
  intro m
  induction m generalizing l with
  | nil => rw [List.append_nil]; exact ⟨List.prefix_refl _, fun _ _ h => h, fun _ => Nat.le_refl _⟩
  | cons r m ih =>
    have h1 := replayR_keeps (RR l) r
    rw [← RR_snoc] at h1
    have h2 := ih (l ++ [r])
    rw [List.append_assoc] at h2
    exact ⟨h1.1.trans h2.1, fun j y h => h2.2.1 j y (h1.2.1 j y h), fun i => Nat.le_trans (h1.2.2.2 i) (h2.2.2 i)⟩
theorem RR_known (l : List (List UInt8)) : KnownOk (RR l).2.known := by
  suffices h : ∀ (l : List (List UInt8)) (q : List MsgD × PaxS), KnownOk q.2.known → KnownOk (l.foldl replayR q).2.known from h l _ (fun i x hx => by simp [newPax, look] at hx)
  intro l
  induction l with
  | nil => intro q h; exact h
  | cons r l ih => intro q h; exact ih _ ((replayR_keeps q r).2.2.1 h)

/-- What always holds of a node, with the records that its store has. -/
structure NInv (s : StD) (n : NodeS) (l : List (List UInt8)) : Prop where
  kept : Kept n.store l
  up : n.down = false → n.store.crashed = false ∧ n.acc = (RR l).1 ∧ n.pax = (RR l).2
  acc : n.acc <+: (RR l).1
  loc : ∃ vals, Applied n s (RR l).2.known vals
/-- Counts follow one another. -/
def IdsOk (id : Int) (acc : List MsgD) : Prop := ∀ (j : Nat) (m : MsgD), acc[j]? = some m → m.1 = (id, j + 1)
/-- What an act does: records are added, nothing that was told is lost. -/
structure NStep (s : StD) (n : NodeS) (l : List (List UInt8)) (m : NodeS) (l' : List (List UInt8)) : Prop where
  inv : NInv s m l'
  recs : l <+: l'
  acc : n.acc <+: m.acc
  log : n.loc.log <+: m.loc.log
  ids : IdsOk n.id (RR l).1 → IdsOk n.id (RR l').1
  same : m.id = n.id ∧ m.version = n.version ∧ m.bad = n.bad
theorem NStep.refl {s : StD} {n : NodeS} {l : List (List UInt8)} (h : NInv s n l) : NStep s n l n l := ⟨h, List.prefix_refl _, List.prefix_refl _, List.prefix_refl _, fun h => h, rfl, rfl, rfl⟩
theorem NStep.trans {s : StD} {a b c : NodeS} {l m k : List (List UInt8)} (h : NStep s a l b m) (g : NStep s b m c k) : NStep s a l c k :=
  ⟨g.inv, h.recs.trans g.recs, h.acc.trans g.acc, h.log.trans g.log, (fun x => by have := g.ids (by rw [h.same.1]; exact h.ids x); rwa [h.same.1] at this), g.same.1.trans h.same.1, g.same.2.1.trans h.same.2.1, g.same.2.2.trans h.same.2.2⟩
theorem RR_other {l : List (List UInt8)} {k : UInt8} {d : List UInt8} (hk : k ≠ 109) : RR (l ++ [k :: d]) = ((RR l).1, replayP (RR l).2 (k :: d)) := by
  rw [RR_snoc]; unfold replayR; simp only; rw [if_neg (fun h => hk h.1)]
theorem Applied.more {n m : NodeS} {s : StD} {vals : List (List UInt8)} {l : List (List UInt8)} (h : Applied n s (RR l).2.known vals) (k : List (List UInt8)) (h1 : m.applied = n.applied) (h2 : m.loc = n.loc) (h3 : m.version = n.version) (h4 : m.bad = n.bad) : Applied m s (RR (l ++ k)).2.known vals :=
  ⟨h.1.trans h1.symm, by rw [h2, h3, h4]; exact h.2.1, fun j x hj => (RR_keeps l k).2.1 _ _ (h.2.2 j x hj)⟩
theorem NInv.same {s : StD} {n m : NodeS} {l : List (List UInt8)} (h : NInv s n l) (hs : SameN n m) (h1 : m.applied = n.applied) (h2 : m.loc = n.loc) : NInv s m l := by
  obtain ⟨vals, hv⟩ := h.loc
  refine ⟨by rw [hs.store]; exact h.kept, fun hd => ?_, by rw [hs.acc]; exact h.acc, vals, ?_⟩
  · rw [hs.store, hs.acc, hs.pax]; exact h.up (by rw [← hs.down]; exact hd)
  · exact ⟨hv.1.trans h1.symm, by rw [h2, hs.version, hs.bad]; exact hv.2.1, hv.2.2⟩
/-- A record of the part in decisions is kept, or the node is down. -/
theorem keep_part {s : StD} {n : NodeS} {l : List (List UInt8)} (h : NInv s n l) (hd : n.down = false) (p : PaxS) (k : UInt8) (d : List UInt8) (hk : k ≠ 109) (hp : p = replayP n.pax (k :: d)) :
    ∃ l', NStep s n l (keepN { n with pax := p } true (k :: d)).1 l' ∧ ((keepN { n with pax := p } true (k :: d)).2 = 0 → l' = l ++ [k :: d] ∧ (keepN { n with pax := p } true (k :: d)).1.down = false) ∧ ((keepN { n with pax := p } true (k :: d)).2 ≠ 0 → (keepN { n with pax := p } true (k :: d)).1.down = true) := by
  obtain ⟨hc, ha, hx⟩ := h.up hd
  obtain ⟨vals, hv⟩ := h.loc
  have hRR := RR_other (l := l) (d := d) hk
  unfold keepN
  simp only
  rcases write_kept h.kept (k :: d) with ⟨h1, -, h3, h4⟩ | ⟨h1, h2, h3⟩ | ⟨h1, h2⟩
  · refine ⟨l ++ [k :: d], ⟨⟨h4, fun _ => ⟨h3, ?_, ?_⟩, ?_, vals, hv.more _ rfl rfl rfl rfl⟩, List.prefix_append _ _, List.prefix_refl _, List.prefix_refl _, (fun x => by rw [hRR]; exact x), rfl, rfl, rfl⟩, fun _ => ⟨rfl, ?_⟩, fun h => absurd h1 h⟩
    · show n.acc = _; rw [hRR]; exact ha
    · show p = _; rw [hRR, hp, hx]
    · show n.acc <+: _; rw [hRR]; exact h.acc
    · rw [h1, hd]; rfl
  · have hdn : (n.down || decide ((writeP n.store (k :: d)).2 = 31) || (true && decide ((writeP n.store (k :: d)).2 ≠ 0))) = true := by rw [h1]; simp
    have hup : ∀ l'', ((n.down || decide ((writeP n.store (k :: d)).2 = 31) || (true && decide ((writeP n.store (k :: d)).2 ≠ 0))) = false → (writeP n.store (k :: d)).1.crashed = false ∧ n.acc = (RR l'').1 ∧ p = (RR l'').2) := fun l'' h => by rw [hdn] at h; cases h
    rcases h3 with h3 | h3
    · exact ⟨l, ⟨⟨h3, hup l, h.acc, vals, hv⟩, List.prefix_refl _, List.prefix_refl _, List.prefix_refl _, (fun h => h), rfl, rfl, rfl⟩, fun h => by rw [h1] at h; simp at h, fun _ => hdn⟩
    · refine ⟨l ++ [k :: d], ⟨⟨h3, hup _, ?_, vals, hv.more _ rfl rfl rfl rfl⟩, List.prefix_append _ _, List.prefix_refl _, List.prefix_refl _, (fun x => by rw [hRR]; exact x), rfl, rfl, rfl⟩, fun h => by rw [h1] at h; simp at h, fun _ => hdn⟩
      show n.acc <+: _; rw [hRR]; exact h.acc
  · have hdn : (n.down || decide ((writeP n.store (k :: d)).2 = 31) || (true && decide ((writeP n.store (k :: d)).2 ≠ 0))) = true := by rw [h1]; simp
    refine ⟨l, ⟨⟨by show Kept (writeP n.store (k :: d)).1 l; rw [h2]; exact h.kept, fun h => ?_, h.acc, vals, hv⟩, List.prefix_refl _, List.prefix_refl _, List.prefix_refl _, (fun h => h), rfl, rfl, rfl⟩, fun h => by rw [h1] at h; simp at h, fun _ => hdn⟩
    have h' : (n.down || decide ((writeP n.store (k :: d)).2 = 31) || (true && decide ((writeP n.store (k :: d)).2 ≠ 0))) = false := h
    rw [hdn] at h'; cases h'
theorem promise_step {s : StD} {n : NodeS} {l : List (List UInt8)} (h : NInv s n l) (i : Int) (b : Nat) (hb : b < 18446744073709551616) : ∃ l', NStep s n l (promiseN n i b).1 l' ∧ ((promiseN n i b).2.2 = 0 → b ≤ (voteAt (RR l').2 i).1) := by
  unfold promiseN
  by_cases hd : n.down = false
  · rw [if_neg (by rw [hd]; simp)]
    by_cases he : (promiseP n.pax i b).2.2.2 ≠ 0
    · rw [if_pos he]; exact ⟨l, NStep.refl h, fun h => absurd h he⟩
    · rw [if_neg he]
      obtain ⟨h1, h2, h3, h4, h5, h6⟩ := promise_again hb (Decidable.not_not.1 he)
      have hrec : (promiseP n.pax i b).2.2.1 = 112 :: (le4 (i.toNat % 4294967296) ++ le8 b) := by rw [h2]; rfl
      obtain ⟨l', k1, k2, k3⟩ := keep_part h hd (promiseP n.pax i b).1 112 (le4 (i.toNat % 4294967296) ++ le8 b) (by decide) (by rw [← hrec]; exact h1.symm)
      rw [← hrec] at k1 k2 k3
      split
      · rename_i hq; exact ⟨l', k1, fun h => absurd h hq⟩
      · rename_i hq
        refine ⟨l', k1, fun _ => ?_⟩
        have hq' := k2 (Decidable.not_not.1 hq)
        have hp := (k1.inv.up hq'.2).2.2
        have hp' : (promiseP n.pax i b).1 = (RR l').2 := hp
        rw [← hp', h6]
        show b ≤ ((look i (put i _ n.pax.votes)).getD (0, 0, [])).1
        rw [look_put, if_pos rfl]
        exact Nat.le_refl _
  · rw [if_pos (by simpa using hd)]
    exact ⟨l, NStep.refl h, fun h => by simp at h⟩
theorem cast_step {s : StD} {n : NodeS} {l : List (List UInt8)} (h : NInv s n l) (i : Int) (b : Nat) (x : List UInt8) (hb : b < 18446744073709551616) : ∃ l', NStep s n l (castN n i b x).1 l' := by
  unfold castN
  by_cases hd : n.down = false
  · rw [if_neg (by rw [hd]; simp)]
    by_cases he : (castP n.pax i b x).2.2 ≠ 0
    · rw [if_pos he]; exact ⟨l, NStep.refl h⟩
    · rw [if_neg he]
      obtain ⟨h1, -, -, -, -, -, h2⟩ := cast_again hb (Decidable.not_not.1 he)
      have hrec : (castP n.pax i b x).2.1 = 118 :: (le4 (i.toNat % 4294967296) ++ (le8 b ++ x)) := by rw [h2]; rfl
      obtain ⟨l', k1, -, -⟩ := keep_part h hd (castP n.pax i b x).1 118 (le4 (i.toNat % 4294967296) ++ (le8 b ++ x)) (by decide) (by rw [← hrec]; exact h1.symm)
      rw [← hrec] at k1
      exact ⟨l', k1⟩
  · rw [if_pos (by simpa using hd)]
    exact ⟨l, NStep.refl h⟩
/-- Applying, behind what was kept. -/
theorem apply_step {s : StD} {n : NodeS} {l : List (List UInt8)} (h : NInv s n l) (hd : n.down = false) (k : Nat) : NStep s n l (applyN k n).1 l := by
  obtain ⟨hc, ha, hx⟩ := h.up hd
  obtain ⟨vals, hv⟩ := h.loc
  have hv' : Applied n s n.pax.known vals := by rw [hx]; exact hv
  obtain ⟨hs, more, h1, -⟩ := apply_far s k n vals hv'
  rw [hx] at h1
  refine ⟨⟨by rw [hs.store]; exact h.kept, fun _ => by rw [hs.store, hs.acc, hs.pax]; exact ⟨hc, ha, hx⟩, by rw [hs.acc]; exact h.acc, _, h1⟩, List.prefix_refl _, by rw [hs.acc]; exact List.prefix_refl _, ?_, fun h => h, hs.id, hs.version, hs.bad⟩
  rw [h1.2.1, hv.2.1, hs.version, hs.bad]
  exact locOf_log _ _ _ _ _
theorem learn_step {s : StD} {n : NodeS} {l : List (List UInt8)} (h : NInv s n l) (i : Int) (x : List UInt8) : ∃ l', NStep s n l (learnN n i x).1 l' := by
  unfold learnN
  by_cases hd : n.down = false
  · rw [if_neg (by rw [hd]; simp)]
    by_cases he : (learnP n.pax i x).2.2 ≠ 0
    · rw [if_pos he]; exact ⟨l, NStep.refl h⟩
    · rw [if_neg he]
      by_cases hr : (learnP n.pax i x).2.1 = []
      · rw [if_pos hr]
        have hsame : (learnP n.pax i x).1 = n.pax := learn_none (.inr hr)
        rw [hsame]
        exact ⟨l, apply_step h hd _⟩
      · rw [if_neg hr]
        obtain ⟨h1, -, -, -, -, -, h2⟩ := learn_again (Decidable.not_not.1 he) hr
        have hrec : (learnP n.pax i x).2.1 = 100 :: (le4 (i.toNat % 4294967296) ++ x) := by rw [h2]; rfl
        obtain ⟨l', k1, k2, k3⟩ := keep_part h hd (learnP n.pax i x).1 100 (le4 (i.toNat % 4294967296) ++ x) (by decide) (by rw [← hrec]; exact h1.symm)
        rw [← hrec] at k1 k2 k3
        generalize keepN { n with pax := (learnP n.pax i x).1 } true (learnP n.pax i x).2.1 = q at *
        by_cases hq : q.2 ≠ 0
        · exact ⟨l', by simp only [if_pos hq]; exact k1⟩
        · have hq' := k2 (Decidable.not_not.1 hq)
          exact ⟨l', by simp only [if_neg hq]; exact k1.trans (apply_step k1.inv hq'.2 _)⟩
  · rw [if_pos (by simpa using hd)]
    exact ⟨l, NStep.refl h⟩
end Go.Proofs.YtaopeioebpfdeaaGreatDoor
namespace Go.Proofs.YtaopeioebpfdeaaGreatDoor
open Go

theorem replay_msg {m : MsgD} (h : rightM m = true) (q : List MsgD × PaxS) : replayR q ([109] ++ (packP [m]).1) = (q.1 ++ [m], q.2) := by
  have hp := pack_one h
  have hu := unpack_pack (l := [m]) (by rw [hp])
  show replayR q (109 :: (packP [m]).1) = _
  unfold replayR
  simp only
  rw [hu, if_pos (by simp)]
theorem broadcast_step {s : StD} {n : NodeS} {l : List (List UInt8)} (h : NInv s n l) (d : List UInt8) :
    ∃ l', NStep s n l (broadcastN n d).1 l' ∧ ((broadcastN n d).2.2 = 0 → (broadcastN n d).2.1.1 = (n.id, n.acc.length + 1) ∧ (broadcastN n d).1.acc = n.acc ++ [(broadcastN n d).2.1] ∧ n.down = false) := by
  unfold broadcastN
  by_cases hd : n.down = false
  · rw [if_neg (by rw [hd]; simp)]
    obtain ⟨hc, ha, hx⟩ := h.up hd
    obtain ⟨vals, hv⟩ := h.loc
    by_cases hr : rightM ((n.id, n.acc.length + 1), d) = false
    · rw [if_pos hr]; exact ⟨l, NStep.refl h, fun h => by simp at h⟩
    · rw [if_neg hr]
      have hr' : rightM ((n.id, n.acc.length + 1), d) = true := by simpa using hr
      have hrep := replay_msg hr' (RR l)
      generalize hmm : ((n.id, n.acc.length + 1), d) = m at *
      generalize [109] ++ (packP [m]).1 = rec at *
      have hRR : RR (l ++ [rec]) = ((RR l).1 ++ [m], (RR l).2) := by rw [RR_snoc]; exact hrep
      have hids : IdsOk n.id (RR l).1 → IdsOk n.id (RR (l ++ [rec])).1 := fun x j y hj => by
        rw [hRR] at hj
        have hj' : ((RR l).1 ++ [m])[j]? = some y := hj
        rcases Nat.lt_or_ge j (RR l).1.length with hlt | hge
        · rw [List.getElem?_append_left hlt] at hj'; exact x j y hj'
        · rw [List.getElem?_append_right hge] at hj'
          have hj2 : j = (RR l).1.length := by
            have := (List.getElem?_eq_some_iff.1 hj').1
            simp at this; omega
          subst hj2
          simp at hj'
          rw [← hj', ← hmm, ha]
      unfold keepN
      simp only [Bool.false_and, Bool.or_false]
      rcases write_kept h.kept rec with ⟨h1, -, h3, h4⟩ | ⟨h1, h2, h3⟩ | ⟨h1, h2⟩
      · rw [if_neg (by rw [h1]; simp)]
        have ho := offer_same (n.acc.length + 1) { n with store := (writeP n.store rec).1, down := n.down || decide ((writeP n.store rec).2 = 31), acc := n.acc ++ [m] }
        have hdn : (n.down || decide ((writeP n.store rec).2 = 31)) = false := by rw [h1, hd]; rfl
        have hinv : NInv s { n with store := (writeP n.store rec).1, down := n.down || decide ((writeP n.store rec).2 = 31), acc := n.acc ++ [m] } (l ++ [rec]) :=
          ⟨h4, fun _ => ⟨h3, by show n.acc ++ [m] = _; rw [hRR, ha], by show n.pax = _; rw [hRR, hx]⟩, by show n.acc ++ [m] <+: _; rw [hRR, ha]; exact List.prefix_refl _, vals, hv.more _ rfl rfl rfl rfl⟩
        refine ⟨l ++ [rec], ⟨hinv.same ho.1 ho.2.2 ho.2.1, List.prefix_append _ _, ?_, ?_, hids, ho.1.id, ho.1.version, ho.1.bad⟩, fun _ => ⟨?_, ho.1.acc, hd⟩⟩
        · rw [ho.1.acc]; exact List.prefix_append _ _
        · rw [ho.2.1]; exact List.prefix_refl _
        · show m.1 = _; rw [← hmm]
      · rw [if_pos (by rw [h1]; simp)]
        have hdn : (n.down || decide ((writeP n.store rec).2 = 31)) = true := by rw [h1]; simp
        have hup : ∀ l'', ((n.down || decide ((writeP n.store rec).2 = 31)) = false → (writeP n.store rec).1.crashed = false ∧ n.acc = (RR l'').1 ∧ n.pax = (RR l'').2) := fun l'' h => by rw [hdn] at h; cases h
        rcases h3 with h3 | h3
        · exact ⟨l, ⟨⟨h3, hup l, h.acc, vals, hv⟩, List.prefix_refl _, List.prefix_refl _, List.prefix_refl _, (fun h => h), rfl, rfl, rfl⟩, fun h => by rw [h1] at h; simp at h⟩
        · refine ⟨l ++ [rec], ⟨⟨h3, hup _, ?_, vals, hv.more _ rfl rfl rfl rfl⟩, List.prefix_append _ _, List.prefix_refl _, List.prefix_refl _, hids, rfl, rfl, rfl⟩, fun h => by rw [h1] at h; simp at h⟩
          show n.acc <+: _; rw [hRR]; exact h.acc.trans (List.prefix_append _ _)
      · rw [if_pos (by rw [h1]; simp)]
        have hdn : (n.down || decide ((writeP n.store rec).2 = 31)) = n.down := by rw [h1]; simp
        refine ⟨l, ⟨⟨by show Kept (writeP n.store rec).1 l; rw [h2]; exact h.kept, fun _ => ?_, h.acc, vals, hv⟩, List.prefix_refl _, List.prefix_refl _, List.prefix_refl _, (fun h => h), rfl, rfl, rfl⟩, fun h => by rw [h1] at h; simp at h⟩
        show (writeP n.store rec).1.crashed = false ∧ _; rw [h2]; exact ⟨hc, ha, hx⟩
  · rw [if_pos (by simpa using hd)]
    exact ⟨l, NStep.refl h, fun h => by simp at h⟩
theorem want_step {s : StD} {n : NodeS} {l : List (List UInt8)} (h : NInv s n l) (v : Int) : NStep s n l (wantN n v).1 l := by
  unfold wantN
  split
  · exact NStep.refl h
  · split
    · exact NStep.refl h
    · exact ⟨h.same ⟨rfl, rfl, rfl, rfl, rfl, rfl, rfl⟩ rfl rfl, List.prefix_refl _, List.prefix_refl _, List.prefix_refl _, (fun h => h), rfl, rfl, rfl⟩
theorem cut_step {s : StD} {n : NodeS} {l : List (List UInt8)} (h : NInv s n l) (k : Int) : NStep s n l (cutN n k).1 l := by
  unfold cutN
  split
  · exact NStep.refl h
  · have hk := cut_kept h.kept k
    obtain ⟨vals, hv⟩ := h.loc
    exact ⟨⟨hk.1, fun hd => ⟨hk.2.trans (h.up hd).1, (h.up hd).2⟩, h.acc, vals, hv⟩, List.prefix_refl _, List.prefix_refl _, List.prefix_refl _, (fun h => h), rfl, rfl, rfl⟩
theorem crash_step {s : StD} {n : NodeS} {l : List (List UInt8)} (h : NInv s n l) : NStep s n l (crashN n).1 l := by
  unfold crashN
  split
  · exact NStep.refl h
  · obtain ⟨vals, hv⟩ := h.loc
    exact ⟨⟨h.kept, (fun hd => absurd hd (by simp)), h.acc, vals, hv⟩, List.prefix_refl _, List.prefix_refl _, List.prefix_refl _, (fun h => h), rfl, rfl, rfl⟩
theorem chain_prefix {known : List (Int × List UInt8)} (hk : KnownOk known) {a b : List (List UInt8)} (ha : ∀ (j : Nat) (x : List UInt8), a[j]? = some x → look ((j : Int) + 1) known = some x) (hb : ∀ (j : Nat) (x : List UInt8), b[j]? = some x → look ((j : Int) + 1) known = some x)
    (he : look ((b.length : Int) + 1) known = none ∨ b.length = 10001) : a <+: b := by
  have hlen : a.length ≤ b.length := by
    rcases Nat.lt_or_ge b.length a.length with h | h
    · exfalso
      obtain ⟨x, hx⟩ : ∃ x, a[b.length]? = some x := ⟨_, List.getElem?_eq_getElem h⟩
      have h1 := ha _ _ hx
      rcases he with he | he
      · rw [he] at h1; cases h1
      · have := hk _ _ h1; omega
    · exact h
  rw [List.prefix_iff_eq_take]
  apply List.ext_getElem?
  intro j
  rw [List.getElem?_take]
  split
  · rename_i hj
    obtain ⟨x, hx⟩ : ∃ x, a[j]? = some x := ⟨_, List.getElem?_eq_getElem hj⟩
    obtain ⟨y, hy⟩ : ∃ y, b[j]? = some y := ⟨_, List.getElem?_eq_getElem (by omega)⟩
    have h1 := ha _ _ hx
    have h2 := hb _ _ hy
    rw [h1] at h2; cases h2
    rw [hx, hy]
  · rename_i hj; rw [List.getElem?_eq_none (by omega)]
theorem recover_step {s : StD} {n : NodeS} {l : List (List UInt8)} (h : NInv s n l) : NStep s n l (recoverN n s) l ∧ (recoverN n s).down = false := by
  obtain ⟨r1, r2, r3⟩ := recover_kept h.kept
  obtain ⟨vals, hv⟩ := h.loc
  unfold recoverN
  simp only
  rw [r1, foldN_R]
  generalize hm : ({ beginN { n with store := (recoverS n.store).1 } s with acc := (l.foldl replayR ((beginN { n with store := (recoverS n.store).1 } s).acc, (beginN { n with store := (recoverS n.store).1 } s).pax)).1, pax := (l.foldl replayR ((beginN { n with store := (recoverS n.store).1 } s).acc, (beginN { n with store := (recoverS n.store).1 } s).pax)).2 } : NodeS) = m
  have m1 : m.acc = (RR l).1 := by rw [← hm]; rfl
  have m2 : m.pax = (RR l).2 := by rw [← hm]; rfl
  have m3 : m.store = (recoverS n.store).1 := by rw [← hm]; rfl
  have m4 : m.id = n.id ∧ m.version = n.version ∧ m.bad = n.bad := by rw [← hm]; exact ⟨rfl, rfl, rfl⟩
  have hA : Applied m s m.pax.known [] := ⟨by rw [← hm]; rfl, by rw [← hm]; rfl, fun j x hj => by simp at hj⟩
  obtain ⟨hs, more, h1, h2⟩ := apply_far s 10001 m [] hA
  rw [List.nil_append] at h1 h2
  rw [m2] at h1 h2
  have ho := offer_same ((applyN 10001 m).1.acc.length + 1) (applyN 10001 m).1
  generalize offerN ((applyN 10001 m).1.acc.length + 1) (applyN 10001 m).1 = q at *
  have hq : SameN m q := hs.trans ho.1
  have hAq : Applied q s (RR l).2.known more := ⟨h1.1.trans ho.2.2.symm, by rw [ho.2.1, h1.2.1, ho.1.version, ho.1.bad], h1.2.2⟩
  have hpre := chain_prefix (RR_known l) hv.2.2 h1.2.2 h2
  refine ⟨⟨⟨by show Kept q.store l; rw [hq.store, m3]; exact r2, fun _ => ⟨by show q.store.crashed = false; rw [hq.store, m3]; exact r3, by show q.acc = _; rw [hq.acc, m1], by show q.pax = _; rw [hq.pax, m2]⟩, by show q.acc <+: _; rw [hq.acc, m1]; exact List.prefix_refl _, more, hAq⟩, List.prefix_refl _, ?_, ?_, (fun h => h), hq.id.trans m4.1, hq.version.trans m4.2.1, hq.bad.trans m4.2.2⟩, by first | exact rfl | exact trivial⟩
  · show n.acc <+: q.acc; rw [hq.acc, m1]; exact h.acc
  · show n.loc.log <+: q.loc.log
    rw [hAq.2.1, hv.2.1, hq.version, hq.bad, m4.2.1, m4.2.2]
    obtain ⟨t, ht⟩ := hpre
    rw [← ht]
    exact locOf_log _ _ _ _ _

/-- An act: what is done, an instance, a ballot, bytes. -/
structure ActD where
  what : Int
  inst : Int
  b : Nat
  s : List UInt8
def textD (x : ActD) : List UInt8 := if x.b = 77 then List.replicate 1100 0 else x.s.take 300
def kindD (x : ActD) : Nat := (x.what % 18446744073709551616).toNat % 9
def doesN (s : StD) (n : NodeS) (x : ActD) : NodeS :=
  if kindD x = 0 then (broadcastN n (textD x)).1
  else if kindD x = 1 then (promiseN n x.inst x.b).1
  else if kindD x = 2 then (castN n x.inst x.b (textD x)).1
  else if kindD x = 3 then (learnN n x.inst (textD x)).1
  else if kindD x = 4 then (wantN n x.inst).1
  else if kindD x = 5 then (cutN n x.inst).1
  else if kindD x = 6 then (crashN n).1
  else if kindD x = 7 then recoverN n s
  else if (proposalN n).2 then (learnN n (nextN n) (proposalN n).1).1 else n
theorem does_step {s : StD} {n : NodeS} {l : List (List UInt8)} (h : NInv s n l) (x : ActD) (hb : x.b < 18446744073709551616) : ∃ l', NStep s n l (doesN s n x) l' := by
  unfold doesN
  split
  · obtain ⟨l', h1, -⟩ := broadcast_step h (textD x); exact ⟨l', h1⟩
  split
  · obtain ⟨l', h1, -⟩ := promise_step h x.inst x.b hb; exact ⟨l', h1⟩
  split
  · exact cast_step h x.inst x.b (textD x) hb
  split
  · exact learn_step h x.inst (textD x)
  split
  · exact ⟨l, want_step h _⟩
  split
  · exact ⟨l, cut_step h _⟩
  split
  · exact ⟨l, crash_step h⟩
  split
  · exact ⟨l, (recover_step h).1⟩
  split
  · exact learn_step h _ _
  · exact ⟨l, NStep.refl h⟩
def runN (s : StD) (n : NodeS) (xs : List ActD) : NodeS := xs.foldl (doesN s) n
theorem run_step {s : StD} {n : NodeS} {l : List (List UInt8)} (h : NInv s n l) : ∀ (xs : List ActD), (∀ x ∈ xs, x.b < 18446744073709551616) → ∃ l', NStep s n l (runN s n xs) l'
  | [], _ => ⟨l, NStep.refl h⟩
  | x :: xs, hb => by
    obtain ⟨l1, h1⟩ := does_step h x (hb x (List.mem_cons_self ..))
    obtain ⟨l2, h2⟩ := run_step h1.inv xs (fun y hy => hb y (List.mem_cons_of_mem _ hy))
    exact ⟨l2, h1.trans h2⟩
/-- A node that has done nothing. -/
def newN (id v cap : Int) (bad : List Int) (s : StD) : NodeS := { id := id, version := v, bad := bad, store := newStore cap, pax := newPax, loc := newL v s, pool := newPool, acc := [], offered := 0, applied := 0, wanted := 0, down := false }
theorem newN_inv (id v cap : Int) (bad : List Int) (s : StD) : NInv s (newN id v cap bad s) [] := ⟨newStore_kept cap, fun _ => ⟨rfl, rfl, rfl⟩, List.prefix_refl _, [], rfl, rfl, fun j x hj => by simp at hj⟩
/-- VOTES: a promise that was told is kept. -/
theorem votes_law {s : StD} {n : NodeS} (h : NInv s n []) {i : Int} {b less : Nat} (hb : b < 18446744073709551616) (hp : (promiseN n i b).2.2 = 0) (hl : less < b) (_hl2 : 0 ≤ less) (xs : List ActD) (hx : ∀ x ∈ xs, x.b < 18446744073709551616) (v : List UInt8) :
    (promiseN (recoverN (runN s (promiseN n i b).1 xs) s) i less).2.2 ≠ 0 ∧ (promiseN (recoverN (runN s (promiseN n i b).1 xs) s) i less).1 = recoverN (runN s (promiseN n i b).1 xs) s ∧ (castN (recoverN (runN s (promiseN n i b).1 xs) s) i less v).2 ≠ 0 := by
  obtain ⟨l1, h1, hv⟩ := promise_step h i b hb
  obtain ⟨l2, h2⟩ := run_step h1.inv xs hx
  obtain ⟨h3, hd⟩ := recover_step h2.inv
  have hv1 := hv hp
  obtain ⟨m, hm⟩ := h2.recs
  have hup := (h3.inv.up hd).2.2
  have hvote : b ≤ (voteAt (recoverN (runN s (promiseN n i b).1 xs) s).pax i).1 := by
    rw [hup, ← hm]
    exact Nat.le_trans hv1 ((RR_keeps l1 m).2.2 i)
  generalize recoverN (runN s (promiseN n i b).1 xs) s = q at *
  have e1 : (promiseP q.pax i less).2.2.2 ≠ 0 := by
    unfold promiseP
    split
    · simp
    · have : (promiseV (voteAt q.pax i) less).2 ≠ 0 := by
        unfold promiseV
        split
        · simp
        · rw [if_pos (by omega)]; simp
      rw [if_pos this]; exact this
  have e2 : (castP q.pax i less v).2.2 ≠ 0 := by
    unfold castP
    split
    · simp
    · have : (castV (voteAt q.pax i) less v).2 ≠ 0 := by
        unfold castV
        split
        · simp
        · rw [if_pos (by omega)]; simp
      rw [if_pos this]; exact this
  have hn : ¬ q.down = true := by rw [hd]; simp
  refine ⟨?_, ?_, ?_⟩
  · unfold promiseN; rw [if_neg hn, if_pos e1]; exact e1
  · unfold promiseN; rw [if_neg hn, if_pos e1]
  · unfold castN; rw [if_neg hn, if_pos e2]; exact e2
theorem newN_ids (id : Int) : IdsOk id (RR []).1 := fun j m h => by simp [RR, newPax] at h
/-- COUNTS: of what a node that is up has accepted. -/
theorem counts_law {s : StD} {n : NodeS} {l : List (List UInt8)} (h : NInv s n l) (hi : IdsOk n.id (RR l).1) : IdsOk n.id n.acc := fun j m hj => by
  obtain ⟨t, ht⟩ := h.acc
  refine hi j m ?_
  rw [← ht, List.getElem?_append_left (List.getElem?_eq_some_iff.1 hj).1]
  exact hj
end Go.Proofs.YtaopeioebpfdeaaGreatDoor
