/- MAPS AS LISTS OF PAIRS: what a look-up, a store and a deletion do to a map whose entries are known as a list of keys and values. 'KeyLaw': what a key's type must give. No condition. -/
import Derived.Test.YtlfledeldhhllaaGreatDoorLib
namespace Go.Proofs.YtlfledeldhhllaaGreatDoor
open Go Go.RowKit

/-- WHAT A KEY's TYPE MUST GIVE. -/
structure KeyLaw (P : Program) (kt : TypeId) {K : Type} [DecidableEq K] (enc : K → Value) : Prop where
  eq : ∀ (k k' : K) (w : World), (Op.equal kt (enc k) (enc k')).run P w = .ok (decide (k = k')) w
  chk : ∀ (b : Bool) (k : K) (w : World), (Instr.checkKey b 10000 kt (enc k)).run P w = .ok () w
  bits : ∀ k : K, Instr.sameBits 10000 (enc k) (enc k) = true
  now : ∃ u, P.underlying kt = some u ∧ ∀ k k' : K, Instr.sameNow u (enc k) (enc k') = none ∨ Instr.sameNow u (enc k) (enc k') = some (decide (k = k'))

section
variable {P : Program} {kt : TypeId} {K : Type} [DecidableEq K] {enc : K → Value}

/-- The place and the value of a key. -/
def lookIdx {V : Type} (k : K) : List (K × V) → Nat → Option (Nat × V)
  | [], _ => none
  | (k', v) :: l, i => if k = k' then some (i, v) else lookIdx k l (i + 1)
/-- The value of a key. -/
def look {V : Type} (k : K) : List (K × V) → Option V
  | [] => none
  | (k', v) :: l => if k = k' then some v else look k l
theorem lookIdx_look {V : Type} (k : K) : ∀ (l : List (K × V)) (i : Nat), (lookIdx k l i).map (·.2) = look k l
  | [], _ => rfl
  | (k', v) :: l, i => by
    unfold lookIdx look
    split
    · rfl
    · exact lookIdx_look k l (i + 1)
theorem look_map {V U : Type} (f : V → U) (k : K) : ∀ l : List (K × V), look k (l.map fun p => (p.1, f p.2)) = (look k l).map f
  | [] => rfl
  | (k', v) :: l => by
    have ih := look_map f k l
    rw [List.map_cons]
    by_cases h : k = k'
    · simp [look, h]
    · simp [look, h, ih]
/-- The entries bear these keys and values. -/
def Bears (enc : K → Value) (es : List MapEntry) (l : List (K × Value)) : Prop := es.map (fun e => (e.key, e.val)) = l.map (fun p => (enc p.1, p.2))
omit [DecidableEq K] in
theorem Bears.nil : Bears enc [] [] := rfl
omit [DecidableEq K] in
theorem Bears.cons {e : MapEntry} {es : List MapEntry} {p : K × Value} {l : List (K × Value)} : Bears enc (e :: es) (p :: l) ↔ (e.key = enc p.1 ∧ e.val = p.2) ∧ Bears enc es l := by
  simp [Bears]

theorem findNow_bears (L : KeyLaw P kt enc) {u : TypeDesc} (hu : P.underlying kt = some u) (k : K) : ∀ (es : List MapEntry) (l : List (K × Value)) (i : Nat), Bears enc es l →
    Instr.findNow u (enc k) es i = none ∨ Instr.findNow u (enc k) es i = some (lookIdx k l i)
  | [], [], i, _ => .inr rfl
  | [], p :: l, i, h => by simp [Bears] at h
  | e :: es, [], i, h => by simp [Bears] at h
  | e :: es, (k', v) :: l, i, h => by
    obtain ⟨⟨hk, hv⟩, h'⟩ := Bears.cons.1 h
    obtain ⟨u', hu', hs⟩ := L.now
    obtain rfl : u' = u := Option.some.inj (hu'.symm.trans hu)
    have ih := findNow_bears L hu k es l (i + 1) h'
    simp only [Instr.findNow, hk, lookIdx]
    rcases hs k k' with h1 | h1
    · rw [h1]; exact .inl rfl
    · rw [h1]
      by_cases hkk : k = k'
      · rw [if_pos hkk]; simp [hkk]; exact hv
      · rw [if_neg hkk]; simp only [hkk, decide_false]; exact ih
theorem findAsking_bears (L : KeyLaw P kt enc) (k : K) (w : World) : ∀ (es : List MapEntry) (l : List (K × Value)) (i : Nat), Bears enc es l →
    (Instr.findAsking kt (enc k) es i).run P w = .ok (lookIdx k l i) w
  | [], [], i, _ => by simp [Instr.findAsking, lookIdx, Sem.run_pure]
  | [], p :: l, i, h => by simp [Bears] at h
  | e :: es, [], i, h => by simp [Bears] at h
  | e :: es, (k', v) :: l, i, h => by
    obtain ⟨⟨hk, hv⟩, h'⟩ := Bears.cons.1 h
    have ih := findAsking_bears L k w es l (i + 1) h'
    simp only [Instr.findAsking, hk, lookIdx, Sem.run_bind, L.eq, Result.andThen]
    by_cases hkk : k = k'
    · simp only at hv; simp [hkk, Sem.run_pure, hv]
    · simp [hkk, ih]
theorem findKey_bears (L : KeyLaw P kt enc) (k : K) (w : World) (es : List MapEntry) (l : List (K × Value)) (h : Bears enc es l) :
    (Instr.findKey kt (enc k) es).run P w = .ok (lookIdx k l 0) w := by
  obtain ⟨u, hu, _⟩ := L.now
  unfold Instr.findKey
  simp only [Sem.run_bind, run_underlying hu, Result.andThen]
  rcases findNow_bears L hu k es l 0 h with h1 | h1
  · rw [h1]; exact findAsking_bears L k w es l 0 h
  · rw [h1]; simp [Sem.run_pure]

theorem run_getObj_map {w : World} {b : Nat} {es : Array MapEntry} {c : Nat} (h : w.heap[b]? = some (.map es c)) : (getObj b).run P w = .ok (.map es c) w := by simp [getObj, Sem.run, h]
theorem run_setObj_map {w : World} {b : Nat} {es : Array MapEntry} {c : Nat} (o : Obj) (h : w.heap[b]? = some (.map es c)) : (setObj b o).run P w = .ok () (w.putObj b o) := by simp [setObj, Sem.run, h, World.putObj]

/-- Block b is a map that bears these keys and values; its stamps rise. -/
def MapAt (w : World) (b : Nat) (enc : K → Value) (l : List (K × Value)) : Prop :=
  ∃ es c, w.heap[b]? = some (.map es c) ∧ Bears enc es.toList l ∧ es.toList.Pairwise (fun x y => x.born < y.born) ∧ (∀ e ∈ es.toList, e.born < c)
omit [DecidableEq K] in
theorem MapAt.lt {w : World} {b : Nat} {l : List (K × Value)} (h : MapAt w b enc l) : b < w.heap.size := by
  obtain ⟨es, c, hb, _⟩ := h; exact (Array.getElem?_eq_some_iff.1 hb).1
omit [DecidableEq K] in
theorem MapAt.kept {w w' : World} {b : Nat} {l : List (K × Value)} (h : MapAt w b enc l) (hb : w'.heap[b]? = w.heap[b]?) : MapAt w' b enc l := by
  obtain ⟨es, c, h1, h2⟩ := h; exact ⟨es, c, hb.trans h1, h2⟩
omit [DecidableEq K] in
theorem MapAt.made (w : World) (enc : K → Value) : MapAt (w.alloc (.map #[] 0)) w.heap.size enc [] :=
  ⟨#[], 0, World.alloc_heap_new w _, rfl, by simp, by simp⟩
omit [DecidableEq K] in
/-- Keep the list, and the number of entries. -/
theorem MapAt.size {w : World} {b : Nat} {l : List (K × Value)} (h : MapAt w b enc l) : ∃ es c, w.heap[b]? = some (.map es c) ∧ es.size = l.length := by
  obtain ⟨es, c, h1, h2, _⟩ := h
  have := congrArg List.length h2
  simp at this
  exact ⟨es, c, h1, this⟩

/-- A look-up. -/
theorem MapAt.lookup {w : World} {b : Nat} {l : List (K × Value)} (h : MapAt w b enc l) (L : KeyLaw P kt enc) {mt et : TypeId} (hm : P.underlying mt = some (.map kt et)) {z : Value} (hz : (zeroValue et).run P w = .ok z w) (k : K) :
    (Instr.lookup mt (.map (some b)) (enc k) false).run P w = .ok ((look k l).getD z) w := by
  obtain ⟨es, c, hb, hB, _⟩ := h
  unfold Instr.lookup
  simp only [Sem.run_bind, run_underlying hm, Result.andThen, run_getObj_map hb, Sem.run_pure, L.chk, findKey_bears L k w _ _ hB]
  have hl := lookIdx_look k l 0
  cases hi : lookIdx k l 0 with
  | none => rw [hi] at hl; simp only [Option.map_none] at hl; rw [← hl]; simp [hz]
  | some p => rw [hi] at hl; simp only [Option.map_some] at hl; rw [← hl]; simp [Sem.run_pure]
theorem MapAt.lookup_ok {w : World} {b : Nat} {l : List (K × Value)} (h : MapAt w b enc l) (L : KeyLaw P kt enc) {mt et : TypeId} (hm : P.underlying mt = some (.map kt et)) {z : Value} (hz : (zeroValue et).run P w = .ok z w) (k : K) :
    (Instr.lookup mt (.map (some b)) (enc k) true).run P w = .ok (.tuple #[(look k l).getD z, .bool (look k l).isSome]) w := by
  obtain ⟨es, c, hb, hB, _⟩ := h
  unfold Instr.lookup
  simp only [Sem.run_bind, run_underlying hm, Result.andThen, run_getObj_map hb, Sem.run_pure, L.chk, findKey_bears L k w _ _ hB]
  have hl := lookIdx_look k l 0
  cases hi : lookIdx k l 0 with
  | none => rw [hi] at hl; simp only [Option.map_none] at hl; rw [← hl]; simp [hz, Result.andThen]
  | some p => rw [hi] at hl; simp only [Option.map_some] at hl; rw [← hl]; simp [Sem.run_pure]

/-- A store: the list behind it. -/
def put {V : Type} (k : K) (v : V) : List (K × V) → List (K × V)
  | [] => [(k, v)]
  | (k', v') :: l => if k = k' then (k, v) :: l else (k', v') :: put k v l
theorem put_none {k : K} {v : Value} : ∀ {l : List (K × Value)} {i : Nat}, lookIdx k l i = none → put k v l = l ++ [(k, v)]
  | [], _, _ => rfl
  | (k', v') :: l, i, h => by
    unfold lookIdx at h
    split at h
    · cases h
    · rename_i hk; unfold put; rw [if_neg hk, put_none h]; rfl
theorem bears_put_some {k : K} {v : Value} : ∀ {l : List (K × Value)} {es : List MapEntry} {i j : Nat} {v0 : Value}, lookIdx k l i = some (j, v0) → Bears enc es l →
    i ≤ j ∧ ((es[j - i]?).map (·.key)) = some (enc k) ∧ Bears enc (es.modify (j - i) fun e => { e with key := enc k, val := v }) (put k v l)
  | [], es, i, j, v0, h, _ => by cases h
  | (k', v') :: l, [], i, j, v0, h, hB => by simp [Bears] at hB
  | (k', v') :: l, e :: es, i, j, v0, h, hB => by
    obtain ⟨⟨h1, h2⟩, h3⟩ := Bears.cons.1 hB
    unfold lookIdx at h
    split at h
    · rename_i hk
      cases h
      unfold put
      rw [if_pos hk]
      refine ⟨Nat.le_refl _, ?_, ?_⟩
      · simp [h1, hk]
      · simp only [Nat.sub_self, List.modify_zero_cons]
        exact Bears.cons.2 ⟨⟨rfl, rfl⟩, h3⟩
    · rename_i hk
      obtain ⟨a, b, c⟩ := bears_put_some (v := v) h h3
      have hj : j - i = (j - (i + 1)) + 1 := by omega
      refine ⟨by omega, ?_, ?_⟩
      · rw [hj]; simpa using b
      · rw [hj, List.modify_succ_cons]
        unfold put
        rw [if_neg hk]
        exact Bears.cons.2 ⟨⟨h1, h2⟩, c⟩

theorem MapAt.update {w : World} {b : Nat} {l : List (K × Value)} (h : MapAt w b enc l) (L : KeyLaw P kt enc) {mt et : TypeId} (hm : P.underlying mt = some (.map kt et)) (k : K) (v : Value) :
    ∃ o, (Instr.mapUpdate mt (.map (some b)) (enc k) v).run P w = .ok () (w.putObj b o) ∧ MapAt (w.putObj b o) b enc (put k v l) := by
  have hlt := h.lt
  obtain ⟨es, c, hb, hB, hS, hC⟩ := h
  cases hi : lookIdx k l 0 with
  | none =>
    refine ⟨.map (es.push { key := enc k, val := v, born := c }) (c + 1), ?_, _, _, World.putObj_heap_same hlt, ?_, ?_, ?_⟩
    · unfold Instr.mapUpdate
      simp only [Sem.run_bind, run_underlying hm, Result.andThen, run_getObj_map hb, L.chk, findKey_bears L k w _ _ hB, hi, run_setObj_map _ hb]
    · rw [put_none hi]
      simp [Bears] at hB ⊢
      rw [hB]
    · simp [List.pairwise_append, hS]; exact fun e he => hC e (by simpa using he)
    · intro e he
      simp at he
      rcases he with he | rfl
      · have := hC e (by simpa using he); omega
      · simp
  | some p =>
    obtain ⟨j, v0⟩ := p
    obtain ⟨_, hkey, hBp⟩ := bears_put_some (v := v) hi hB
    simp only [Nat.sub_zero] at hkey hBp
    have hkey' : ((es[j]?).map (·.key)).getD (enc k) = enc k := by
      rw [show es[j]? = es.toList[j]? by simp, hkey]; rfl
    refine ⟨.map (es.modify j fun e => { e with key := enc k, val := v }) c, ?_, _, _, World.putObj_heap_same hlt, ?_, ?_, ?_⟩
    · unfold Instr.mapUpdate
      simp only [Sem.run_bind, run_underlying hm, Result.andThen, run_getObj_map hb, L.chk, findKey_bears L k w _ _ hB, hi, hkey', Instr.keyThatStays, L.bits, if_true, Sem.run_pure, run_setObj_map _ hb]
    · simpa using hBp
    · have : (es.modify j fun e => { e with key := enc k, val := v }).toList.map (·.born) = es.toList.map (·.born) := by
        simp only [Array.toList_modify]
        apply List.ext_getElem?
        intro n
        simp only [List.getElem?_map, List.getElem?_modify]
        by_cases hjn : j = n
        · subst hjn; cases es.toList[j]? <;> simp
        · simp [hjn]
      have h2 : (es.toList.map (·.born)).Pairwise (· < ·) := List.pairwise_map.2 hS
      rw [← this] at h2
      exact List.pairwise_map.1 h2
    · intro e he
      simp only [Array.toList_modify] at he
      obtain ⟨n, hn⟩ := List.mem_iff_getElem?.1 he
      rw [List.getElem?_modify] at hn
      cases he0 : es.toList[n]? with
      | none => rw [he0] at hn; simp at hn
      | some e0 =>
        rw [he0] at hn
        have h0 := hC e0 (List.mem_iff_getElem?.2 ⟨n, he0⟩)
        by_cases hjn : j = n
        · simp [hjn] at hn; rw [← hn]; exact h0
        · simp [hjn] at hn; rw [← hn]; exact h0

/-- A deletion: the list behind it. -/
def del {V : Type} (k : K) : List (K × V) → List (K × V)
  | [] => []
  | (k', v') :: l => if k = k' then l else (k', v') :: del k l
theorem del_none {k : K} : ∀ {l : List (K × Value)} {i : Nat}, lookIdx k l i = none → del k l = l
  | [], _, _ => rfl
  | (k', v') :: l, i, h => by
    unfold lookIdx at h
    split at h
    · cases h
    · rename_i hk; unfold del; rw [if_neg hk, del_none h]
theorem bears_del_some {k : K} : ∀ {l : List (K × Value)} {es : List MapEntry} {i j : Nat} {v0 : Value}, lookIdx k l i = some (j, v0) → Bears enc es l →
    i ≤ j ∧ j - i < es.length ∧ Bears enc (es.eraseIdx (j - i)) (del k l)
  | [], es, i, j, v0, h, _ => by cases h
  | (k', v') :: l, [], i, j, v0, h, hB => by simp [Bears] at hB
  | (k', v') :: l, e :: es, i, j, v0, h, hB => by
    obtain ⟨⟨h1, h2⟩, h3⟩ := Bears.cons.1 hB
    unfold lookIdx at h
    split at h
    · rename_i hk
      cases h
      unfold del
      rw [if_pos hk]
      exact ⟨Nat.le_refl _, by simp, by simpa using h3⟩
    · rename_i hk
      obtain ⟨a, b, c⟩ := bears_del_some h h3
      have hj : j - i = (j - (i + 1)) + 1 := by omega
      refine ⟨by omega, by simp; omega, ?_⟩
      rw [hj, List.eraseIdx_cons_succ]
      unfold del
      rw [if_neg hk]
      exact Bears.cons.2 ⟨⟨h1, h2⟩, c⟩
theorem MapAt.delete {w : World} {b : Nat} {l : List (K × Value)} (h : MapAt w b enc l) (L : KeyLaw P kt enc) {mt et : TypeId} (hm : P.underlying mt = some (.map kt et)) (ats : Array TypeId) (rt : TypeId) (hat : ats[0]? = some mt) (k : K) :
    ∃ o, (Builtin.delete_ ats rt #[.map (some b), enc k]).run P w = .ok (.tuple #[]) (w.putObj b o) ∧ MapAt (w.putObj b o) b enc (del k l) := by
  have hlt := h.lt
  obtain ⟨es, c, hb, hB, hS, hC⟩ := h
  cases hi : lookIdx k l 0 with
  | none =>
    refine ⟨.map es c, ?_, _, _, World.putObj_heap_same hlt, ?_, hS, hC⟩
    · unfold Builtin.delete_
      simp [hat, Sem.run_bind, run_underlying hm, Result.andThen, run_getObj_map hb, L.chk, findKey_bears L k w _ _ hB, hi, run_setObj_map _ hb]
    · rw [del_none hi]; exact hB
  | some p =>
    obtain ⟨j, v0⟩ := p
    obtain ⟨_, hj, hBp⟩ := bears_del_some hi hB
    simp only [Nat.sub_zero] at hj hBp
    have hlist : (es.eraseIdxIfInBounds j).toList = es.toList.eraseIdx j := by simp
    refine ⟨.map (es.eraseIdxIfInBounds j) c, ?_, _, _, World.putObj_heap_same hlt, ?_, ?_, ?_⟩
    · unfold Builtin.delete_
      simp [hat, Sem.run_bind, run_underlying hm, Result.andThen, run_getObj_map hb, L.chk, findKey_bears L k w _ _ hB, hi, run_setObj_map _ hb]
    · rw [hlist]; exact hBp
    · rw [hlist]; exact hS.sublist (List.eraseIdx_sublist _ _)
    · rw [hlist]; exact fun e he => hC e ((List.eraseIdx_sublist _ _).mem he)
theorem put_map {V U : Type} (f : V → U) (k : K) (v : V) : ∀ l : List (K × V), put k (f v) (l.map fun p => (p.1, f p.2)) = (put k v l).map fun p => (p.1, f p.2)
  | [] => rfl
  | (k', v') :: l => by
    have ih := put_map f k v l
    rw [List.map_cons]
    by_cases h : k = k'
    · simp [put, h]
    · simp [put, h, ih]
theorem del_map {V U : Type} (f : V → U) (k : K) : ∀ l : List (K × V), del k (l.map fun p => (p.1, f p.2)) = (del k l).map fun p => (p.1, f p.2)
  | [] => rfl
  | (k', v') :: l => by
    have ih := del_map f k l
    rw [List.map_cons]
    by_cases h : k = k'
    · simp [del, h]
    · simp [del, h, ih]
end
end Go.Proofs.YtlfledeldhhllaaGreatDoor
