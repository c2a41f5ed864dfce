/- PROVED HERE: WALKS: the registry's table of turns (a map of closures keyed by structs), and the iterator over a path of turns. No condition. WALK: registry.Migrate: a state, migrated. The premise: the registry's error variable holds its error. WALKS: registry.Migrate, its result written out; registry.Begin. The premise: the registry's error variable holds its error. -/
import Derived.Test.YtaopeioebpfdeaaGreatDoorK03
import Derived.Test.YtaopeioebpfdeaaGreatDoorK04
namespace Go.Proofs.YtaopeioebpfdeaaGreatDoor
open Go Go.RowKit Go.Shelf Go.Extern.Stop Go.Stop Go.Extern
attribute [local go_sem] Oper.semAt_some

/-- A turn as a key. -/
def encT (p : Int × Int) : Value := .agg #[.int .i64 p.1, .int .i64 p.2]
theorem turn_chk (n : Nat) (b : Bool) (x y : Int) (w : World) : (Instr.checkKey b (n + 1 + 1) 249 (.agg #[.int .i64 x, .int .i64 y])).run Tryz.prog w = .ok () w := by
  simp [Instr.checkKey, go_sem]
theorem turnKey : KeyLaw Tryz.prog 249 encT where
  eq := fun k k' w => by
    obtain ⟨a, b⟩ := k
    obtain ⟨c, d⟩ := k'
    have h : (Op.equal 249 (encT (a, b)) (encT (c, d))).run Tryz.prog w = (Op.equalIn 10000 249 (.agg #[.int .i64 a, .int .i64 b]) (.agg #[.int .i64 c, .int .i64 d])).run Tryz.prog w := rfl
    rw [h]
    simp [go_sem]
    by_cases h1 : a = c <;> by_cases h2 : b = d <;> simp [h1, h2]
  chk := fun b k w => turn_chk 9998 b k.1 k.2 w
  bits := fun k => by simp [encT, Instr.sameBits]
  now := ⟨_, Tryz.underlying249, fun k k' => by left; rfl⟩
/-- A map of turns into which only new keys were laid. -/
def tEs (l : List ((Int × Int) × Value)) : List MapEntry := l.zipIdx.map fun p => { key := encT p.1.1, val := p.1.2, born := p.2 }
def TMap (l : List ((Int × Int) × Value)) : Obj := .map (tEs l).toArray l.length
def tFree (x y : Int) : List ((Int × Int) × Value) → Bool
  | [] => true
  | ((a, b), _) :: l => !(a == x && b == y) && tFree x y l
theorem tEs_bears (l : List ((Int × Int) × Value)) : Bears encT (tEs l) l := by
  unfold Bears tEs
  rw [List.map_map]
  apply List.ext_getElem?
  intro n
  simp only [List.getElem?_map, List.getElem?_zipIdx]
  cases l[n]? <;> simp
theorem tEs_born (l : List ((Int × Int) × Value)) : (tEs l).map (·.born) = List.range l.length := by
  unfold tEs
  rw [List.map_map]
  have : (MapEntry.born ∘ fun p : ((Int × Int) × Value) × Nat => { key := encT p.1.1, val := p.1.2, born := p.2 }) = fun p => p.2 := rfl
  rw [this, List.zipIdx_map_snd, List.range_eq_range']
theorem TMap_nil : Obj.map #[] 0 = TMap [] := rfl
theorem TMap_at {w : World} {b : Nat} {l : List ((Int × Int) × Value)} (h : w.heap[b]? = some (TMap l)) : MapAt w b encT l := by
  refine ⟨_, _, h, tEs_bears l, ?_, ?_⟩
  · have : ((tEs l).map (·.born)).Pairwise (· < ·) := by rw [tEs_born]; exact List.pairwise_lt_range
    exact List.pairwise_map.1 this
  · intro e he
    have : e.born ∈ (tEs l).map (·.born) := List.mem_map.2 ⟨e, he, rfl⟩
    rw [tEs_born] at this
    exact List.mem_range.1 this
theorem tFree_lookIdx (x y : Int) : ∀ (l : List ((Int × Int) × Value)) (i : Nat), tFree x y l = true → lookIdx (x, y) l i = none
  | [], _, _ => rfl
  | ((a, b), v) :: l, i, h => by
    unfold tFree at h
    simp at h
    unfold lookIdx
    rw [if_neg (by intro e; cases e; rcases h.1 with h | h <;> exact h rfl)]
    exact tFree_lookIdx x y l (i + 1) h.2
theorem putObj_alloc_drew (w : World) (o o' : Obj) : ((w.alloc o).drew).putObj w.heap.size o' = (w.alloc o').drew := by
  have h : (w.heap.push o).setIfInBounds w.heap.size o' = w.heap.push o' := by
    apply Array.ext_getElem?
    intro i
    simp only [Array.getElem?_setIfInBounds, Array.getElem?_push, Array.size_push]
    by_cases hi : w.heap.size = i
    · subst hi; simp
    · have hi' : ¬ i = w.heap.size := fun e => hi e.symm
      simp [hi, hi']
  exact congrArg (fun hp => ({ heap := hp, tape := w.tape, drawn := w.drawn + 1, os := w.os, output := w.output } : World)) h
theorem TMap_update (w : World) (l : List ((Int × Int) × Value)) (x y : Int) (v : Value) (h : tFree x y l = true) :
    (Instr.mapUpdate 243 (.map (some w.heap.size)) (.agg #[.int .i64 x, .int .i64 y]) v).run Tryz.prog ((w.alloc (TMap l)).drew) = .ok () ((w.alloc (TMap (l ++ [((x, y), v)]))).drew) := by
  have hb : ((w.alloc (TMap l)).drew).heap[w.heap.size]? = some (.map (tEs l).toArray l.length) := World.alloc_heap_new w _
  have hB : Bears encT (tEs l).toArray.toList l := tEs_bears l
  have hf := findKey_bears turnKey (x, y) ((w.alloc (TMap l)).drew) _ _ hB
  rw [tFree_lookIdx x y l 0 h] at hf
  have hc := turnKey.chk false (x, y) ((w.alloc (TMap l)).drew)
  have he : Value.agg #[.int .i64 x, .int .i64 y] = encT (x, y) := rfl
  rw [he]
  unfold Instr.mapUpdate
  simp only [Sem.run_bind, run_underlying Tryz.underlying243, Result.andThen, run_getObj_map hb, hc, hf, run_setObj_map _ hb]
  have : TMap (l ++ [((x, y), v)]) = .map ((tEs l).toArray.push { key := encT (x, y), val := v, born := l.length }) (l.length + 1) := by
    unfold TMap tEs
    simp [List.zipIdx_append]
  rw [this]
  exact congrArg (Result.ok ()) (putObj_alloc_drew w _ _)
/-- The table holds the four turns. -/
def TurnsOk (l : List ((Int × Int) × Value)) : Prop :=
  look (1, 2) l = some (.func (.func 174) #[] #[]) ∧ look (2, 3) l = some (.func (.func 176) #[] #[]) ∧
  look (3, 2) l = some (.func (.func 177) #[] #[]) ∧ look (2, 1) l = some (.func (.func 180) #[] #[])
set_option maxHeartbeats 4000000 in
theorem turns_any (w : World) : Calls Tryz.prog 150 #[] w fun e w' => e = .returned (.map (some w.heap.size)) ∧ Below w.heap.size w w' ∧ ∃ l, TurnsOk l ∧ MapAt w' w.heap.size encT l := by
  have hmm := @run_makeMap Tryz.prog
  have hnil := TMap_nil
  have hup := TMap_update w
  have t0 : ∀ x y : Int, tFree x y [] = true := fun _ _ => rfl
  have t1 : ∀ (x y a b : Int) (v : Value) (l : List ((Int × Int) × Value)), tFree x y (((a, b), v) :: l) = (!(a == x && b == y) && tFree x y l) := fun _ _ _ _ _ _ => rfl
  go_enter Tryz.func150, Tryz.ntmps150
  go_wp2
  go_region
  all_goals clear hup hnil hmm t0 t1
  all_goals go_wp2
  all_goals go_ret
  all_goals exact ⟨rfl, by (repeat (first | exact Below.refl _ _ | with_reducible assumption | refine pb_alloc ?_ _ | refine pb_drew ?_ | refine pb_drewN ?_ _ | refine pb_set ?_ (by simp; try omega) _ | refine pb_trans ?_ (by with_reducible assumption))), _, ⟨rfl, rfl, rfl, rfl⟩, TMap_at (World.alloc_heap_new w _)⟩
theorem path_any (f to : Int) (w : World) : Calls Tryz.prog 151 #[.int .i64 f, .int .i64 to] w fun e w' => e = .returned (.func (.func 182) #[] #[.pointer (some ⟨w.heap.size, 0, none⟩), .pointer (some ⟨w.heap.size + 1, 0, none⟩)]) ∧
    w' = (w.alloc (.cells #[.int .i64 f] 3)).alloc (.cells #[.int .i64 to] 3) := by
  go_enter Tryz.func151, Tryz.ntmps151
  go_wp2
  go_ret
  exact ⟨rfl, rfl⟩
/-- The next version on the way. -/
def nextV (s to : Int) : Int := if to < s then s - 1 else s + 1
set_option maxHeartbeats 1000000 in
/-- The iterator over the turns from a version to another one. -/
theorem path_iter (F : Fence) (n : Nat) (hF : F.fn 182) (hro : F.round = none) (hn : 1 ≤ n) (bf bt : Nat) (a b : Int) (ha : 1 ≤ a) (ha3 : a ≤ 3) (hb : 1 ≤ b) (hb3 : b ≤ 3) :
    Iter F n Tryz.prog 182 #[.pointer (some ⟨bf, 0, none⟩), .pointer (some ⟨bt, 0, none⟩)] (fun p : Int × Int => #[Value.agg #[.int .i64 p.1, .int .i64 p.2]])
      (fun (s : Int) x => s ≠ b ∧ 1 ≤ s ∧ s ≤ 3 ∧ x = (s, nextV s b)) (fun _ x => x.2) (fun s => s = b) (fun _ W => W.cell? ⟨bf, 0, none⟩ = some (.int .i64 a) ∧ W.cell? ⟨bt, 0, none⟩ = some (.int .i64 b)) a := by
  intro l J Jx W hJ hJx hRd hY h0
  obtain ⟨rf, rt⟩ := hRd _ _ _ h0
  refine callsIn_of_wp Tryz.func182 rfl hF ?_ hro
  simp only [Tryz.ntmps182, List.size_toArray, List.length_cons, List.length_nil, Nat.reduceAdd, Nat.reduceSub, Array.replicate_succ, Array.replicate_zero, List.push_toArray, List.append_toArray, List.nil_append, List.cons_append]
  gi_wp2
  gi_loopw [4, 5] (fun p _ wr => ∃ (s : Int) (X : Nat → Prop), p = .int .i64 s ∧ 1 ≤ s ∧ s ≤ 3 ∧ J s X wr) (fun p _ _ => (intOf p - b).natAbs)
  case atStart => exact ⟨a, _, rfl, ha, ha3, h0⟩
  case round =>
    clear rf rt
    obtain ⟨s, X, rfl, hs1, hs3, hJs⟩ := hrel
    obtain ⟨_, rt⟩ := hRd _ _ _ hJs
    by_cases hsb : s = b
    · subst hsb
      have h1 : (s == s) = true := by simp
      gi_wp2
      go_end0
      exact ⟨⟨_, rfl⟩, .inl ⟨s, X, rfl, hJs⟩⟩
    · have hne : (s == b) = false := by simp [hsb]
      by_cases hlt : b < s
      · have hw := hY s (s, s - 1) _ _ (hJ.alloc (.cells #[.int .i64 s, .int .i64 (s - 1)] 249) hJs) ⟨hsb, hs1, hs3, by simp [nextV, hlt]⟩
        obtain ⟨fn, tmps, assign, body, hy, hR⟩ := hw
        have rt' : ∀ o, (wr.alloc o).cell? ⟨bt, 0, none⟩ = some (.int .i64 b) := fun o => (hRd _ _ _ (hJ.alloc o hJs)).2
        dsimp only at hy
        gi_wp2
        refine hR.mono ?_
        rintro e W' (⟨rfl, hJ', hsv⟩ | ⟨rfl, hx'⟩)
        · have hc : W'.cell? ⟨wr.heap.size, 1, none⟩ = some (.int .i64 (s - 1)) :=
            (hsv.cell (p := ⟨wr.heap.size, 1, none⟩) (.inr rfl) (by simp)).trans (by simp)
          gi_wp2
          go_roundw
          case rel => exact ⟨s - 1, _, rfl, by omega, by omega, hJ'⟩
          case measure => simp [intOf]; omega
        · gi_wp2
          refine bodyPost_ret (results_none rfl _ _ _) rfl ?_
          exact ⟨⟨_, rfl⟩, .inr ⟨_, hx'⟩⟩
      · have hw := hY s (s, s + 1) _ _ (hJ.alloc (.cells #[.int .i64 s, .int .i64 (s + 1)] 249) hJs) ⟨hsb, hs1, hs3, by simp [nextV, hlt]⟩
        obtain ⟨fn, tmps, assign, body, hy, hR⟩ := hw
        have rt' : ∀ o, (wr.alloc o).cell? ⟨bt, 0, none⟩ = some (.int .i64 b) := fun o => (hRd _ _ _ (hJ.alloc o hJs)).2
        dsimp only at hy
        gi_wp2
        refine hR.mono ?_
        rintro e W' (⟨rfl, hJ', hsv⟩ | ⟨rfl, hx'⟩)
        · have hc : W'.cell? ⟨wr.heap.size, 1, none⟩ = some (.int .i64 (s + 1)) :=
            (hsv.cell (p := ⟨wr.heap.size, 1, none⟩) (.inr rfl) (by simp)).trans (by simp)
          gi_wp2
          go_roundw
          case rel => exact ⟨s + 1, _, rfl, by omega, by omega, hJ'⟩
          case measure => simp [intOf]; omega
        · gi_wp2
          refine bodyPost_ret (results_none rfl _ _ _) rfl ?_
          exact ⟨⟨_, rfl⟩, .inr ⟨_, hx'⟩⟩
end Go.Proofs.YtaopeioebpfdeaaGreatDoor

namespace Go.Proofs.YtaopeioebpfdeaaGreatDoor
open Go Go.RowKit Go.Shelf Go.Extern.Stop Go.Stop Go.Extern
attribute [local go_sem] Oper.semAt_some wide_fn wide_depth

def fit (l : List UInt8) : Option (List UInt8) := if l.length ≤ 1000 then some l else none
/-- One turn of a state's data. -/
def turnD (s t : Int) (c : Nat) (d : List UInt8) : Option (List UInt8) :=
  if s = 1 then fit ([98] ++ d)
  else if s = 3 then (if Lib.hasSuffix d (le4 c) = true then some (Lib.trimSuffix d (le4 c)) else none)
  else if t = 3 then fit (d ++ le4 c)
  else (if Lib.hasPrefix d [98] = true then some (Lib.trimPrefix d [98]) else none)
def migL (to : Int) (c : Nat) : Nat → Int → List UInt8 → Option (List UInt8)
  | 0, _, d => some d
  | n + 1, s, d => (turnD s (nextV s to) c d).bind (migL to c n (nextV s to))
/-- A state's data, migrated from s to a version. -/
def mig (to : Int) (c : Nat) (s : Int) (d : List UInt8) : Option (List UInt8) := migL to c (to - s).natAbs s d
theorem mig_done (to : Int) (c : Nat) (d : List UInt8) : mig to c to d = some d := by simp [mig, migL]
theorem mig_step (to s : Int) (c : Nat) (d : List UInt8) (h : s ≠ to) : mig to c s d = (turnD s (nextV s to) c d).bind (mig to c (nextV s to)) := by
  unfold mig nextV
  by_cases hlt : to < s
  · have h1 : (to - s).natAbs = (to - (s - 1)).natAbs + 1 := by omega
    rw [h1, if_pos hlt]
    simp only [migL, nextV, if_pos hlt]
  · have h1 : (to - s).natAbs = (to - (s + 1)).natAbs + 1 := by omega
    rw [h1, if_neg hlt]
    simp only [migL, nextV, if_neg hlt]
/-- A state as a value. -/
def stV (s : Int × Nat × List UInt8) : Value := .agg #[.int .i64 s.1, .int .u32 s.2.1, .string (bs s.2.2)]
/-- A state, migrated: the state, the error's number. -/
def migrateP (v : Int) (c : Nat) (d : List UInt8) (to : Int) : (Int × Nat × List UInt8) × Int :=
  if checkE v to ≠ 0 then ((0, 0, []), checkE v to)
  else if rightB v d.length = false then ((0, 0, []), 132)
  else match mig to c v d with
    | some d' => ((to, c, d'), 0)
    | none => ((0, 0, []), 132)
theorem checkE_zero {v to : Int} (h : checkE v to = 0) : 1 ≤ v ∧ v ≤ 3 ∧ 1 ≤ to ∧ to ≤ 3 ∧ v ≠ to := by
  unfold checkE at h
  split at h
  · rename_i hk
    split at h
    · cases h
    · rename_i hne
      simp [known] at hk
      exact ⟨hk.1.1, hk.1.2, hk.2.1, hk.2.2, hne⟩
  · cases h
/-- Which closure a turn has, and what it gives. -/
theorem turn_call (a : Addr) (l : List ((Int × Int) × Value)) (hl : TurnsOk l) (s to : Int) (c : Nat) (d : List UInt8) (h1 : 1 ≤ s) (h3 : s ≤ 3) (t1 : 1 ≤ to) (t3 : to ≤ 3) (hne : s ≠ to) (hd : d.length ≤ 1000) :
    ∃ f, look (s, nextV s to) l = some (.func (.func f) #[] #[]) ∧ (∀ args w, (callFunc f args).run Tryz.prog w = .ok (.enter f args) w) ∧
      ((∃ d2, turnD s (nextV s to) c d = some d2 ∧ d2.length ≤ 1000 ∧ ∀ (v : Int) (w : World), Calls Tryz.prog f #[.agg #[.int .i64 v, .int .u32 c, .string (bs d)]] w fun e w' => e = .returned (.tuple #[.string (bs d2), .nilIface]) ∧ Below w.heap.size w w') ∨
       (turnD s (nextV s to) c d = none ∧ ∀ (v : Int) (w : World), ErrAt w a → Calls Tryz.prog f #[.agg #[.int .i64 v, .int .u32 c, .string (bs d)]] w fun e w' => e = .returned (.tuple #[.string ByteArray.empty, .iface 322 (.pointer (some a))]) ∧ Below w.heap.size w w')) := by
  obtain ⟨l12, l23, l32, l21⟩ := hl
  obtain rfl | rfl | rfl : s = 1 ∨ s = 2 ∨ s = 3 := by omega
  · have hn : nextV 1 to = 2 := by unfold nextV; rw [if_neg (by omega)]; rfl
    rw [hn]
    refine ⟨_, l12, enters_of Tryz.func174 (by kernel_rfl) rfl, ?_⟩
    by_cases hf : ([98] ++ d).length ≤ 1000
    · exact .inl ⟨[98] ++ d, by simp only [turnD, if_pos, fit, if_pos hf], hf, fun v w => turn12_fits v c d w hf⟩
    · exact .inr ⟨by simp only [turnD, if_pos, fit, if_neg hf], fun v w he => turn12_full a v c d w he (by omega) hd⟩
  · by_cases ht : to < 2
    · have hn : nextV 2 to = 1 := by unfold nextV; rw [if_pos ht]; rfl
      rw [hn]
      refine ⟨_, l21, enters_of Tryz.func180 (by kernel_rfl) rfl, ?_⟩
      cases hp : Lib.hasPrefix d [98]
      · exact .inr ⟨by simp [turnD, hp], fun v w he => turn21_no a v c d w he hp⟩
      · refine .inl ⟨Lib.trimPrefix d [98], by simp [turnD, hp], ?_, fun v w => turn21_any v c d w hp⟩
        unfold Lib.trimPrefix
        split <;> simp <;> omega
    · have hn : nextV 2 to = 3 := by unfold nextV; rw [if_neg ht]; rfl
      rw [hn]
      refine ⟨_, l23, enters_of Tryz.func176 (by kernel_rfl) rfl, ?_⟩
      by_cases hf : (d ++ le4 c).length ≤ 1000
      · exact .inl ⟨d ++ le4 c, by simp [turnD, fit, le4_length] at hf ⊢; omega, hf, fun v w => turn23_fits v c d w hf⟩
      · exact .inr ⟨by simp [turnD, fit, le4_length] at hf ⊢; omega, fun v w he => turn23_full a v c d w he (by omega) hd⟩
  · have hn : nextV 3 to = 2 := by unfold nextV; rw [if_pos (by omega)]; rfl
    rw [hn]
    refine ⟨_, l32, enters_of Tryz.func177 (by kernel_rfl) rfl, ?_⟩
    cases hp : Lib.hasSuffix d (le4 c)
    · exact .inr ⟨by simp [turnD, hp], fun v w he => turn32_no a v c d w he hd hp⟩
    · refine .inl ⟨Lib.trimSuffix d (le4 c), by simp [turnD, hp], ?_, fun v w => turn32_any v c d w hd hp⟩
      unfold Lib.trimSuffix
      split <;> simp <;> omega
set_option maxHeartbeats 4000000 in
theorem migrate_any (a : Addr) (v : Int) (c : Nat) (d : List UInt8) (to : Int) (w : World) (he : ErrAt w a) :
    Calls Tryz.prog 125 #[.agg #[.int .i64 v, .int .u32 c, .string (bs d)], .int .i64 to] w fun e w' =>
      e = .returned (.tuple #[stV (migrateP v c d to).1, .int .i64 (migrateP v c d to).2]) ∧ Below w.heap.size w w' := by
  have hE : ∀ W, Below w.heap.size w W → ErrAt W a := fun W hW => he.below hW he.lt
  clear he
  by_cases hck : checkE v to = 0
  · have hn0 : (checkE v to != 0) = false := by simp [hck]
    by_cases hr : rightB v (bs d).size = true
    · refine calls_of_wp_marks Tryz.func125 rfl ?_
      simp only [Tryz.ntmps125, List.size_toArray, List.length_cons, List.length_nil, Nat.reduceAdd, Nat.reduceSub, Array.replicate_succ, Array.replicate_zero, List.push_toArray, List.append_toArray, List.nil_append, List.cons_append]
      go_wp2_with (first
        | (go_at_call 43; refine (check_any _ _ _).mono ?_; rintro e w1 ⟨rfl, hb1⟩; have k0 : Blk w1 w.heap.size #[.int .i64 v, .int .u32 c, .string (bs d)] 106 := Blk.call (by (repeat (first | with_reducible assumption | (refine Blk.new ?_; simp; done) | refine Blk.alloc ?_ _ | refine Blk.drew ?_ | refine Blk.drewN ?_ _ | refine Blk.call ?_ (by with_reducible assumption)))) hb1; have k1 : Blk w1 (w.heap.size + 1) #[.int .i64 0, .int .u32 0, .string ⟨#[]⟩] 106 := Blk.call (by (repeat (first | with_reducible assumption | (refine Blk.new ?_; simp; done) | refine Blk.alloc ?_ _ | refine Blk.drew ?_ | refine Blk.drewN ?_ _ | refine Blk.call ?_ (by with_reducible assumption)))) hb1; have k2 : Blk w1 (w.heap.size + 2) #[.int .i64 0] 27 := Blk.call (by (repeat (first | with_reducible assumption | (refine Blk.new ?_; simp; done) | refine Blk.alloc ?_ _ | refine Blk.drew ?_ | refine Blk.drewN ?_ _ | refine Blk.call ?_ (by with_reducible assumption)))) hb1; have c0 := k0.cell)
        | (go_at_call 149; refine (rgRight_any _ _ _ _).mono ?_; rintro e w2 ⟨rfl, hb2⟩; replace k0 := k0.call hb2; replace k1 := k1.call hb2; replace k2 := k2.call hb2; have nw2 := k2.lt; clear c0)
        | (go_at_call 150; refine (turns_any _).mono ?_; rintro e w3 ⟨rfl, hb3, l, hl, hmap⟩; replace k0 := k0.call hb3; replace k1 := k1.call hb3; replace k2 := k2.call hb3; have c0 := k0.cell; have l0 := k0.lt)
        | (go_at_call 151; refine (path_any _ _ _).mono ?_; rintro e w4 ⟨rfl, rfl⟩))
      obtain ⟨hv1, hv3, ht1, ht3, hvt, hd0⟩ : 1 ≤ v ∧ v ≤ 3 ∧ 1 ≤ to ∧ to ≤ 3 ∧ v ≠ to ∧ d.length ≤ 1000 := by
        have h1 := checkE_zero hck
        rw [bs_size] at hr
        have h2 : d.length ≤ 1000 := by unfold rightB at hr; simp at hr; exact hr.2
        exact ⟨h1.1, h1.2.1, h1.2.2.1, h1.2.2.2.1, h1.2.2.2.2, h2⟩
      obtain ⟨A, hA⟩ : ∃ A, A = w3.heap.size := ⟨_, rfl⟩
      obtain ⟨MB, hMB⟩ : ∃ MB, MB = w2.heap.size := ⟨_, rfl⟩
      obtain ⟨W0, hW0⟩ : ∃ W0, W0 = ((w3.alloc (.cells #[.map (some w2.heap.size)] 243)).alloc (.cells #[.int .i64 v] 3)).alloc (.cells #[.int .i64 to] 3) := ⟨_, rfl⟩
      have hB0 : Below w.heap.size w W0 := by rw [hW0]; (repeat (first | exact Below.refl _ _ | with_reducible assumption | refine pb_alloc ?_ _ | refine pb_drew ?_ | refine pb_drewN ?_ _ | refine pb_set ?_ (by simp; try omega) _ | refine pb_trans ?_ (by with_reducible assumption)))
      have hs0 : W0.heap.size = A + 3 := by rw [hW0, hA]; simp
      have q0 : Blk W0 w.heap.size #[.int .i64 v, .int .u32 c, .string (bs d)] 106 := by rw [hW0]; (repeat (first | with_reducible assumption | (refine Blk.new ?_; simp; done) | refine Blk.alloc ?_ _ | refine Blk.drew ?_ | refine Blk.drewN ?_ _ | refine Blk.call ?_ (by with_reducible assumption)))
      have q1 : Blk W0 (w.heap.size + 1) #[.int .i64 0, .int .u32 0, .string ⟨#[]⟩] 106 := by rw [hW0]; (repeat (first | with_reducible assumption | (refine Blk.new ?_; simp; done) | refine Blk.alloc ?_ _ | refine Blk.drew ?_ | refine Blk.drewN ?_ _ | refine Blk.call ?_ (by with_reducible assumption)))
      have q2 : Blk W0 (w.heap.size + 2) #[.int .i64 0] 27 := by rw [hW0]; (repeat (first | with_reducible assumption | (refine Blk.new ?_; simp; done) | refine Blk.alloc ?_ _ | refine Blk.drew ?_ | refine Blk.drewN ?_ _ | refine Blk.call ?_ (by with_reducible assumption)))
      have qA : Blk W0 A #[.map (some MB)] 243 := by rw [hW0, hA, hMB]; (repeat (first | with_reducible assumption | (refine Blk.new ?_; simp; done) | refine Blk.alloc ?_ _ | refine Blk.drew ?_ | refine Blk.drewN ?_ _ | refine Blk.call ?_ (by with_reducible assumption)))
      have qF : Blk W0 (A + 1) #[.int .i64 v] 3 := by rw [hW0, hA]; (repeat (first | with_reducible assumption | (refine Blk.new ?_; simp; done) | refine Blk.alloc ?_ _ | refine Blk.drew ?_ | refine Blk.drewN ?_ _ | refine Blk.call ?_ (by with_reducible assumption)))
      have qT : Blk W0 (A + 1 + 1) #[.int .i64 to] 3 := by rw [hW0, hA]; (repeat (first | with_reducible assumption | (refine Blk.new ?_; simp; done) | refine Blk.alloc ?_ _ | refine Blk.drew ?_ | refine Blk.drewN ?_ _ | refine Blk.call ?_ (by with_reducible assumption)))
      have qM : MapAt W0 MB encT l := by
        rw [hMB]; refine hmap.kept ?_
        rw [hW0, Below.heap_alloc _ _ _ (by have := hmap.lt; simp; omega), Below.heap_alloc _ _ _ (by have := hmap.lt; simp; omega), Below.heap_alloc _ _ _ hmap.lt]
      have n0 := k0.lt
      have n2 := k2.lt
      have nM : MB < A := by rw [hMB, hA]; exact hmap.lt
      have nMB : w.heap.size + 2 < MB := by rw [hMB]; exact nw2
      rw [← hA] at n0 n2
      rw [← hW0, ← hA, ← hMB]
      clear hW0 hmap k0 k1 k2 hb1 hb2 hb3 c0 l0 hA hMB nw2
      refine wp_rangeA (gf := 182) (lb := #[.pointer (some ⟨A + 1, 0, none⟩), .pointer (some ⟨A + 1 + 1, 0, none⟩)]) rfl (enters_of Tryz.func182 (by kernel_rfl) rfl)
        (path_iter Fence.wide 2 trivial rfl (by omega) (A + 1) (A + 1 + 1) v to hv1 hv3 ht1 ht3) (fun _ => rfl)
        (fun s X W => Fr (fun k => k = w.heap.size) W0 X W ∧ ∃ d', Blk W w.heap.size #[.int .i64 s, .int .u32 c, .string (bs d')] 106 ∧ d'.length ≤ 1000 ∧ mig to c s d' = mig to c v d)
        (fun cc X W => cc = .ret ∧ mig to c v d = none ∧ Fr (fun k => k = w.heap.size ∨ k = w.heap.size + 1 ∨ k = w.heap.size + 2) W0 X W ∧ Blk W (w.heap.size + 1) #[.int .i64 0, .int .u32 0, .string ⟨#[]⟩] 106 ∧ Blk W (w.heap.size + 2) #[.int .i64 132] 27)
        (fun s X X' W W' h hm hx => ⟨h.1.step hm hx, by obtain ⟨d', hb, hr⟩ := h.2; exact ⟨d', hb.kept (h.1.block hm (by omega)), hr⟩⟩)
        (fun cc s X X' W W' h hm hx => ⟨h.1, h.2.1, h.2.2.1.step hm hx, h.2.2.2.1.kept (h.2.2.1.block hm (by omega)), h.2.2.2.2.kept (h.2.2.1.block hm (by omega))⟩)
        (fun s X W h => ⟨((qF.mod h.1.2 (by omega)).cell 0).trans rfl, ((qT.mod h.1.2 (by omega)).cell 0).trans rfl⟩)
        ⟨Fr.refl _ _, d, q0, hd0, rfl⟩
        (fun s x a' X W => ∃ B, a' = { tmps := #[.agg #[.int .i64 v, .int .u32 c, .string (bs d)], .int .i64 to, .pointer (some ⟨w.heap.size, 0, none⟩), undef, .pointer (some ⟨w.heap.size + 1, 0, none⟩), .pointer (some ⟨w.heap.size + 1 + 1, 0, none⟩), .int .i64 0, .pointer (some ⟨A, 0, none⟩), .pointer (some ⟨B, 0, none⟩), undef, undef, .pointer (some ⟨w.heap.size, 0, none⟩), .int .i64 v, .int .i64 to, .int .i64 0, .int .i64 0, .bool false, undef, undef, .agg #[.int .i64 v, .int .u32 c, .string (bs d)], .bool true, .bool false, undef, .map (some MB), .pointer (some ⟨w.heap.size, 0, none⟩), .int .i64 v, .int .i64 to, .func (.func 182) #[] #[.pointer (some ⟨A + 1, 0, none⟩), .pointer (some ⟨A + 1 + 1, 0, none⟩)], .agg #[.int .i64 x.1, .int .i64 x.2], undef, undef, undef, undef, undef, undef, undef, undef, undef, undef, undef, undef, undef, undef, undef, undef, undef, undef], defers := [] } ∧ s ≠ to ∧ 1 ≤ s ∧ s ≤ 3 ∧ x = (s, nextV s to) ∧ W0.heap.size ≤ B ∧ ¬ X B ∧ Blk W B #[.int .i64 x.1, .int .i64 x.2] 249 ∧
          Fr (fun k => k = w.heap.size) W0 X W ∧ ∃ d', Blk W w.heap.size #[.int .i64 s, .int .u32 c, .string (bs d')] 106 ∧ d'.length ≤ 1000 ∧ mig to c s d' = mig to c v d)
        ?ax ?assign ?body ?done ?stop
      case ax =>
        rintro s x a' u X X' W W' ⟨B, ha', h1, h2, h3, hx, hB, hXB, hbk, hfr, d', hd', hr⟩ hm hX
        exact ⟨B, ha', h1, h2, h3, hx, hB, fun h => (hX B h).elim hXB (fun h' => by have := hbk.lt; omega), hbk.mod hm hXB, hfr.step hm hX, d', hd'.kept (hfr.block hm (by omega)), hr⟩
      case assign =>
        rintro l' s x X W K ⟨hfr, d', hd', hr⟩ ⟨h1, h2, h3, hx⟩ hK
        have hXW : ¬ X W.heap.size := hfr.next
        gi_wp2
        refine hK _ _ ⟨W.heap.size, by rw [hx], h1, h2, h3, hx, hfr.2.size, hXW, by rw [hx]; exact Blk.new rfl, hfr.mod (Mod.alloc (fun _ => False) _ _) (fun _ _ h => h.elim), d', hd'.alloc _, hr⟩ (Saves.of_mod (Mod.alloc (fun _ => False) _ _) (fun _ _ _ h => h))
      case body =>
        rintro l' s x a' X W ⟨B, rfl, h1, h2, h3, rfl, hB, hXB, hbk, hfr, d', hd', hdl, hdm⟩ hXl _
        obtain ⟨f, hlk, hen, hcall⟩ := turn_call a l hl s to c d' h2 h3 ht1 ht3 h1 hdl
        have hBW : Below w.heap.size w W := hB0.trans (hfr.below (by omega) (fun _ h => by omega))
        have e0 := hd'.cell
        have g0 := hd'.frozen
        have eA := (qA.mod hfr.2 (by omega)).cell
        have eB := hbk.cell
        have l0 := hd'.lt
        have hlook : (Instr.lookup 243 (.map (some MB)) (.agg #[.int .i64 s, .int .i64 (nextV s to)]) false).run Tryz.prog W.drew = .ok (.func (.func f) #[] #[]) W.drew := by
          have := (MapAt.kept (w' := W.drew) qM (hfr.2.block MB (by omega) (by omega))).lookup turnKey Tryz.underlying243 (z := .nilFunc) (by kernel_rfl) (s, nextV s to)
          rw [hlk] at this
          exact this
        rcases hcall with ⟨d2, hturn, hd2, hcall⟩ | ⟨hturn, hcall⟩
        · gi_wp2
          apply wpIn_same (Wp := fun w' => Below W.drew.heap.size W.drew w')
          case h =>
            gi_region_with (refine (inRound _ _ (hcall _ _)).mono ?_; rintro e w5 ⟨rfl, hb5⟩)
            all_goals exact ⟨rfl, rfl, by assumption⟩
          case h2 =>
            rintro w5 hb5
            have k0 := hd'.drew.call hb5
            have kB := hbk.drew.call hb5
            have c0 := k0.cell
            have f0 := k0.frozen
            have cB := kB.cell
            have hE5 : w5.cell? ⟨0, 0, none⟩ = some (.iface 322 (.pointer (some a))) := hE w5 (pb_trans (pb_drew hBW) hb5)
            gi_wp2_with (gi_at_call 152; refine (inRound _ _ (is_nil a _)).mono ?_; rintro e w6 ⟨rfl, rfl⟩)
            have hm : Mod (fun k => w.heap.size = k) W ((w6.setCell ⟨w.heap.size, 0, none⟩ (.int .i64 (nextV s to))).setCell ⟨w.heap.size, 2, none⟩ (.string (bs d2))) := by
              have hb' : Below W.heap.size W w6 := (Below.drew (Below.refl _ _)).trans hb5
              exact ((Mod.of_below (fun k => w.heap.size = k) hb').thenSet rfl _).thenSet rfl _
            refine ⟨⟨hfr.mod hm (fun k _ h => h.symm), d2, (k0.set _).set _, hd2, ?_⟩, Saves.of_mod hm (fun k _ hX he => by have := hfr.1 k hX; omega)⟩
            rw [← hdm, mig_step to s c d' h1, hturn]; rfl
        · gi_wp2
          apply wpIn_same (Wp := fun w' => Below W.drew.heap.size W.drew w')
          case h =>
            gi_region_with (refine (inRound _ _ (hcall _ _ (hE _ (pb_drew hBW)))).mono ?_; rintro e w5 ⟨rfl, hb5⟩)
            all_goals exact ⟨rfl, rfl, by assumption⟩
          case h2 =>
            rintro w5 hb5
            have k1 := (q1.mod hfr.2 (by omega)).drew.call hb5
            have k2 := (q2.mod hfr.2 (by omega)).drew.call hb5
            have c1 := k1.cell
            have f1 := k1.frozen
            have c2 := k2.cell
            have f2 := k2.frozen
            have hE5 : w5.cell? ⟨0, 0, none⟩ = some (.iface 322 (.pointer (some a))) := hE w5 (pb_trans (pb_drew hBW) hb5)
            gi_wp2_with (gi_at_call 152; refine (inRound _ _ (is_same a _)).mono ?_; rintro e w6 ⟨rfl, rfl⟩)
            have hm : Mod (fun k => k = w.heap.size ∨ k = w.heap.size + 1 ∨ k = w.heap.size + 2) W ((((w6.setCell ⟨w.heap.size + 1, 0, none⟩ (.int .i64 0)).setCell ⟨w.heap.size + 1, 1, none⟩ (.int .u32 0)).setCell ⟨w.heap.size + 1, 2, none⟩ (.string ⟨#[]⟩)).setCell ⟨w.heap.size + 2, 0, none⟩ (.int .i64 132)) := by
              have hb' : Below W.heap.size W w6 := (Below.drew (Below.refl _ _)).trans hb5
              exact ((((Mod.of_below (fun k => k = w.heap.size ∨ k = w.heap.size + 1 ∨ k = w.heap.size + 2) hb').thenSet (.inr (.inl rfl)) _).thenSet (.inr (.inl rfl)) _).thenSet (.inr (.inl rfl)) _).thenSet (.inr (.inr rfl)) _
            refine ⟨⟨rfl, ?_, (hfr.wider (fun k h => .inl h)).mod hm (fun k _ h => h), (((k1.set _).set _).set _).other (by simp) _, (((k2.other (by simp) _).other (by simp) _).other (by simp) _).set _⟩, Saves.of_mod hm (fun k _ hX he => by have := hfr.1 k hX; omega)⟩
            rw [← hdm, mig_step to s c d' h1, hturn]; rfl
      case done =>
        rintro D s X W hD hXD rfl ⟨hfr, d', hd', hdl, hdm⟩ hK
        rw [mig_done] at hdm
        have c0 := hd'.cell
        have k1 := q1.mod hfr.2 (by omega)
        have k2 := q2.mod hfr.2 (by omega)
        have c1 := k1.cell
        have f1 := k1.frozen
        have c2 := k2.cell
        have f2 := k2.frozen
        have hp : migrateP v c d s = ((s, c, d'), 0) := by
          unfold migrateP
          rw [if_neg (by simp [hck]), bs_size] at *
          rw [if_neg (by simp [hr]), ← hdm]
        go_wp2
        have kk1 := ((((k1.set (o := 0) (.int .i64 s)).set (o := 1) (.int .u32 c)).set (o := 2) (.string (bs d'))).other (p := ⟨w.heap.size + 1 + 1, 0, none⟩) (by simp) (.int .i64 0)).putObj (r := D) (by omega) (.deferred none)
        have kk2 := ((((k2.other (p := ⟨w.heap.size + 1, 0, none⟩) (by simp) (.int .i64 s)).other (p := ⟨w.heap.size + 1, 1, none⟩) (by simp) (.int .u32 c)).other (p := ⟨w.heap.size + 1, 2, none⟩) (by simp) (.string (bs d'))).set (o := 0) (.int .i64 0)).putObj (r := D) (by omega) (.deferred none)
        have r1 := kk1.cell
        have r2 := kk2.cell
        rw [hp]
        refine end_mark1 (v := .tuple #[stV (s, c, d'), .int .i64 0]) ?_ ?_ ⟨rfl, ?_⟩
        · exact heap_set (heap_set (heap_set (heap_set hK (by simp; omega) _) (by simp; omega) _) (by simp; omega) _) (by simp; omega) _
        · simp [results, Tryz.results125, go_sem, r1, r2, stV]
        · refine below_putObj ?_ (by omega) _
          exact ((((hB0.trans (hfr.below (by omega) (fun _ h => by omega))).setCell (Nat.le_add_right _ _) _).setCell (Nat.le_add_right _ _) _).setCell (Nat.le_add_right _ _) _).setCell (Nat.le_add_right _ 2) _
      case stop =>
        rintro D cc X W hD hXD ⟨rfl, hmig, hfr, hk1, hk2⟩ hK
        have hp : migrateP v c d to = ((0, 0, []), 132) := by
          unfold migrateP
          rw [if_neg (by simp [hck]), bs_size] at *
          rw [if_neg (by simp [hr]), hmig]
        have r1 := (hk1.putObj (r := D) (by omega) (.deferred none)).cell
        have r2 := (hk2.putObj (r := D) (by omega) (.deferred none)).cell
        go_wp2
        rw [hp]
        refine end_mark1 (v := .tuple #[stV (0, 0, []), .int .i64 132]) hK ?_ ⟨rfl, ?_⟩
        · simp [results, Tryz.results125, go_sem, r1, r2, stV]
          rfl
        · exact below_putObj (hB0.trans (hfr.below (by omega) (fun _ h => by omega))) (by omega) _
    · have hr0 : rightB v (bs d).size = false := by simpa using hr
      have hp : migrateP v c d to = ((0, 0, []), 132) := by
        unfold migrateP
        rw [if_neg (by simp [hck])]
        rw [bs_size] at hr0
        rw [if_pos hr0]
      clear hr
      refine calls_of_wp_marks Tryz.func125 rfl ?_
      simp only [Tryz.ntmps125, List.size_toArray, List.length_cons, List.length_nil, Nat.reduceAdd, Nat.reduceSub, Array.replicate_succ, Array.replicate_zero, List.push_toArray, List.append_toArray, List.nil_append, List.cons_append]
      go_wp2_with (first
        | (go_at_call 43; refine (check_any _ _ _).mono ?_; rintro e w1 ⟨rfl, hb1⟩; have k0 : Blk w1 w.heap.size #[.int .i64 v, .int .u32 c, .string (bs d)] 106 := Blk.call (by (repeat (first | with_reducible assumption | (refine Blk.new ?_; simp; done) | refine Blk.alloc ?_ _ | refine Blk.drew ?_ | refine Blk.drewN ?_ _ | refine Blk.call ?_ (by with_reducible assumption)))) hb1; have k1 : Blk w1 (w.heap.size + 1) #[.int .i64 0, .int .u32 0, .string ⟨#[]⟩] 106 := Blk.call (by (repeat (first | with_reducible assumption | (refine Blk.new ?_; simp; done) | refine Blk.alloc ?_ _ | refine Blk.drew ?_ | refine Blk.drewN ?_ _ | refine Blk.call ?_ (by with_reducible assumption)))) hb1; have k2 : Blk w1 (w.heap.size + 2) #[.int .i64 0] 27 := Blk.call (by (repeat (first | with_reducible assumption | (refine Blk.new ?_; simp; done) | refine Blk.alloc ?_ _ | refine Blk.drew ?_ | refine Blk.drewN ?_ _ | refine Blk.call ?_ (by with_reducible assumption)))) hb1; have c0 := k0.cell)
        | (go_at_call 149; refine (rgRight_any _ _ _ _).mono ?_; rintro e w2 ⟨rfl, hb2⟩; replace k0 := k0.call hb2; replace k1 := k1.call hb2; replace k2 := k2.call hb2; clear c0; have c1 := k1.cell; have f1 := k1.frozen; have c2 := k2.cell; have f2 := k2.frozen))
      rw [hp]
      have kk1 := ((((k1.set (o := 0) (.int .i64 0)).set (o := 1) (.int .u32 0)).set (o := 2) (.string ⟨#[]⟩)).other (p := ⟨w.heap.size + 1 + 1, 0, none⟩) (by simp) (.int .i64 132))
      have kk2 := ((((k2.other (p := ⟨w.heap.size + 1, 0, none⟩) (by simp) (.int .i64 0)).other (p := ⟨w.heap.size + 1, 1, none⟩) (by simp) (.int .u32 0)).other (p := ⟨w.heap.size + 1, 2, none⟩) (by simp) (.string ⟨#[]⟩)).set (o := 0) (.int .i64 132))
      have r1 := kk1.cell
      have r2 := kk2.cell
      refine end_mark0 (v := .tuple #[stV (0, 0, []), .int .i64 132]) ?_ ⟨rfl, ?_⟩
      · simp [results, Tryz.results125, go_sem, r1, r2, stV]
        rfl
      · have hB2 : Below w.heap.size w w2 := by (repeat (first | exact Below.refl _ _ | with_reducible assumption | refine pb_alloc ?_ _ | refine pb_drew ?_ | refine pb_drewN ?_ _ | refine pb_set ?_ (by simp; try omega) _ | refine pb_trans ?_ (by with_reducible assumption)))
        exact (((hB2.setCell (Nat.le_add_right _ _) _).setCell (Nat.le_add_right _ _) _).setCell (Nat.le_add_right _ _) _).setCell (Nat.le_add_right _ 2) _
  · have hn0 : (checkE v to != 0) = true := by simp [hck]
    have hp : migrateP v c d to = ((0, 0, []), checkE v to) := by
      unfold migrateP
      rw [if_pos hck]
    refine calls_of_wp_marks Tryz.func125 rfl ?_
    simp only [Tryz.ntmps125, List.size_toArray, List.length_cons, List.length_nil, Nat.reduceAdd, Nat.reduceSub, Array.replicate_succ, Array.replicate_zero, List.push_toArray, List.append_toArray, List.nil_append, List.cons_append]
    go_wp2_with (go_at_call 43; refine (check_any _ _ _).mono ?_; rintro e w1 ⟨rfl, hb1⟩; have k1 : Blk w1 (w.heap.size + 1) #[.int .i64 0, .int .u32 0, .string ⟨#[]⟩] 106 := Blk.call (by (repeat (first | with_reducible assumption | (refine Blk.new ?_; simp; done) | refine Blk.alloc ?_ _ | refine Blk.drew ?_ | refine Blk.drewN ?_ _ | refine Blk.call ?_ (by with_reducible assumption)))) hb1; have k2 : Blk w1 (w.heap.size + 2) #[.int .i64 0] 27 := Blk.call (by (repeat (first | with_reducible assumption | (refine Blk.new ?_; simp; done) | refine Blk.alloc ?_ _ | refine Blk.drew ?_ | refine Blk.drewN ?_ _ | refine Blk.call ?_ (by with_reducible assumption)))) hb1; have c1 := k1.cell; have f1 := k1.frozen; have c2 := k2.cell; have f2 := k2.frozen)
    rw [hp]
    have kk1 := ((((k1.set (o := 0) (.int .i64 0)).set (o := 1) (.int .u32 0)).set (o := 2) (.string ⟨#[]⟩)).other (p := ⟨w.heap.size + 1 + 1, 0, none⟩) (by simp) (.int .i64 (checkE v to)))
    have kk2 := ((((k2.other (p := ⟨w.heap.size + 1, 0, none⟩) (by simp) (.int .i64 0)).other (p := ⟨w.heap.size + 1, 1, none⟩) (by simp) (.int .u32 0)).other (p := ⟨w.heap.size + 1, 2, none⟩) (by simp) (.string ⟨#[]⟩)).set (o := 0) (.int .i64 (checkE v to)))
    have r1 := kk1.cell
    have r2 := kk2.cell
    refine end_mark0 (v := .tuple #[stV (0, 0, []), .int .i64 (checkE v to)]) ?_ ⟨rfl, ?_⟩
    · simp [results, Tryz.results125, go_sem, r1, r2, stV]
      rfl
    · have hB1 : Below w.heap.size w w1 := by (repeat (first | exact Below.refl _ _ | with_reducible assumption | refine pb_alloc ?_ _ | refine pb_drew ?_ | refine pb_drewN ?_ _ | refine pb_set ?_ (by simp; try omega) _ | refine pb_trans ?_ (by with_reducible assumption)))
      exact (((hB1.setCell (Nat.le_add_right _ _) _).setCell (Nat.le_add_right _ _) _).setCell (Nat.le_add_right _ _) _).setCell (Nat.le_add_right _ 2) _
end Go.Proofs.YtaopeioebpfdeaaGreatDoor

namespace Go.Proofs.YtaopeioebpfdeaaGreatDoor
open Go Go.RowKit Go.Shelf Go.Extern.Stop Go.Stop Go.Extern
attribute [local go_sem] Oper.semAt_some wide_fn wide_depth

/-- Migrate, its result written out. -/
theorem migrate_eq {a : Addr} {v : Int} {c : Nat} {d : List UInt8} {to : Int} {v' : Int} {c' : Nat} {d' : List UInt8} {e' : Int} (h : migrateP v c d to = ((v', c', d'), e')) (w : World) (he : ErrAt w a) :
    Calls Tryz.prog 125 #[.agg #[.int .i64 v, .int .u32 c, .string (bs d)], .int .i64 to] w fun e w' =>
      e = .returned (.tuple #[.agg #[.int .i64 v', .int .u32 c', .string (bs d')], .int .i64 e']) ∧ Below w.heap.size w w' := by
  have hm := migrate_any a v c d to w he
  rw [h] at hm
  exact hm
/-- The first state of a version. -/
def beginP (v : Int) : (Int × Nat × List UInt8) × Int := if v = 1 then ((1, 0, []), 0) else migrateP 1 0 [] v
theorem begin_eq {a : Addr} {v : Int} {v' : Int} {c' : Nat} {d' : List UInt8} {e' : Int} (h : beginP v = ((v', c', d'), e')) (w : World) (he : ErrAt w a) :
    Calls Tryz.prog 92 #[.int .i64 v] w fun e w' => e = .returned (.tuple #[.agg #[.int .i64 v', .int .u32 c', .string (bs d')], .int .i64 e']) ∧ Below w.heap.size w w' := by
  have hE : ∀ W, Below w.heap.size w W → ErrAt W a := fun W hW => he.below hW he.lt
  clear he
  unfold beginP at h
  by_cases h1 : v = 1
  · have h1' : (v == 1) = true := by simp [h1]
    rw [if_pos h1] at h
    cases h
    go_enter Tryz.func92, Tryz.ntmps92
    go_wp2
    exact bodyPost_ret (v := .tuple #[.agg #[.int .i64 1, .int .u32 0, .string ⟨#[]⟩], .int .i64 0]) (by simp [results, Tryz.results92, go_sem]) rfl ⟨rfl, by (repeat (first | exact Below.refl _ _ | with_reducible assumption | refine pb_alloc ?_ _ | refine pb_drew ?_ | refine pb_drewN ?_ _ | refine pb_set ?_ (by simp; try omega) _ | refine pb_trans ?_ (by with_reducible assumption)))⟩
  · have h1' : (v == 1) = false := by simp [h1]
    rw [if_neg h1] at h
    go_enter Tryz.func92, Tryz.ntmps92
    go_wp2_with (go_at_call 125; refine (migrate_eq h _ (hE _ (by (repeat (first | exact Below.refl _ _ | with_reducible assumption | refine pb_alloc ?_ _ | refine pb_drew ?_ | refine pb_drewN ?_ _ | refine pb_set ?_ (by simp; try omega) _ | refine pb_trans ?_ (by with_reducible assumption)))))).mono ?_; rintro e w1 ⟨rfl, hb1⟩; have k0 : Blk w1 w.heap.size #[.int .i64 0, .int .u32 0, .string ⟨#[]⟩] 106 := Blk.call (by (repeat (first | with_reducible assumption | (refine Blk.new ?_; simp; done) | refine Blk.alloc ?_ _ | refine Blk.drew ?_ | refine Blk.drewN ?_ _ | refine Blk.call ?_ (by with_reducible assumption)))) hb1; have c0 := k0.cell; have f0 := k0.frozen)
    have r1 := (((k0.set (o := 0) (.int .i64 v')).set (o := 1) (.int .u32 c')).set (o := 2) (.string (bs d'))).cell
    have hB : Below w.heap.size w w1 := by (repeat (first | exact Below.refl _ _ | with_reducible assumption | refine pb_alloc ?_ _ | refine pb_drew ?_ | refine pb_drewN ?_ _ | refine pb_set ?_ (by simp; try omega) _ | refine pb_trans ?_ (by with_reducible assumption)))
    exact bodyPost_ret (v := .tuple #[stV (v', c', d'), .int .i64 e']) (by simp [results, Tryz.results92, go_sem, r1, stV]) rfl ⟨rfl, ((hB.setCell (Nat.le_refl _) _).setCell (Nat.le_refl _) _).setCell (Nat.le_refl _) _⟩
end Go.Proofs.YtaopeioebpfdeaaGreatDoor
