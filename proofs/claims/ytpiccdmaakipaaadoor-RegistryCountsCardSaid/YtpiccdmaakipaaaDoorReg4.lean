/- WALKS: the registry's table of turns (a map of closures keyed by structs), and the iterator over a path of turns. No condition. -/
import Derived.Test.YtpiccdmaakipaaaDoorReg3
import Derived.Test.YtpiccdmaakipaaaDoorMap
namespace Go.Proofs.YtpiccdmaakipaaaDoor
open Go Go.RowKit Go.Shelf Go.Extern.Stop Go.Stop Go.Extern
attribute [local go_sem] Oper.semAt_some

/-- A turn as a key. -/
def encT (p : Int × Int) : Value := .agg #[.int .i64 p.1, .int .i64 p.2]
theorem turn_chk (n : Nat) (b : Bool) (x y : Int) (w : World) : (Instr.checkKey b (n + 1 + 1) 45 (.agg #[.int .i64 x, .int .i64 y])).run Tryd.prog w = .ok () w := by
  simp [Instr.checkKey, go_sem]
theorem turnKey : KeyLaw Tryd.prog 45 encT where
  eq := fun k k' w => by
    obtain ⟨a, b⟩ := k
    obtain ⟨c, d⟩ := k'
    have h : (Op.equal 45 (encT (a, b)) (encT (c, d))).run Tryd.prog w = (Op.equalIn 10000 45 (.agg #[.int .i64 a, .int .i64 b]) (.agg #[.int .i64 c, .int .i64 d])).run Tryd.prog w := rfl
    rw [h]
    simp [go_sem]
    by_cases h1 : a = c <;> by_cases h2 : b = d <;> simp [h1, h2]
  chk := fun b k w => turn_chk 9998 b k.1 k.2 w
  bits := fun k => by simp [encT, Instr.sameBits]
  now := ⟨_, Tryd.underlying45, fun k k' => by left; rfl⟩

/-- A map of turns into which only new keys were laid. -/
def tEs (l : List ((Int × Int) × Value)) : List MapEntry := l.zipIdx.map fun p => { key := encT p.1.1, val := p.1.2, born := p.2 }
def TMap (l : List ((Int × Int) × Value)) : Obj := .map (tEs l).toArray l.length
def tFree (x y : Int) : List ((Int × Int) × Value) → Bool
  | [] => true
  | ((a, b), _) :: l => !(a == x && b == y) && tFree x y l
theorem tEs_bears (l : List ((Int × Int) × Value)) : Bears encT (tEs l) l := by
  unfold Bears tEs
  rw [List.map_map]
  apply List.ext_getElem?
  intro n
  simp only [List.getElem?_map, List.getElem?_zipIdx]
  cases l[n]? <;> simp
theorem tEs_born (l : List ((Int × Int) × Value)) : (tEs l).map (·.born) = List.range l.length := by
  unfold tEs
  rw [List.map_map]
  have : (MapEntry.born ∘ fun p : ((Int × Int) × Value) × Nat => { key := encT p.1.1, val := p.1.2, born := p.2 }) = fun p => p.2 := rfl
  rw [this, List.zipIdx_map_snd, List.range_eq_range']
theorem TMap_nil : Obj.map #[] 0 = TMap [] := rfl
theorem TMap_at {w : World} {b : Nat} {l : List ((Int × Int) × Value)} (h : w.heap[b]? = some (TMap l)) : MapAt w b encT l := by
  refine ⟨_, _, h, tEs_bears l, ?_, ?_⟩
  · have : ((tEs l).map (·.born)).Pairwise (· < ·) := by rw [tEs_born]; exact List.pairwise_lt_range
    exact List.pairwise_map.1 this
  · intro e he
    have : e.born ∈ (tEs l).map (·.born) := List.mem_map.2 ⟨e, he, rfl⟩
    rw [tEs_born] at this
    exact List.mem_range.1 this
theorem tFree_lookIdx (x y : Int) : ∀ (l : List ((Int × Int) × Value)) (i : Nat), tFree x y l = true → lookIdx (x, y) l i = none
  | [], _, _ => rfl
  | ((a, b), v) :: l, i, h => by
    unfold tFree at h
    simp at h
    unfold lookIdx
    rw [if_neg (by intro e; cases e; rcases h.1 with h | h <;> exact h rfl)]
    exact tFree_lookIdx x y l (i + 1) h.2
theorem putObj_alloc_drew (w : World) (o o' : Obj) : ((w.alloc o).drew).putObj w.heap.size o' = (w.alloc o').drew := by
  have h : (w.heap.push o).setIfInBounds w.heap.size o' = w.heap.push o' := by
    apply Array.ext_getElem?
    intro i
    simp only [Array.getElem?_setIfInBounds, Array.getElem?_push, Array.size_push]
    by_cases hi : w.heap.size = i
    · subst hi; simp
    · have hi' : ¬ i = w.heap.size := fun e => hi e.symm
      simp [hi, hi']
  exact congrArg (fun hp => ({ heap := hp, tape := w.tape, drawn := w.drawn + 1, os := w.os, output := w.output } : World)) h
theorem TMap_update (w : World) (l : List ((Int × Int) × Value)) (x y : Int) (v : Value) (h : tFree x y l = true) :
    (Instr.mapUpdate 39 (.map (some w.heap.size)) (.agg #[.int .i64 x, .int .i64 y]) v).run Tryd.prog ((w.alloc (TMap l)).drew) = .ok () ((w.alloc (TMap (l ++ [((x, y), v)]))).drew) := by
  have hb : ((w.alloc (TMap l)).drew).heap[w.heap.size]? = some (.map (tEs l).toArray l.length) := World.alloc_heap_new w _
  have hB : Bears encT (tEs l).toArray.toList l := tEs_bears l
  have hf := findKey_bears turnKey (x, y) ((w.alloc (TMap l)).drew) _ _ hB
  rw [tFree_lookIdx x y l 0 h] at hf
  have hc := turnKey.chk false (x, y) ((w.alloc (TMap l)).drew)
  have he : Value.agg #[.int .i64 x, .int .i64 y] = encT (x, y) := rfl
  rw [he]
  unfold Instr.mapUpdate
  simp only [Sem.run_bind, run_underlying Tryd.underlying39, Result.andThen, run_getObj_map hb, hc, hf, run_setObj_map _ hb]
  have : TMap (l ++ [((x, y), v)]) = .map ((tEs l).toArray.push { key := encT (x, y), val := v, born := l.length }) (l.length + 1) := by
    unfold TMap tEs
    simp [List.zipIdx_append]
  rw [this]
  exact congrArg (Result.ok ()) (putObj_alloc_drew w _ _)

/-- The table holds the four turns. -/
def TurnsOk (l : List ((Int × Int) × Value)) : Prop :=
  look (1, 2) l = some (.func (.func 29) #[] #[]) ∧ look (2, 3) l = some (.func (.func 31) #[] #[]) ∧
  look (3, 2) l = some (.func (.func 33) #[] #[]) ∧ look (2, 1) l = some (.func (.func 36) #[] #[])

set_option maxHeartbeats 4000000 in
theorem turns_any (w : World) : Calls Tryd.prog 24 #[] w fun e w' => e = .returned (.map (some w.heap.size)) ∧ Below w.heap.size w w' ∧ ∃ l, TurnsOk l ∧ MapAt w' w.heap.size encT l := by
  have hmm := @run_makeMap Tryd.prog
  have hnil := TMap_nil
  have hup := TMap_update w
  have t0 : ∀ x y : Int, tFree x y [] = true := fun _ _ => rfl
  have t1 : ∀ (x y a b : Int) (v : Value) (l : List ((Int × Int) × Value)), tFree x y (((a, b), v) :: l) = (!(a == x && b == y) && tFree x y l) := fun _ _ _ _ _ _ => rfl
  go_enter Tryd.func24, Tryd.ntmps24
  go_wp2
  go_region
  all_goals clear hup hnil hmm t0 t1
  all_goals go_wp2
  all_goals go_ret
  all_goals exact ⟨rfl, by (repeat (first | exact Below.refl _ _ | assumption | refine pb_alloc ?_ _ | refine pb_drew ?_ | refine pb_drewN ?_ _ | refine pb_set ?_ (by simp; try omega) _ | refine pb_trans ?_ (by assumption))), _, ⟨rfl, rfl, rfl, rfl⟩, TMap_at (World.alloc_heap_new w _)⟩

theorem path_any (f to : Int) (w : World) : Calls Tryd.prog 25 #[.int .i64 f, .int .i64 to] w fun e w' => e = .returned (.func (.func 38) #[] #[.pointer (some ⟨w.heap.size, 0, none⟩), .pointer (some ⟨w.heap.size + 1, 0, none⟩)]) ∧
    w' = (w.alloc (.cells #[.int .i64 f] 3)).alloc (.cells #[.int .i64 to] 3) := by
  go_enter Tryd.func25, Tryd.ntmps25
  go_wp2
  go_ret
  exact ⟨rfl, rfl⟩

/-- The next version on the way. -/
def nextV (s to : Int) : Int := if to < s then s - 1 else s + 1
theorem Stab.alloc {σ : Type} {I : σ → (Nat → Prop) → World → Prop} (h : Stab I) {s : σ} {X : Nat → Prop} {W : World} (o : Obj) (hi : I s X W) : I s (fun k => X k ∨ k = W.heap.size) (W.alloc o) :=
  h _ _ _ _ _ hi (Mod.alloc _ W o) (fun k hk => by rcases hk with h | h; exact .inl h; exact .inr (by subst h; simp))

set_option maxHeartbeats 1000000 in
/-- The iterator over the turns from a version to another one. -/
theorem path_iter (F : Fence) (n : Nat) (hF : F.fn 38) (hro : F.round = none) (hn : 1 ≤ n) (bf bt : Nat) (a b : Int) (ha : 1 ≤ a) (ha3 : a ≤ 3) (hb : 1 ≤ b) (hb3 : b ≤ 3) :
    Iter F n Tryd.prog 38 #[.pointer (some ⟨bf, 0, none⟩), .pointer (some ⟨bt, 0, none⟩)] (fun p : Int × Int => #[Value.agg #[.int .i64 p.1, .int .i64 p.2]])
      (fun (s : Int) x => s ≠ b ∧ 1 ≤ s ∧ s ≤ 3 ∧ x = (s, nextV s b)) (fun _ x => x.2) (fun s => s = b) (fun _ W => W.cell? ⟨bf, 0, none⟩ = some (.int .i64 a) ∧ W.cell? ⟨bt, 0, none⟩ = some (.int .i64 b)) a := by
  intro l J Jx W hJ hJx hRd hY h0
  obtain ⟨rf, rt⟩ := hRd _ _ _ h0
  refine callsIn_of_wp Tryd.func38 rfl hF ?_ hro
  simp only [Tryd.ntmps38, List.size_toArray, List.length_cons, List.length_nil, Nat.reduceAdd, Nat.reduceSub, Array.replicate_succ, Array.replicate_zero, List.push_toArray, List.append_toArray, List.nil_append, List.cons_append]
  gi_wp2
  gi_loopw [4, 5] (fun p _ wr => ∃ (s : Int) (X : Nat → Prop), p = .int .i64 s ∧ 1 ≤ s ∧ s ≤ 3 ∧ J s X wr) (fun p _ _ => (intOf p - b).natAbs)
  case atStart => exact ⟨a, _, rfl, ha, ha3, h0⟩
  case round =>
    clear rf rt
    obtain ⟨s, X, rfl, hs1, hs3, hJs⟩ := hrel
    obtain ⟨_, rt⟩ := hRd _ _ _ hJs
    by_cases hsb : s = b
    · subst hsb
      have h1 : (s == s) = true := by simp
      gi_wp2
      go_end0
      exact ⟨⟨_, rfl⟩, .inl ⟨s, X, rfl, hJs⟩⟩
    · have hne : (s == b) = false := by simp [hsb]
      by_cases hlt : b < s
      · have hw := hY s (s, s - 1) _ _ (hJ.alloc (.cells #[.int .i64 s, .int .i64 (s - 1)] 45) hJs) ⟨hsb, hs1, hs3, by simp [nextV, hlt]⟩
        obtain ⟨fn, tmps, assign, body, hy, hR⟩ := hw
        have rt' : ∀ o, (wr.alloc o).cell? ⟨bt, 0, none⟩ = some (.int .i64 b) := fun o => (hRd _ _ _ (hJ.alloc o hJs)).2
        dsimp only at hy
        gi_wp2
        refine hR.mono ?_
        rintro e W' (⟨rfl, hJ', hsv⟩ | ⟨rfl, hx'⟩)
        · have hc : W'.cell? ⟨wr.heap.size, 1, none⟩ = some (.int .i64 (s - 1)) :=
            (hsv.cell (p := ⟨wr.heap.size, 1, none⟩) (.inr rfl) (by simp)).trans (by simp)
          gi_wp2
          go_roundw
          case rel => exact ⟨s - 1, _, rfl, by omega, by omega, hJ'⟩
          case measure => simp [intOf]; omega
        · gi_wp2
          refine bodyPost_ret (results_none rfl _ _ _) rfl ?_
          exact ⟨⟨_, rfl⟩, .inr ⟨_, hx'⟩⟩
      · have hw := hY s (s, s + 1) _ _ (hJ.alloc (.cells #[.int .i64 s, .int .i64 (s + 1)] 45) hJs) ⟨hsb, hs1, hs3, by simp [nextV, hlt]⟩
        obtain ⟨fn, tmps, assign, body, hy, hR⟩ := hw
        have rt' : ∀ o, (wr.alloc o).cell? ⟨bt, 0, none⟩ = some (.int .i64 b) := fun o => (hRd _ _ _ (hJ.alloc o hJs)).2
        dsimp only at hy
        gi_wp2
        refine hR.mono ?_
        rintro e W' (⟨rfl, hJ', hsv⟩ | ⟨rfl, hx'⟩)
        · have hc : W'.cell? ⟨wr.heap.size, 1, none⟩ = some (.int .i64 (s + 1)) :=
            (hsv.cell (p := ⟨wr.heap.size, 1, none⟩) (.inr rfl) (by simp)).trans (by simp)
          gi_wp2
          go_roundw
          case rel => exact ⟨s + 1, _, rfl, by omega, by omega, hJ'⟩
          case measure => simp [intOf]; omega
        · gi_wp2
          refine bodyPost_ret (results_none rfl _ _ _) rfl ?_
          exact ⟨⟨_, rfl⟩, .inr ⟨_, hx'⟩⟩
end Go.Proofs.YtpiccdmaakipaaaDoor
