/- PROVED HERE: PLAIN FACTS on numbers in bytes, sums, records, journals, stores. No program in sight. PLAIN FACTS on records of decisions: what was done is done again. No program in sight. EQUALITY of messages, of eras, as Go's == and != have it. No condition. WALK: the document's Same at rostrum/api.Msg. Condition: both slices can be read. WALK: rostrumlaw14.shown answers true. No condition. A FOLD OF ENTRIES, IN PLAIN LEAN: what runs of entries come to, and how much they may hold; an Apply of an entry that was cut. No condition beyond what each says. PLAIN FACTS on what entries deliver: each origin's messages follow one another. No program in sight. PLAIN FACTS on batches' and entries' bytes: what was packed is unpacked. No program in sight. -/
import Derived.Test.YtaopeioebpfdeaaGreatDoorK06
import Derived.Test.YtaopeioebpfdeaaGreatDoorK07
import Derived.Test.YtaopeioebpfdeaaGreatDoorK08
import Derived.Test.YtaopeioebpfdeaaGreatDoorK09
import Derived.Test.YtaopeioebpfdeaaGreatDoorK12
import Derived.Test.YtaopeioebpfdeaaGreatDoorK15
namespace Go.Proofs.YtaopeioebpfdeaaGreatDoor
open Go

theorem getP_le4 (n : Nat) : getP (le4 n) = n % 4294967296 := by
  unfold getP
  rw [if_pos (le4_length n)]
  unfold le4
  simp only [List.foldr_cons, List.foldr_nil, UInt8.toNat_ofNat']
  omega
theorem le4_len (n : Nat) : (le4 n).length = 4 := rfl
theorem seal_len (l : List UInt8) : (sealP l).length = l.length + 4 := by simp [sealP, le4_len]
theorem open_seal (l : List UInt8) : openP (sealP l) = some l := by
  unfold openP
  rw [if_neg (by rw [seal_len]; omega)]
  have h1 : (sealP l).length - 4 = l.length := by rw [seal_len]; omega
  rw [h1]
  have h2 : (sealP l).take l.length = l := by unfold sealP; rw [List.take_left']; rfl
  have h3 : (sealP l).drop l.length = le4 (crcP l) := by unfold sealP; rw [List.drop_left']; rfl
  rw [h2, h3, if_pos rfl]
theorem record_ok {d : List UInt8} (h : d.length ≤ 4096) : recordP d = (sealP ([52] ++ le4 d.length ++ d), 0) := by unfold recordP; rw [if_neg (by omega)]
theorem record_len {d : List UInt8} (h : d.length ≤ 4096) : (recordP d).1.length = d.length + 9 := by
  rw [record_ok h, seal_len]; simp [le4_len]; omega
theorem record_head {d : List UInt8} (h : d.length ≤ 4096) (k : Nat) (rest : List UInt8) (hk : 5 ≤ k) : (((recordP d).1 ++ rest).take k).head? = some 52 ∧ ((((recordP d).1 ++ rest).take k).drop 1).take 4 = le4 d.length := by
  rw [record_ok h]
  obtain ⟨m, rfl⟩ : ∃ m, k = m + 5 := ⟨k - 5, by omega⟩
  unfold sealP le4
  simp
theorem first_record {d : List UInt8} (h : d.length ≤ 4096) (rest : List UInt8) : firstP ((recordP d).1 ++ rest) = (d, 9 + d.length) := by
  have hl := record_len h
  have hh := record_head h ((recordP d).1 ++ rest).length rest (by rw [List.length_append]; omega)
  rw [List.take_length] at hh
  have hg : getP ((((recordP d).1 ++ rest).drop 1).take 4) = d.length := by rw [hh.2, getP_le4]; omega
  unfold firstP
  rw [if_neg (by rw [List.length_append]; omega), if_neg (by rw [hh.1]; simp), hg, if_neg (by omega), if_neg (by rw [List.length_append]; omega)]
  have ht : ((recordP d).1 ++ rest).take (9 + d.length) = (recordP d).1 := by rw [List.take_left']; omega
  rw [ht, record_ok h, open_seal]
  simp [le4]
theorem first_torn {d : List UInt8} (h : d.length ≤ 4096) (k : Nat) (hk : k < (recordP d).1.length) : (firstP ((recordP d).1.take k)).2 = 0 := by
  have hl := record_len h
  unfold firstP
  have hlen : ((recordP d).1.take k).length = k := by rw [List.length_take]; omega
  by_cases h9 : k < 9
  · rw [if_pos (by rw [hlen]; exact h9)]
  · have hh := record_head h k [] (by omega)
    rw [List.append_nil] at hh
    have hg : getP ((((recordP d).1.take k).drop 1).take 4) = d.length := by rw [hh.2, getP_le4]; omega
    rw [if_neg (by rw [hlen]; exact h9), if_neg (by rw [hh.1]; simp), hg, if_neg (by omega), if_pos (by rw [hlen]; omega)]
theorem first_nil : (firstP []).2 = 0 := rfl
/-- Records, one behind the other. -/
def recs (l : List (List UInt8)) : List UInt8 := l.flatMap fun d => (recordP d).1
def RecsOk (l : List (List UInt8)) : Prop := ∀ d ∈ l, d.length ≤ 4096
theorem recs_snoc (l : List (List UInt8)) (d : List UInt8) : recs (l ++ [d]) = recs l ++ (recordP d).1 := by simp [recs]
theorem recs_len {l : List (List UInt8)} (h : RecsOk l) : 9 * l.length ≤ (recs l).length := by
  induction l with
  | nil => simp [recs]
  | cons d l ih =>
    have h1 := record_len (h d (List.mem_cons_self ..))
    have h2 := ih (fun x hx => h x (List.mem_cons_of_mem _ hx))
    have h3 : recs (d :: l) = (recordP d).1 ++ recs l := rfl
    rw [h3, List.length_append, List.length_cons]; omega
/-- What is read of records and a torn one. -/
theorem read_recs {tail : List UInt8} (ht : (firstP tail).2 = 0) : ∀ (l : List (List UInt8)) (n : Nat), RecsOk l → l.length < n → readP n (recs l ++ tail) = (l, (recs l).length)
  | [], n + 1, _, _ => by
    have h3 : recs [] ++ tail = tail := rfl
    rw [h3]
    unfold readP
    rw [if_pos ht]; rfl
  | [], 0, _, h => by simp at h
  | d :: l, 0, _, h => by simp at h
  | d :: l, n + 1, hok, hn => by
    have h1 := hok d (List.mem_cons_self ..)
    have h3 : recs (d :: l) ++ tail = (recordP d).1 ++ (recs l ++ tail) := by simp [recs]
    have hf := first_record h1 (recs l ++ tail)
    have hd : ((recordP d).1 ++ (recs l ++ tail)).drop (9 + d.length) = recs l ++ tail := by rw [List.drop_left']; have := record_len h1; omega
    rw [h3]
    unfold readP
    rw [hf]
    simp only
    rw [if_neg (by omega), hd, read_recs ht l n (fun x hx => hok x (List.mem_cons_of_mem _ hx)) (by simp at hn; omega)]
    have h4 : recs (d :: l) = (recordP d).1 ++ recs l := rfl
    rw [h4, List.length_append, record_len h1]
    simp; omega

/-- What a store has kept: whole records, and, behind a cut, a part of one. -/
def Kept (s : StoreS) (l : List (List UInt8)) : Prop := RecsOk l ∧ ∃ tail, s.log = recs l ++ tail ∧ (firstP tail).2 = 0 ∧ (s.crashed = false → tail = [])
theorem newStore_kept (cap : Int) : Kept (newStore cap) [] := ⟨(fun d hd => absurd hd (by simp)), [], rfl, first_nil, fun _ => rfl⟩
theorem record_err {d : List UInt8} (h : (recordP d).2 = 0) : d.length ≤ 4096 := by
  unfold recordP at h
  split at h
  · simp at h
  · omega
/-- A write: kept, or torn, or nothing. -/
theorem write_kept {s : StoreS} {l : List (List UInt8)} (h : Kept s l) (d : List UInt8) :
    ((writeP s d).2 = 0 ∧ s.crashed = false ∧ (writeP s d).1.crashed = false ∧ Kept (writeP s d).1 (l ++ [d])) ∨
    ((writeP s d).2 = 31 ∧ (writeP s d).1.crashed = true ∧ (Kept (writeP s d).1 l ∨ Kept (writeP s d).1 (l ++ [d]))) ∨
    ((writeP s d).2 = 30 ∧ (writeP s d).1 = s) := by
  obtain ⟨hok, tail, hl, ht, hc⟩ := h
  unfold writeP
  split
  · rename_i hcr
    exact .inr (.inl ⟨rfl, hcr, .inl ⟨hok, tail, hl, ht, hc⟩⟩)
  · rename_i hcr
    have hcr' : s.crashed = false := by simpa using hcr
    have htl := hc hcr'
    subst htl
    rw [List.append_nil] at hl
    split
    · exact .inr (.inr ⟨rfl, rfl⟩)
    · rename_i hr
      have hd := record_err (Decidable.not_not.1 hr)
      have hok2 : RecsOk (l ++ [d]) := by
        intro x hx
        rcases List.mem_append.1 hx with h | h
        · exact hok x h
        · simp at h; rw [h]; exact hd
      split
      · exact .inr (.inr ⟨rfl, rfl⟩)
      · split
        · refine .inl ⟨rfl, hcr', hcr', hok2, [], ?_, first_nil, fun _ => rfl⟩
          show s.log ++ _ = _
          rw [hl, recs_snoc, List.append_nil]
        · refine .inr (.inl ⟨rfl, rfl, ?_⟩)
          rcases Nat.lt_or_ge (min s.keep ((recordP d).1.length : Int)).toNat (recordP d).1.length with h | h
          · refine .inl ⟨hok, (recordP d).1.take (min s.keep ((recordP d).1.length : Int)).toNat, ?_, first_torn hd _ h, fun h => by cases h⟩
            show s.log ++ _ = _
            rw [hl]
          · refine .inr ⟨hok2, [], ?_, first_nil, fun h => by cases h⟩
            show s.log ++ _ = _
            rw [hl, recs_snoc, List.take_of_length_le h, List.append_nil]
theorem cut_kept {s : StoreS} {l : List (List UInt8)} (h : Kept s l) (k : Int) : Kept (cutS s k).1 l ∧ (cutS s k).1.crashed = s.crashed := by
  unfold cutS
  split
  · exact ⟨h, rfl⟩
  · split
    · exact ⟨h, rfl⟩
    · exact ⟨h, rfl⟩
theorem recover_kept {s : StoreS} {l : List (List UInt8)} (h : Kept s l) : (recoverS s).2 = l ∧ Kept (recoverS s).1 l ∧ (recoverS s).1.crashed = false := by
  obtain ⟨hok, tail, hl, ht, hc⟩ := h
  have hlen := recs_len hok
  have hr : readP s.log.length s.log = (l, (recs l).length) := by
    cases hll : l with
    | nil =>
      cases hs : s.log with
      | nil => rfl
      | cons b r =>
        have h1 := read_recs ht l (b :: r).length hok (by rw [hll]; simp)
        rw [← hl, hs, hll] at h1
        exact h1
    | cons x y =>
      rw [← hll]
      have h1 := read_recs ht l s.log.length hok (by rw [hl, List.length_append]; rw [hll] at hlen ⊢; simp at hlen ⊢; omega)
      rw [← hl] at h1; exact h1
  unfold recoverS
  rw [hr]
  refine ⟨rfl, ⟨hok, [], ?_, first_nil, fun _ => rfl⟩, rfl⟩
  show s.log.take (recs l).length = recs l ++ []
  rw [hl, List.take_left', List.append_nil]; rfl
end Go.Proofs.YtaopeioebpfdeaaGreatDoor
namespace Go.Proofs.YtaopeioebpfdeaaGreatDoor
open Go

theorem look_put {K V : Type} [DecidableEq K] (k k' : K) (v : V) : ∀ l : List (K × V), look k' (put k v l) = if k' = k then some v else look k' l
  | [] => by unfold put look; split <;> simp_all [look]
  | (q, u) :: l => by
    have ih := look_put k k' v l
    unfold put
    by_cases h : k = q
    · subst h
      rw [if_pos rfl]
      by_cases h2 : k' = k
      · subst h2; simp [look]
      · simp [look, h2]
    · rw [if_neg h]
      by_cases h2 : k' = q
      · subst h2
        rw [if_neg (fun e => h e.symm)]
        simp [look]
      · rw [look, if_neg h2, ih]
        conv => rhs; rw [look, if_neg h2]
theorem put_same {K V : Type} [DecidableEq K] {k : K} {v : V} : ∀ {l : List (K × V)}, look k l = some v → put k v l = l
  | [], h => by cases h
  | (q, u) :: l, h => by
    unfold look at h
    unfold put
    by_cases hq : k = q
    · subst hq; rw [if_pos rfl] at h ⊢; cases h; rfl
    · rw [if_neg hq] at h ⊢; rw [put_same h]
theorem le8_len (n : Nat) : (le8 n).length = 8 := rfl
theorem inst_parts {i : Int} (h : isInstP i = true) : 1 ≤ i ∧ i ≤ 10000 := by simpa [isInstP] using h
theorem rec_parts (kind : UInt8) {i : Int} (h : isInstP i = true) (more : List UInt8) : (recP kind i more).head? = some kind ∧ getP (((recP kind i more).drop 1).take 4) = i.toNat ∧ (recP kind i more).drop 5 = more ∧ (recP kind i more).length = 5 + more.length := by
  have hp := inst_parts h
  refine ⟨rfl, ?_, rfl, by unfold recP; simp [le4_len]; omega⟩
  have : ((recP kind i more).drop 1).take 4 = le4 (i.toNat % 4294967296) := rfl
  rw [this, getP_le4]; omega
theorem rec8_parts (kind : UInt8) {i : Int} (b : Nat) (hb : b < 18446744073709551616) (x : List UInt8) : getP (((recP kind i (le8 b ++ x)).drop 5).take 4) + 4294967296 * getP (((recP kind i (le8 b ++ x)).drop 9).take 4) = b ∧ (recP kind i (le8 b ++ x)).drop 13 = x := by
  have h1 : ((recP kind i (le8 b ++ x)).drop 5).take 4 = le4 b := rfl
  have h2 : ((recP kind i (le8 b ++ x)).drop 9).take 4 = le4 (b / 4294967296) := rfl
  rw [h1, h2, getP_le4, getP_le4]
  exact ⟨by omega, rfl⟩
theorem read_decided {i : Int} (h : isInstP i = true) {x : List UInt8} (hx : x.length ≤ 4000) : readRec (recP 100 i x) = some (100, i, 0, x) := by
  have hp := inst_parts h
  obtain ⟨h1, h2, h3, h4⟩ := rec_parts 100 h x
  have hi : ((i.toNat : Nat) : Int) = i := Int.toNat_of_nonneg (by omega)
  unfold readRec
  rw [if_neg (by omega), h2, hi, if_neg (by rw [h]; simp; omega), if_pos h1, h3, if_pos hx]
theorem read_promised {i : Int} (h : isInstP i = true) {b : Nat} (hb : b < 18446744073709551616) (h0 : 1 ≤ b) : readRec (recP 112 i (le8 b)) = some (112, i, b, []) := by
  have hp := inst_parts h
  obtain ⟨h1, h2, h3, h4⟩ := rec_parts 112 h (le8 b)
  obtain ⟨h5, h6⟩ := rec8_parts 112 (i := i) b hb []
  rw [List.append_nil] at h5 h6
  have hi : ((i.toNat : Nat) : Int) = i := Int.toNat_of_nonneg (by omega)
  have h8 := le8_len b
  unfold readRec
  rw [if_neg (by omega), h2, hi, if_neg (by rw [h]; simp; omega), h1, if_neg (by simp), if_pos (.inl rfl), if_neg (by omega), h6, if_neg (by simp), h5, if_pos ⟨h0, by simp⟩]
  rfl
theorem read_voted {i : Int} (h : isInstP i = true) {b : Nat} (hb : b < 18446744073709551616) (h0 : 1 ≤ b) {x : List UInt8} (hx : x.length ≤ 4000) : readRec (recP 118 i (le8 b ++ x)) = some (118, i, b, x) := by
  have hp := inst_parts h
  obtain ⟨h1, h2, h3, h4⟩ := rec_parts 118 h (le8 b ++ x)
  obtain ⟨h5, h6⟩ := rec8_parts 118 (i := i) b hb x
  have hi : ((i.toNat : Nat) : Int) = i := Int.toNat_of_nonneg (by omega)
  have h8 := le8_len b
  rw [List.length_append] at h4
  unfold readRec
  rw [if_neg (by omega), h2, hi, if_neg (by rw [h]; simp; omega), h1, if_neg (by simp), if_pos (.inr rfl), if_neg (by omega), h6, if_neg (by simp), h5, if_pos ⟨h0, hx⟩]
  rfl
/-- What was promised, cast, learned is so again behind its record. -/
theorem promise_again {p : PaxS} {i : Int} {b : Nat} (hb : b < 18446744073709551616) (h : (promiseP p i b).2.2.2 = 0) : replayP p (promiseP p i b).2.2.1 = (promiseP p i b).1 ∧ (promiseP p i b).2.2.1 = recP 112 i (le8 b) ∧ isInstP i = true ∧ 1 ≤ b ∧ (voteAt p i).1 < b ∧ (promiseP p i b).1 = { p with votes := put i (b, (voteAt p i).2) p.votes } := by
  unfold promiseP at h ⊢
  split at h
  · simp at h
  · rename_i hi
    rw [if_neg hi]
    have hi' : isInstP i = true := by simpa using hi
    split at h
    · rename_i h1; exact absurd h h1
    · rename_i h1
      rw [if_neg h1]
      have hv : (promiseV (voteAt p i) b) = ((b, (voteAt p i).2), 0) ∧ 1 ≤ b ∧ (voteAt p i).1 < b := by
        unfold promiseV at h1 ⊢
        split at h1
        · simp at h1
        · rename_i h2
          rw [if_neg h2]
          split at h1
          · simp at h1
          · rename_i h3
            rw [if_neg h3]
            exact ⟨rfl, by omega, by omega⟩
      simp only
      rw [hv.1]
      refine ⟨?_, by first | exact rfl | exact trivial, hi', hv.2.1, hv.2.2, by first | exact rfl | exact trivial⟩
      unfold replayP
      rw [read_promised hi' hb hv.2.1]
      simp only
      rw [if_neg (by decide)]
      have hr : replayV 112 (voteAt p i) b [] = (b, (voteAt p i).2) := by
        unfold replayV; rw [if_neg (by simp)]; rw [Nat.max_eq_right (by omega)]
      rw [hr, if_neg (fun e => by have := congrArg Prod.fst e; simp at this; omega)]
theorem cast_again {p : PaxS} {i : Int} {b : Nat} {x : List UInt8} (hb : b < 18446744073709551616) (h : (castP p i b x).2.2 = 0) : replayP p (castP p i b x).2.1 = (castP p i b x).1 ∧ isInstP i = true ∧ 1 ≤ b ∧ (voteAt p i).1 ≤ b ∧ x.length ≤ 4000 ∧ (castP p i b x).1 = { p with votes := put i (b, b, x) p.votes } ∧ (castP p i b x).2.1 = recP 118 i (le8 b ++ x) := by
  unfold castP at h ⊢
  split at h
  · simp at h
  · rename_i hi
    rw [if_neg hi]
    have hi' : isInstP i = true := by simpa using hi
    split at h
    · rename_i h1; exact absurd h h1
    · rename_i h1
      rw [if_neg h1]
      have hv : (castV (voteAt p i) b x) = ((b, b, x), 0) ∧ 1 ≤ b ∧ (voteAt p i).1 ≤ b ∧ x.length ≤ 4000 ∧ (voteAt p i).2.1 ≤ (voteAt p i).1 := by
        unfold castV at h1 ⊢
        split at h1
        · simp at h1
        · rename_i h2
          rw [if_neg h2]
          have h2' : voteOk (voteAt p i) = true ∧ 1 ≤ b ∧ x.length ≤ 4000 := by
            refine ⟨?_, by omega, by omega⟩
            cases hvo : voteOk (voteAt p i)
            · exact absurd (.inl hvo) h2
            · rfl
          split at h1
          · simp at h1
          · rename_i h3
            rw [if_neg h3]
            have h4 : (voteAt p i).2.1 ≤ (voteAt p i).1 := by
              have := h2'.1
              unfold voteOk at this
              simp only [Bool.and_eq_true, decide_eq_true_eq] at this
              exact this.1.2
            exact ⟨rfl, h2'.2.1, by omega, h2'.2.2, h4⟩
      simp only
      rw [hv.1]
      refine ⟨?_, hi', hv.2.1, hv.2.2.1, hv.2.2.2.1, by first | exact rfl | exact trivial, by first | exact rfl | exact trivial⟩
      unfold replayP
      rw [read_voted hi' hb hv.2.1 hv.2.2.2.1]
      simp only
      rw [if_neg (by decide)]
      have hr : replayV 118 (voteAt p i) b x = (b, b, x) := by
        unfold replayV; rw [if_pos ⟨rfl, by omega⟩, Nat.max_eq_right (by omega)]
      rw [hr]
      split
      · rename_i heq
        have hl : look i p.votes = some (b, b, x) := by
          unfold voteAt at heq
          cases hlk : look i p.votes with
          | none => rw [hlk] at heq; simp at heq; omega
          | some u => rw [hlk] at heq; simp at heq; rw [heq]
        show p = { p with votes := put i (b, b, x) p.votes }
        rw [put_same hl]
      · rfl
theorem learn_again {p : PaxS} {i : Int} {x : List UInt8} (h : (learnP p i x).2.2 = 0) (hr : (learnP p i x).2.1 ≠ []) : replayP p (learnP p i x).2.1 = (learnP p i x).1 ∧ look i p.known = none ∧ isInstP i = true ∧ x.length ≤ 4000 ∧ (learnP p i x).1.known = put i x p.known ∧ (learnP p i x).1.votes = p.votes ∧ (learnP p i x).2.1 = recP 100 i x := by
  have hq : (learnP p i x).2.1 = recP 100 i x ∧ isInstP i = true ∧ x.length ≤ 4000 ∧ look i p.known = none ∧ (learnP p i x).1 = { p with known := put i x p.known, length := reach (put i x p.known) 10000 p.length } := by
    unfold learnP at h hr ⊢
    split at h
    · simp at h
    · rename_i h1
      rw [if_neg h1] at hr ⊢
      have h1' : isInstP i = true ∧ x.length ≤ 4000 := by
        refine ⟨?_, by omega⟩
        cases hi : isInstP i
        · exact absurd (.inl hi) h1
        · rfl
      cases hl : look i p.known with
      | none => exact ⟨rfl, h1'.1, h1'.2, rfl, rfl⟩
      | some y =>
        rw [hl] at hr
        simp only at hr
        split at hr <;> simp at hr
  obtain ⟨h1, h2, h3, h4, h5⟩ := hq
  refine ⟨?_, h4, h2, h3, by rw [h5], by rw [h5], h1⟩
  rw [h1]
  unfold replayP
  rw [read_decided h2 h3]
  simp
theorem learn_none {p : PaxS} {i : Int} {x : List UInt8} (h : (learnP p i x).2.2 ≠ 0 ∨ (learnP p i x).2.1 = []) : (learnP p i x).1 = p := by
  unfold learnP at h ⊢
  by_cases h1 : isInstP i = false ∨ 4000 < x.length
  · rw [if_pos h1]
  · rw [if_neg h1] at h ⊢
    cases hl : look i p.known with
    | none => rw [hl] at h; simp [recP] at h
    | some y => simp only; split <;> rfl
end Go.Proofs.YtaopeioebpfdeaaGreatDoor
namespace Go.Proofs.YtaopeioebpfdeaaGreatDoor
open Go Go.RowKit Go.Shelf Go.Extern.Stop Go.Stop Go.Extern

theorem bs_inj {a b : List UInt8} : ((bs a).toList == (bs b).toList) = decide (a = b) := by
  rw [bs_toList, bs_toList]
  by_cases h : a = b
  · simp [h]
  · simp [h]
theorem msg_neq (a b : MsgD) (w : World) : (binOp .neq 34 (msgV a) (msgV b)).run Tryz.prog w = .ok (.bool (decide (a ≠ b))) w := by
  obtain ⟨⟨i, c⟩, d⟩ := a
  obtain ⟨⟨i', c'⟩, d'⟩ := b
  unfold msgV
  rw [run_neq_struct]
  simp [go_sem, bs_inj]
  by_cases h1 : i = i' <;> by_cases h2 : c = c' <;> by_cases h3 : d = d' <;> simp [h1, h2, h3] <;> omega
theorem era_neq (a b : EraD) (w : World) : (binOp .neq 92 (eraV a) (eraV b)).run Tryz.prog w = .ok (.bool (decide (a ≠ b))) w := by
  obtain ⟨i, c, d⟩ := a
  obtain ⟨i', c', d'⟩ := b
  unfold eraV
  rw [run_neq_struct]
  simp [go_sem]
  by_cases h1 : i = i' <;> by_cases h2 : c = c' <;> by_cases h3 : d = d' <;> simp [h1, h2, h3] <;> omega
end Go.Proofs.YtaopeioebpfdeaaGreatDoor
namespace Go.Proofs.YtaopeioebpfdeaaGreatDoor
open Go Go.RowKit Go.Shelf Go.Extern.Stop Go.Stop Go.Extern
attribute [local go_sem] Oper.semAt_some wide_fn wide_depth

theorem take_eqMsg {la lb : List MsgD} {k : Nat} {x y : MsgD} (h : la.take k = lb.take k) (hx : la[k]? = some x) (hy : lb[k]? = some y) (he : x = y) : la.take (k + 1) = lb.take (k + 1) := by
  rw [List.take_add_one, List.take_add_one, h, hx, hy, he]

set_option maxRecDepth 8000 in
set_option maxHeartbeats 1000000 in
theorem sameMsg_any (va vb : Value) (la lb : List MsgD) (w : World) (ha : Src w va 3 la.length (la.flatMap msgCells)) (hb : Src w vb 3 lb.length (lb.flatMap msgCells)) (hl : la.length ≤ 9223372036854775807) (_hl2 : lb.length ≤ 9223372036854775807) :
    Calls Tryz.prog 23 #[va, vb] w fun e w' => e = .returned (.bool (decide (la = lb))) ∧ Below w.heap.size w w' := by
  obtain ⟨aa, ca, rfl⟩ := ha.shape
  obtain ⟨ab, cb, rfl⟩ := hb.shape
  by_cases hlen : la.length = lb.length
  · have t0 : ((la.length : Int) != (lb.length : Int)) = false := by simp; omega
    rw [hlen] at ha ⊢
    go_enter Tryz.func23, Tryz.ntmps23
    go_wp2
    go_loopw [5] (fun p5 wr => ∃ k : Nat, p5 = .int .i64 k ∧ k ≤ lb.length ∧ la.take k = lb.take k ∧ Below w.heap.size w wr) (fun p5 _ => lb.length - (intOf p5).toNat)
    case atStart => exact ⟨0, rfl, Nat.zero_le _, rfl, Below.refl _ _⟩
    case round =>
      obtain ⟨k, rfl, hk, htk, hbw⟩ := hrel
      by_cases hlt : k < lb.length
      · obtain ⟨x, hx⟩ : ∃ x, la[k]? = some x := ⟨_, List.getElem?_eq_getElem (by omega)⟩
        obtain ⟨y, hy⟩ : ∃ y, lb[k]? = some y := ⟨_, List.getElem?_eq_getElem hlt⟩
        rcases (ha.below hbw).2 with ⟨h, h'⟩ | ⟨ma, oa, ca', h, _, hra⟩
        · omega
        cases h
        rcases (hb.below hbw).2 with ⟨h, h'⟩ | ⟨mb, ob, cb', h, _, hrb⟩
        · omega
        cases h
        have hca : ∀ j, j < 3 → wr.cell? ⟨ma, oa + (k * 3 + j), none⟩ = (msgCells x)[j]? := fun j hj => by
          have h1 := flatMsg_at la k x hx j hj
          cases hu : (msgCells x)[j]? with
          | none => simp [msgCells] at hu; omega
          | some u => exact hra _ u (h1.trans hu)
        have hcb : ∀ j, j < 3 → wr.cell? ⟨mb, ob + (k * 3 + j), none⟩ = (msgCells y)[j]? := fun j hj => by
          have h1 := flatMsg_at lb k y hy j hj
          cases hu : (msgCells y)[j]? with
          | none => simp [msgCells] at hu; omega
          | some u => exact hrb _ u (h1.trans hu)
        have a0 : wr.cell? ⟨ma, oa + k * 3, none⟩ = (msgCells x)[0]? := hca 0 (by omega)
        have a1 : wr.cell? ⟨ma, oa + k * 3 + 1, none⟩ = (msgCells x)[1]? := hca 1 (by omega)
        have a2 : wr.cell? ⟨ma, oa + k * 3 + 2, none⟩ = (msgCells x)[2]? := hca 2 (by omega)
        have b0 : wr.cell? ⟨mb, ob + k * 3, none⟩ = (msgCells y)[0]? := hcb 0 (by omega)
        have b1 : wr.cell? ⟨mb, ob + k * 3 + 1, none⟩ = (msgCells y)[1]? := hcb 1 (by omega)
        have b2 : wr.cell? ⟨mb, ob + k * 3 + 2, none⟩ = (msgCells y)[2]? := hcb 2 (by omega)
        have hq := msg_neq x y
        obtain ⟨q, hqd⟩ : ∃ q, decide (x ≠ y) = q := ⟨_, rfl⟩
        rw [hqd] at hq
        replace htk : Hid (_ = _) := htk
        obtain ⟨x0, hxx⟩ : ∃ x', x' = x := ⟨_, rfl⟩
        obtain ⟨y0, hyy⟩ : ∃ y', y' = y := ⟨_, rfl⟩
        rw [← hxx] at hx hqd
        rw [← hyy] at hy hqd
        replace hqd : Hid (_ = _) := hqd
        replace hxx : Hid (_ = _) := hxx
        replace hyy : Hid (_ = _) := hyy
        obtain ⟨⟨i, c⟩, d⟩ := x
        obtain ⟨⟨i', c'⟩, d'⟩ := y
        simp only [msgCells, List.getElem?_cons_zero, List.getElem?_cons_succ] at a0 a1 a2 b0 b1 b2
        unfold msgV at hq
        simp only at hq
        clear hca hcb hra hrb
        replace hx : Hid (_ = _) := hx
        replace hy : Hid (_ = _) := hy
        have hlti : (k : Int) < (lb.length : Int) := by omega
        have hk0 : (0 : Int) ≤ (k : Int) := by omega
        go_wp2
        go_quiet (fail)
        cases q
        · have hxy0 : x0 = y0 := by have := hqd.out; simpa using this
          have hxy : Hid (_ = _) := hxy0
          clear hxy0
          go_wp2
          go_roundw
          case rel => exact ⟨k + 1, by go_num, by omega, take_eqMsg htk.out hx.out hy.out hxy.out, below_drewN hbw _⟩
          case measure => simp [intOf]; omega
        · have hxy : x0 ≠ y0 := by have := hqd.out; simpa using this
          have hd : decide (la = lb) = false := by
            simp only [decide_eq_false_iff_not]
            intro h
            have h1 := hx.out
            rw [h, hy.out] at h1
            exact hxy (Option.some.inj h1).symm
          replace hd : Hid (_ = _) := hd
          clear hxy
          go_wp2
          go_ret
          exact ⟨by rw [hd.out]; rfl, below_drewN hbw _⟩
      · obtain rfl : k = lb.length := by omega
        have hd : decide (la = lb) = true := by
          rw [← hlen, List.take_length, hlen, List.take_length] at htk
          simpa using htk
        clear ha hb
        replace htk : Hid (_ = _) := htk
        replace hd : Hid (_ = _) := hd
        replace hlen : Hid (_ = _) := hlen
        go_wp2
        go_ret
        exact ⟨by rw [hd.out]; rfl, hbw⟩
  · have t0 : ((la.length : Int) != (lb.length : Int)) = true := by simp; omega
    have hne : la ≠ lb := fun h => hlen (by rw [h])
    have hd : decide (la = lb) = false := by simpa using hne
    rw [hd]
    clear ha hb hlen hne hd
    go_enter Tryz.func23, Tryz.ntmps23
    go_wp2
    go_ret
    exact ⟨rfl, Below.refl _ _⟩
end Go.Proofs.YtaopeioebpfdeaaGreatDoor
namespace Go.Proofs.YtaopeioebpfdeaaGreatDoor
open Go Go.RowKit Go.Shelf Go.Extern.Stop Go.Stop Go.Extern
attribute [local go_sem] Oper.semAt_some wide_fn wide_depth

theorem msgs_nil (w : World) : MsgsAt w (.slice none 0 0) [] := ⟨rfl, .inl ⟨rfl, rfl⟩⟩
end Go.Proofs.YtaopeioebpfdeaaGreatDoor
namespace Go.Proofs.YtaopeioebpfdeaaGreatDoor
open Go Go.RowKit

/-- How much a fold holds behind k entries. -/
structure FoldB (f : FoldS) (k : Nat) : Prop where
  ok : BookOk f.book
  few : bookN f.book ≤ 64 * k
  eras : f.eras.length ≤ k + 1
  low : 0 ≤ f.count
  high : f.count ≤ k
theorem newFold_b (v : Int) : FoldB (newFold v) 0 := ⟨newBook_ok, by simp [newFold, bookN, newBook], by simp [newFold], by simp [newFold], by simp [newFold]⟩
theorem FoldB.mono {f : FoldS} {k n : Nat} (h : FoldB f k) (hk : k ≤ n) : FoldB f n := ⟨h.ok, by have := h.few; omega, by have := h.eras; omega, h.low, by have := h.high; omega⟩
theorem FoldB.begin {f : FoldS} {k : Nat} (h : FoldB f k) (v : Int) (sw : Bool) (he : f.eras.length ≤ k) : FoldB (beginEra f v sw) k :=
  ⟨h.ok, h.few, by simp [beginEra]; exact he, h.low, h.high⟩
theorem apply_b {f : FoldS} {k : Nat} (h : FoldB f k) (e : EntryD) : FoldB (applyP f e).1 (k + 1) := by
  have h1 : FoldB { f with count := f.count + 1 } (k + 1) := ⟨h.ok, by have := h.few; show bookN f.book ≤ _; omega, by have := h.eras; show f.eras.length ≤ _; omega, by have := h.low; show 0 ≤ f.count + 1; omega, by have := h.high; show f.count + 1 ≤ _; omega⟩
  have h2 : ({ f with count := f.count + 1 } : FoldS).eras.length ≤ k + 1 := h.eras
  unfold applyP
  split
  · exact h.mono (by omega)
  · rename_i hr
    have hr' : rightE e = true := by simpa using hr
    split
    · exact h1
    · split
      · have hd := deliver_ok h.ok e.msgs
        have hm := msgs_of_right hr'
        exact ⟨hd.1, by have := hd.2.1; have := h.few; show bookN (deliverP f.book e.msgs).1 ≤ _; omega, h1.eras, h1.low, h1.high⟩
      · split
        · split
          · exact h1
          · exact h1.begin _ _ h2
        · split
          · exact h1
          · exact h1.begin _ _ h2
/-- The shape of entries that came in. -/
theorem EntsIn.shape {w : World} {v : Value} {es : List (EntryD × Value)} (h : EntsIn w v es) : ∃ a cap, v = .slice a es.length cap ∧
    ∀ i p, es[i]? = some p → ∃ b off, a = some ⟨b, off, none⟩ ∧ ∀ j, j < 4 → w.cell? ⟨b, off + (i * 4 + j), none⟩ = (entCells p)[j]? := by
  rcases h.1 with ⟨rfl, rfl⟩ | ⟨⟨b, off, spot⟩, cap, rfl, hc⟩
  · exact ⟨none, 0, rfl, fun i p hp => by simp at hp⟩
  · refine ⟨_, cap, rfl, fun i p hp => ?_⟩
    obtain ⟨p0, hp0⟩ : ∃ p0, es[0]? = some p0 := ⟨_, List.getElem?_eq_getElem (by have := (List.getElem?_eq_some_iff.1 hp).1; omega)⟩
    have h0 := hc 0 p0 hp0 0 (by omega)
    have hspot : spot = none := by
      have := World.cell?_spot (w := w) (v := .int .i64 p0.1.kind) (a := (⟨b, off, spot⟩ : Addr).add (0 * 4 + 0)) (by rw [h0]; rfl)
      simpa [Addr.add] using this
    subst hspot
    exact ⟨b, off, rfl, fun j hj => by rw [← addr_add]; exact hc i p hp j hj⟩
theorem EntsIn.below {w W : World} {v : Value} {es : List (EntryD × Value)} (h : EntsIn w v es) (hb : Below w.heap.size w W) : EntsIn W v es := by
  refine ⟨h.1.imp id ?_, fun p hp => ⟨(h.2 p hp).1.below hb, (h.2 p hp).2⟩⟩
  rintro ⟨a, cap, rfl, hc⟩
  refine ⟨a, cap, rfl, fun i p hp j hj => ?_⟩
  have h1 := hc i p hp j hj
  cases hu : (entCells p)[j]? with
  | none => simp [entCells] at hu; omega
  | some u => rw [hu] at h1; exact (hb.cell (cell_lt h1)).trans h1
/-- Below what was there ahead of all. -/
theorem Step.belowW {t : List Nat} (ht : t ≠ []) {ow ow' : Own} {w W W' : World} (hs : Step t ow W ow' W') (hb : Below w.heap.size w W) (ho : ∀ k, k < w.heap.size → ow k = []) : Below w.heap.size w W' ∧ ∀ k, k < w.heap.size → ow' k = [] :=
  ⟨hb.trans (hs.below hb.size (fun k hk => by rw [ho k hk]; exact not_sub_nil ht)), fun k hk => (hs.agree k (Nat.lt_of_lt_of_le hk hb.size)).trans (ho k hk)⟩
end Go.Proofs.YtaopeioebpfdeaaGreatDoor
namespace Go.Proofs.YtaopeioebpfdeaaGreatDoor
open Go

/-- Each message is its origin's next one. -/
def Follows : List Nat → List MsgD → Prop
  | _, [] => True
  | tk, x :: l => (0 ≤ x.1.1 ∧ x.1.1 ≤ 15 ∧ x.1.2 = (tk[x.1.1.toNat]?.getD 0) + 1 ∧ x.1.2 ≤ 4294967294) ∧ Follows (tk.set x.1.1.toNat x.1.2) l
theorem rightM_parts {m : MsgD} (h : rightM m = true) : 0 ≤ m.1.1 ∧ m.1.1 ≤ 15 ∧ m.2.length ≤ 1000 ∧ 1 ≤ m.1.2 ∧ m.1.2 ≤ 4294967294 := by
  simp [rightM] at h
  omega
theorem Follows.append : ∀ {tk : List Nat} {a b : List MsgD}, Follows tk a → Follows (setTk tk a) b → Follows tk (a ++ b)
  | _, [], _, _, h2 => h2
  | _, _ :: a, _, h, h2 => ⟨h.1, Follows.append (a := a) h.2 h2⟩
theorem setTk_append (tk : List Nat) (a b : List MsgD) : setTk tk (a ++ b) = setTk (setTk tk a) b := by simp [setTk, List.foldl_append]
theorem row_follows : ∀ (n : Nat) (ws : List (MId × MsgD)) (x : MsgD) (tk : List Nat), tk.length = 16 → WsOk ws → rightM x = true → x.1.2 = (tk[x.1.1.toNat]?.getD 0) + 1 → Follows tk (takeRow n ws x).2
  | 0, ws, x, tk, ht, hw, hx, h => by
    have := rightM_parts hx
    exact ⟨⟨this.1, this.2.1, h, this.2.2.2.2⟩, trivial⟩
  | n + 1, ws, x, tk, ht, hw, hx, h => by
    have hp := rightM_parts hx
    unfold takeRow
    cases hl : look (x.1.1, (x.1.2 + 1) % 4294967296) (del x.1 ws) with
    | none => exact ⟨⟨hp.1, hp.2.1, h, hp.2.2.2.2⟩, trivial⟩
    | some y =>
      have hy := (hw.del x.1) _ (look_mem hl)
      have hy1 : y.1 = (x.1.1, (x.1.2 + 1) % 4294967296) := hy.1
      refine ⟨⟨hp.1, hp.2.1, h, hp.2.2.2.2⟩, ?_⟩
      refine row_follows n (del x.1 ws) y _ (by simpa using ht) (hw.del _) hy.2 ?_
      rw [hy1]
      simp only
      rw [List.getElem?_set_self (by omega)]
      simp only [Option.getD_some]
      omega
theorem take_follows {b : BookS} (hok : BookOk b) (m : MsgD) : Follows b.tk (takeP b m).2.1 ∧ (takeP b m).1.tk = setTk b.tk (takeP b m).2.1 := by
  unfold takeP
  split
  · exact ⟨trivial, rfl⟩
  · rename_i hr
    have hr' : rightM m = true := by simpa using hr
    have hp := rightM_parts hr'
    split
    · split <;> exact ⟨trivial, rfl⟩
    · rename_i hn
      have hn' : m.1.2 = nextP b m.1.1 := by simpa using hn
      refine ⟨row_follows _ _ _ _ hok.sixteen hok.keys hr' ?_, rfl⟩
      unfold nextP at hn'
      rw [if_pos (by simp [isNodeP]; omega)] at hn'
      have hm : b.tk[m.1.1.toNat]?.getD 0 ≤ 4294967294 := by
        cases h : b.tk[m.1.1.toNat]? with
        | none => simp
        | some n => exact hok.most n (List.mem_of_getElem? h)
      omega
theorem deliver_follows {b : BookS} (hok : BookOk b) : ∀ (l : List MsgD), Follows b.tk (deliverP b l).2 ∧ (deliverP b l).1.tk = setTk b.tk (deliverP b l).2
  | [] => ⟨trivial, rfl⟩
  | m :: l => by
    have h1 := take_follows hok m
    have h2 := deliver_follows (take_ok hok m) l
    simp only [deliverP]
    refine ⟨h1.1.append (by rw [← h1.2]; exact h2.1), ?_⟩
    rw [h2.2, h1.2, setTk_append]
/-- What an Apply delivers. -/
theorem apply_follows {f : FoldS} (hok : BookOk f.book) (e : EntryD) : Follows f.book.tk (applyP f e).2.1 ∧ (applyP f e).1.book.tk = setTk f.book.tk (applyP f e).2.1 ∧ (applyP f e).1.book.log = f.book.log ++ (applyP f e).2.1 ∧ (e.kind ≠ 1 → (applyP f e).2.1 = []) := by
  unfold applyP
  split
  · exact ⟨trivial, rfl, by simp, fun _ => rfl⟩
  · split
    · exact ⟨trivial, rfl, by simp, fun _ => rfl⟩
    · split
      · rename_i hk
        have h1 := deliver_follows hok e.msgs
        exact ⟨h1.1, h1.2, (deliver_ok hok e.msgs).2.2, fun h => absurd hk h⟩
      · split
        · split
          · exact ⟨trivial, rfl, by simp, fun _ => rfl⟩
          · exact ⟨trivial, rfl, by simp [beginEra], fun _ => rfl⟩
        · split
          · exact ⟨trivial, rfl, by simp, fun _ => rfl⟩
          · exact ⟨trivial, rfl, by simp [beginEra], fun _ => rfl⟩
/-- The message at a place. -/
theorem Follows.at {l : List MsgD} : ∀ {tk : List Nat}, tk.length = 16 → Follows tk l → ∀ (j : Nat) (x : MsgD), l[j]? = some x →
    0 ≤ x.1.1 ∧ x.1.1 ≤ 15 ∧ x.1.2 = ((setTk tk (l.take j))[x.1.1.toNat]?.getD 0) + 1 ∧ x.1.2 ≤ 4294967294 ∧ setTk tk (l.take (j + 1)) = (setTk tk (l.take j)).set x.1.1.toNat x.1.2 := by
  induction l with
  | nil => intro tk _ _ j x hx; simp at hx
  | cons y l ih =>
    intro tk ht h j x hx
    cases j with
    | zero =>
      simp at hx; subst hx
      exact ⟨h.1.1, h.1.2.1, h.1.2.2.1, h.1.2.2.2, by simp [setTk]⟩
    | succ j =>
      have h1 := ih (tk := tk.set y.1.1.toNat y.1.2) (by simpa using ht) h.2 j x (by simpa using hx)
      simpa [setTk] using h1
theorem Follows.len {tk : List Nat} (l : List MsgD) (h : tk.length = 16) : (setTk tk l).length = 16 := by rw [setTk_len]; exact h
end Go.Proofs.YtaopeioebpfdeaaGreatDoor
namespace Go.Proofs.YtaopeioebpfdeaaGreatDoor
open Go

theorem byte_toNat {i : Int} (h0 : 0 ≤ i) (h : i ≤ 255) : ((UInt8.ofNat (i % 256).toNat).toNat : Int) = i := by
  rw [UInt8.toNat_ofNat']; omega
theorem msgBytes_size (m : MsgD) : (msgBytes m).length = 9 + m.2.length := by
  unfold msgBytes; simp [le4_len]; omega
theorem firstM_msg {m : MsgD} (h : rightM m = true) (rest : List UInt8) : firstM (msgBytes m ++ rest) = (m, 9 + m.2.length) := by
  obtain ⟨⟨i, c⟩, d⟩ := m
  have hp := rightM_parts h
  simp only at hp
  have hl := msgBytes_size ((i, c), d)
  simp only at hl
  have h1 : (msgBytes ((i, c), d) ++ rest).head?.getD 0 = UInt8.ofNat (i % 256).toNat := rfl
  have h2 : ((msgBytes ((i, c), d) ++ rest).drop 1).take 4 = le4 c := rfl
  have h3 : ((msgBytes ((i, c), d) ++ rest).drop 5).take 4 = le4 d.length := rfl
  have h4 : (msgBytes ((i, c), d) ++ rest).drop 9 = d ++ rest := rfl
  have hb := byte_toNat hp.1 (by omega)
  have hc : c % 4294967296 = c := by omega
  have hd : d.length % 4294967296 = d.length := by omega
  have htk : (d ++ rest).take d.length = d := by rw [List.take_left']; rfl
  unfold firstM
  rw [h1, h2, h3, h4, getP_le4, getP_le4, hc, hd, hb, htk, if_neg (by rw [List.length_append]; omega), if_neg (by rw [List.length_append]; omega), if_neg (by rw [h]; simp)]
theorem unpackN_msgs : ∀ (l : List MsgD), l.all rightM = true → unpackN l.length (l.flatMap msgBytes) = some l
  | [], _ => rfl
  | m :: l, h => by
    simp only [List.all_cons, Bool.and_eq_true] at h
    have hf := firstM_msg h.1 (l.flatMap msgBytes)
    have hl := msgBytes_size m
    have hd : (msgBytes m ++ l.flatMap msgBytes).drop (9 + m.2.length) = l.flatMap msgBytes := by rw [List.drop_left']; omega
    show unpackN (l.length + 1) (msgBytes m ++ l.flatMap msgBytes) = _
    unfold unpackN
    rw [hf]
    simp only
    rw [if_neg (by omega), hd, unpackN_msgs l h.2]
    rfl
theorem pack_ok {l : List MsgD} (h : (packP l).2 = 0) : l.length ≤ 64 ∧ l.all rightM = true ∧ packP l = ([UInt8.ofNat (l.length % 256)] ++ l.flatMap msgBytes, 0) := by
  unfold packP at h ⊢
  split at h
  · simp at h
  · rename_i h1
    rw [if_neg h1]
    split at h
    · rename_i h2
      rw [if_pos h2]
      exact ⟨by omega, h2, rfl⟩
    · simp at h
theorem unpack_pack {l : List MsgD} (h : (packP l).2 = 0) : unpackP (packP l).1 = (l, 0) := by
  obtain ⟨h1, h2, h3⟩ := pack_ok h
  rw [h3]
  unfold unpackP
  have hb : (UInt8.ofNat (l.length % 256)).toNat = l.length := by rw [UInt8.toNat_ofNat']; omega
  simp only [List.cons_append, List.nil_append]
  rw [hb, if_neg (by omega), unpackN_msgs l h2]
theorem pack_one {m : MsgD} (h : rightM m = true) : packP [m] = ([1] ++ msgBytes m, 0) := by
  unfold packP
  rw [if_neg (by simp), if_pos (by simp [h])]
  simp
end Go.Proofs.YtaopeioebpfdeaaGreatDoor
