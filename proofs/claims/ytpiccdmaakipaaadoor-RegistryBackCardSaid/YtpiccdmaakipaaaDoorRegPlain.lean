/- PLAIN FACTS on migrating: what comes of it, and the way back. No program in sight. -/
import Derived.Test.YtpiccdmaakipaaaDoorReg7
namespace Go.Proofs.YtpiccdmaakipaaaDoor
open Go

theorem checkE_symm {v to : Int} (h : checkE v to = 0) : checkE to v = 0 := by
  obtain ⟨h1, h2, h3, h4, h5⟩ := checkE_zero h
  have k1 : known to = true := by simp [known, h3, h4]
  have k2 : known v = true := by simp [known, h1, h2]
  simp [checkE, k1, k2, Ne.symm h5]
theorem right_of {v to : Int} {n : Nat} (h : checkE v to = 0) (hn : n ≤ 1000) : rightB v n = true := by
  obtain ⟨h1, h2, _⟩ := checkE_zero h
  simp [rightB, known, h1, h2, hn]

/-- A turn, and the turn back. -/
theorem turnD_back {s t : Int} {c : Nat} {d d2 : List UInt8} (h1 : 1 ≤ s) (h3 : s ≤ 3) (ht1 : 1 ≤ t) (ht3 : t ≤ 3) (hst : t = s + 1 ∨ s = t + 1) (hd : d.length ≤ 1000) (h : turnD s t c d = some d2) :
    turnD t s c d2 = some d ∧ d2.length ≤ 1000 := by
  obtain rfl | rfl | rfl : s = 1 ∨ s = 2 ∨ s = 3 := by omega
  · obtain rfl : t = 2 := by omega
    simp only [turnD, if_pos, fit] at h
    split at h
    · cases h
      rename_i hf
      exact ⟨by simp [turnD, Lib.hasPrefix, Lib.trimPrefix], hf⟩
    · cases h
  · obtain rfl | rfl : t = 1 ∨ t = 3 := by omega
    · have h' : (if Lib.hasPrefix d [98] = true then some (Lib.trimPrefix d [98]) else none) = some d2 := by simpa [turnD] using h
      split at h'
      · rename_i hp
        cases h'
        cases d with
        | nil => simp [Lib.hasPrefix, List.isPrefixOf] at hp
        | cons x d =>
          obtain rfl : x = 98 := by simp [Lib.hasPrefix, List.isPrefixOf] at hp; exact hp.symm
          have ht : Lib.trimPrefix (98 :: d) [98] = d := by simp [Lib.trimPrefix, hp]
          rw [ht]
          refine ⟨?_, by simp at hd; omega⟩
          simp only [turnD, if_pos, fit]
          rw [if_pos (by simpa using hd)]
          rfl
      · cases h'
    · have h' : fit (d ++ le4 c) = some d2 := by simpa [turnD] using h
      simp only [fit] at h'
      split at h'
      · rename_i hf
        cases h'
        have hs : Lib.hasSuffix (d ++ le4 c) (le4 c) = true := by
          unfold Lib.hasSuffix; rw [List.isSuffixOf_iff_suffix]; exact List.suffix_append _ _
        refine ⟨?_, hf⟩
        simp [turnD, hs, Lib.trimSuffix, le4_length]
      · cases h'
  · obtain rfl : t = 2 := by omega
    have h' : (if Lib.hasSuffix d (le4 c) = true then some (Lib.trimSuffix d (le4 c)) else none) = some d2 := by simpa [turnD] using h
    split at h'
    · rename_i hs
      cases h'
      have hs2 := hs
      unfold Lib.hasSuffix at hs2
      rw [List.isSuffixOf_iff_suffix] at hs2
      obtain ⟨r, rfl⟩ := hs2
      have ht : Lib.trimSuffix (r ++ le4 c) (le4 c) = r := by simp [Lib.trimSuffix, hs]
      rw [ht]
      refine ⟨?_, by simp at hd; omega⟩
      simp [turnD, fit] at hd ⊢
      omega
    · cases h'

theorem mig_back {v to : Int} {c : Nat} {d d' : List UInt8} (h : checkE v to = 0) (hd : d.length ≤ 1000) (hm : mig to c v d = some d') : mig v c to d' = some d ∧ d'.length ≤ 1000 := by
  obtain ⟨h1, h3, ht1, ht3, hne⟩ := checkE_zero h
  rw [mig_step to v c d hne] at hm
  cases hq : turnD v (nextV v to) c d with
  | none => rw [hq] at hm; cases hm
  | some d2 =>
    rw [hq] at hm
    simp only [Option.bind_some] at hm
    have hn1 : 1 ≤ nextV v to ∧ nextV v to ≤ 3 ∧ (nextV v to = v + 1 ∨ v = nextV v to + 1) := by unfold nextV; split <;> omega
    obtain ⟨hb, hl⟩ := turnD_back h1 h3 hn1.1 hn1.2.1 hn1.2.2 hd hq
    by_cases hend : nextV v to = to
    · rw [hend] at hm hb
      rw [mig_done] at hm
      cases hm
      refine ⟨?_, hl⟩
      have hback : nextV to v = v := by unfold nextV at hend ⊢; split at hend <;> split <;> omega
      rw [mig_step v to c d' (Ne.symm hne), hback, hb]
      exact mig_done v c d
    · rw [mig_step to _ c d2 hend] at hm
      cases hq2 : turnD (nextV v to) (nextV (nextV v to) to) c d2 with
      | none => rw [hq2] at hm; cases hm
      | some d3 =>
        rw [hq2] at hm
        simp only [Option.bind_some] at hm
        have hlast : nextV (nextV v to) to = to := by unfold nextV at hend ⊢; split at hend <;> split <;> omega
        rw [hlast] at hm hq2
        rw [mig_done] at hm
        cases hm
        have hadj : to = nextV v to + 1 ∨ nextV v to = to + 1 := by unfold nextV at hend ⊢; split at hend <;> omega
        obtain ⟨hb2, hl2⟩ := turnD_back hn1.1 hn1.2.1 ht1 ht3 hadj hl hq2
        refine ⟨?_, hl2⟩
        have hback : nextV to v = nextV v to := by unfold nextV at hend ⊢; split at hend <;> split <;> omega
        rw [mig_step v to c d' (Ne.symm hne), hback, hb2]
        simp only [Option.bind_some]
        have hne2 : nextV v to ≠ v := by unfold nextV; split <;> omega
        have hback2 : nextV (nextV v to) v = v := by unfold nextV; split <;> split <;> omega
        rw [mig_step v _ c d2 hne2, hback2, hb]
        exact mig_done v c d

/-- What comes of a migration. -/
theorem migrateP_cases (v : Int) (c : Nat) (d : List UInt8) (to : Int) :
    (∃ d', migrateP v c d to = ((to, c, d'), 0) ∧ mig to c v d = some d' ∧ checkE v to = 0 ∧ d.length ≤ 1000 ∧ d'.length ≤ 1000) ∨
    (∃ e, migrateP v c d to = ((0, 0, []), e) ∧ e ≠ 0 ∧ (checkE v to = 0 → e = 132)) := by
  unfold migrateP
  by_cases hc : checkE v to = 0
  · rw [if_neg (by simp [hc])]
    by_cases hr : rightB v d.length = false
    · rw [if_pos hr]; exact .inr ⟨132, rfl, by decide, fun _ => rfl⟩
    · rw [if_neg hr]
      have hl : d.length ≤ 1000 := by simp [rightB] at hr; exact hr.2
      cases hm : mig to c v d with
      | none => exact .inr ⟨132, rfl, by decide, fun _ => rfl⟩
      | some d' => exact .inl ⟨d', rfl, rfl, hc, hl, (mig_back hc hl hm).2⟩
  · rw [if_pos hc]; exact .inr ⟨_, rfl, hc, fun h => absurd h hc⟩
theorem migrateP_ok {v to : Int} {c : Nat} {d d' : List UInt8} (h : checkE v to = 0) (hd : d.length ≤ 1000) (hm : mig to c v d = some d') : migrateP v c d to = ((to, c, d'), 0) := by
  unfold migrateP
  rw [if_neg (by simp [h]), if_neg (by simp [right_of h hd]), hm]
end Go.Proofs.YtpiccdmaakipaaaDoor
