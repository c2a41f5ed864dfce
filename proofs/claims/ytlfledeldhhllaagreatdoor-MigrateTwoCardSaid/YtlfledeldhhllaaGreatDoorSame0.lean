/- EQUALITY of messages, of eras, as Go's == and != have it. No condition. -/
import Derived.Test.YtlfledeldhhllaaGreatDoorEpB
import Derived.Test.YtlfledeldhhllaaGreatDoorValMsg
import Derived.Test.YtlfledeldhhllaaGreatDoorValEra
namespace Go.Proofs.YtlfledeldhhllaaGreatDoor
open Go Go.RowKit Go.Shelf Go.Extern.Stop Go.Stop Go.Extern

theorem bs_inj {a b : List UInt8} : ((bs a).toList == (bs b).toList) = decide (a = b) := by
  rw [bs_toList, bs_toList]
  by_cases h : a = b
  · simp [h]
  · simp [h]
theorem msg_neq (a b : MsgD) (w : World) : (binOp .neq 54 (msgV a) (msgV b)).run Tryz.prog w = .ok (.bool (decide (a ≠ b))) w := by
  obtain ⟨⟨i, c⟩, d⟩ := a
  obtain ⟨⟨i', c'⟩, d'⟩ := b
  unfold msgV
  rw [run_neq_struct]
  simp [go_sem, bs_inj]
  by_cases h1 : i = i' <;> by_cases h2 : c = c' <;> by_cases h3 : d = d' <;> simp [h1, h2, h3] <;> omega
theorem era_neq (a b : EraD) (w : World) : (binOp .neq 42 (eraV a) (eraV b)).run Tryz.prog w = .ok (.bool (decide (a ≠ b))) w := by
  obtain ⟨i, c, d⟩ := a
  obtain ⟨i', c', d'⟩ := b
  unfold eraV
  rw [run_neq_struct]
  simp [go_sem]
  by_cases h1 : i = i' <;> by_cases h2 : c = c' <;> by_cases h3 : d = d' <;> simp [h1, h2, h3] <;> omega
end Go.Proofs.YtlfledeldhhllaaGreatDoor
