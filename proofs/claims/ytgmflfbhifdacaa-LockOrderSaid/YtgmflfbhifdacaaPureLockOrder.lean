/- The pure statement of the law LockOrder, proved. Conditions: none. -/
import Derived.Test.YtgmflfbhifdacaaDefLockOrder
import Derived.Test.YtgmflfbhifdacaaLockL
namespace Go.Proofs.Ytgmflfbhifdacaa.Pure
open Go.RowKit Go.Proofs.Ytgmflfbhifdacaa.Pr Go.Proofs.YtgmflfbhifdacaaW.PrintWords Go.Proofs.YtgmflfbhifdacaaW.PrintLast Go.Proofs.YtgmflfbhifdacaaW.PrintMore
theorem elder_iff (a b c d : Int) : elderB ⟨a, b⟩ ⟨c, d⟩ = decide (a < c ∨ a = c ∧ b < d) := by
  unfold elderB
  by_cases h1 : a < c
  · simp [h1]
  · by_cases h2 : a = c
    · subst h2
      simp
    · have : (a == c) = false := beq_eq_false_iff_ne.2 h2
      simp [h1, h2, this]
theorem LockOrder : ferrulelaw12_LockOrder.Pure := by
  intro a0 a1 b0 b1 c0 c1 _ _ _
  unfold ferrulelaw12_LockOrder.f lock_Elder.f
  rw [shown_true]
  simp only [Option.bind_some, elder_iff]
  by_cases h1 : a0 < b0 ∨ a0 = b0 ∧ a1 < b1
  · by_cases h2 : b0 < a0 ∨ b0 = a0 ∧ b1 < a1
    · omega
    · have h3 : ¬ (a0 = b0 ∧ a1 = b1) := by omega
      have e1 : (a0 == b0 && (a1 == b1)) = false := by
        by_cases h : a0 = b0
        · have : a1 ≠ b1 := fun e => h3 ⟨h, e⟩
          simp [this]
        · simp [h]
      have e2 : (!(a0 == b0) || (!(a1 == b1))) = true := by
        by_cases h : a0 = b0
        · have : a1 ≠ b1 := fun e => h3 ⟨h, e⟩
          simp [this]
        · simp [h]
      rw [decide_eq_true h1, decide_eq_false h2, e1, e2]
      by_cases h4 : b0 < c0 ∨ b0 = c0 ∧ b1 < c1
      · have h5 : a0 < c0 ∨ a0 = c0 ∧ a1 < c1 := by omega
        rw [decide_eq_true h4, decide_eq_true h5]
        rfl
      · rw [decide_eq_false h4]
        rfl
  · by_cases h2 : b0 < a0 ∨ b0 = a0 ∧ b1 < a1
    · have h3 : ¬ (a0 = b0 ∧ a1 = b1) := by omega
      have e1 : (a0 == b0 && (a1 == b1)) = false := by
        by_cases h : a0 = b0
        · have : a1 ≠ b1 := fun e => h3 ⟨h, e⟩
          simp [this]
        · simp [h]
      have e2 : (!(a0 == b0) || (!(a1 == b1))) = true := by
        by_cases h : a0 = b0
        · have : a1 ≠ b1 := fun e => h3 ⟨h, e⟩
          simp [this]
        · simp [h]
      rw [decide_eq_false h1, decide_eq_true h2, e1, e2]
      rfl
    · have h3 : a0 = b0 ∧ a1 = b1 := by omega
      obtain ⟨rfl, rfl⟩ := h3
      rw [decide_eq_false h1]
      simp
end Go.Proofs.Ytgmflfbhifdacaa.Pure
