/- The pure statement of the law TapeCrashes, proved. Conditions: none. -/
import Derived.Test.YtofdgkcaimifkaaDefTapeCrashes
import Derived.Test.YtofdgkcaimifkaaTapeL
namespace Go.Proofs.Ytofdgkcaimifkaa.Pure
open Go.RowKit Go.Proofs.Ytofdgkcaimifkaa.Pr Go.Proofs.YtofdgkcaimifkaaW.PrintWords Go.Proofs.YtofdgkcaimifkaaW.PrintLast Go.Proofs.YtofdgkcaimifkaaW.PrintMore
theorem crash_both (sf rs : ByteArray) (p : Int) (off : Bool) (a : Int) (h : sf.size + rs.size ≤ 4611686018427387904) : ∃ r, tape_Crash.f sf rs p off a = some r ∧ ferruleref03_Crash.f sf rs p off a = some r := by
  unfold tape_Crash.f ferruleref03_Crash.f crashI
  rw [if_pos h]
  exact ⟨_, rfl, rfl⟩
theorem powered_both (sf rs : ByteArray) (p : Int) (off : Bool) (a : Int) : ∃ r, tape_Powered.f sf rs p off a = some r ∧ ferruleref03_Powered.f sf rs p off a = some r := by
  refine ⟨_, rfl, ?_⟩
  unfold ferruleref03_Powered.f mx
  by_cases c : a < 0
  · rw [if_pos c]
    by_cases c2 : a < -1
    · rw [if_pos c2]
    · rw [if_neg c2]
      have : a = -1 := by omega
      rw [this]
  · rw [if_neg c, if_neg (by omega)]
theorem TapeCrashes : ferrulelaw03_TapeCrashes.Pure := by
  intro sf rs p off a b hq _ _
  have h1 : sf.size ≤ 140737488351232 := hq.1
  have h2 : rs.size ≤ 140737488351232 := hq.2.1
  obtain ⟨r, e1, e2⟩ := crash_both sf rs p off a (by omega)
  obtain ⟨q, e3, e4⟩ := powered_both sf rs p off b
  unfold ferrulelaw03_TapeCrashes.f
  rw [shown_true, e1, e2, e3, e4]
  simp
end Go.Proofs.Ytofdgkcaimifkaa.Pure
