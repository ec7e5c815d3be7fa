/- rlog.Newer: what it computes, and that it does. Conditions: none. -/
import Derived.Test.YtbjeoaklpcbocaaPr0
import Derived.WalkLawsBesides
namespace Go.Proofs.Ytbjeoaklpcbocaa.Pr
open Go.RowKit Go.Proofs.YtbjeoaklpcbocaaW.PrintWords Go.Proofs.YtbjeoaklpcbocaaW.PrintLast Go.Proofs.YtbjeoaklpcbocaaW.PrintMore
set_option linter.unusedVariables false
set_option linter.unusedSimpArgs false
def newerB (a0 a1 a2 a3 : Int) : Bool := decide (a2 < a0) || (a0 == a2 && decide (a3 ≤ a1))
def rlog_Newer.f (a0 a1 a2 a3 : Int) : Option Bool := some (newerB a0 a1 a2 a3)
set_option maxHeartbeats 8000000 in
theorem rlog_Newer.calls0 (a0 : Int) (a1 : Int) (a2 : Int) (a3 : Int) (r : Bool) (w : World) (h : rlog_Newer.f a0 a1 a2 a3 = some r) :
    Calls Try.prog 17 #[.int .u64 a0, .int .u64 a1, .int .u64 a2, .int .u64 a3] w fun e w' => e = .returned (.bool r) ∧ Drawn0 w w' := by
  obtain rfl := Option.some.inj h
  by_cases c : a2 < a0
  · have cb := decide_eq_true c
    have e : newerB a0 a1 a2 a3 = true := by simp [newerB, c]
    rw [e]
    clear e c h
    go_enter Try.func17, Try.ntmps17
    go_wp2
    go_ret
    exact ⟨rfl, Drawn0.refl _⟩
  · have cb := decide_eq_false c
    by_cases d : a0 = a2
    · have e : newerB a0 a1 a2 a3 = decide (a3 ≤ a1) := by simp [newerB, d]
      rw [e]
      have db : (a0 == a2) = true := beq_iff_eq.mpr d
      clear e c h d
      go_enter Try.func17, Try.ntmps17
      go_wp2
      go_ret
      exact ⟨rfl, Drawn0.refl _⟩
    · have e : newerB a0 a1 a2 a3 = false := by simp [newerB, d, c]
      rw [e]
      have db : (a0 == a2) = false := beq_eq_false_iff_ne.mpr d
      clear e c h d
      go_enter Try.func17, Try.ntmps17
      go_wp2
      go_ret
      exact ⟨rfl, Drawn0.refl _⟩
theorem rlog_Newer.calls (a0 : Int) (a1 : Int) (a2 : Int) (a3 : Int) (r : Bool) (w : World) (h : rlog_Newer.f a0 a1 a2 a3 = some r) :
    Calls Try.prog 17 #[.int .u64 a0, .int .u64 a1, .int .u64 a2, .int .u64 a3] w fun e w' => e = .returned (.bool r) ∧ Below w.heap.size w w' := (rlog_Newer.calls0 a0 a1 a2 a3 r w h).mono fun _ _ ⟨he, hd⟩ => ⟨he, hd.below⟩
end Go.Proofs.Ytbjeoaklpcbocaa.Pr
