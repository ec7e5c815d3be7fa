/- The law's example: it is true. Conditions: none. -/
import Derived.Test.YtbjeoaklpcbocaaHandAnswer
namespace Go.Proofs.Ytbjeoaklpcbocaa.Pr
open Go.RowKit Go.Proofs.YtbjeoaklpcbocaaW.PrintWords Go.Proofs.YtbjeoaklpcbocaaW.PrintLast Go.Proofs.YtbjeoaklpcbocaaW.PrintMore
open Go.Proofs.Ytbjeoaklpcbocaa.Hnd
attribute [local go_sem] setCell_drewN_ alloc_drewN_
set_option linter.unusedVariables false
set_option linter.unusedSimpArgs false
def ferrulelaw07_shown.f : Option Bool := some true
theorem shown1 : ballot_Answer.f 3 0 1 2 false 4 5 1 2 false = some (4, 5, 1, 2, false, true) := by decide
theorem shown2 : ballot_Answer.f 4 5 1 2 false 4 6 9 9 false = some (4, 5, 1, 2, false, false) := by decide
set_option maxHeartbeats 8000000 in
set_option maxRecDepth 100000 in
theorem ferrulelaw07_shown.calls (r : Bool) (w : World) (h : ferrulelaw07_shown.f = some r) : Calls Try.prog 8 #[] w fun e w' => e = .returned (.bool r) ∧ Below w.heap.size w w' := by
  obtain rfl := Option.some.inj h
  clear h
  have H1 := fun W => Aside0.mk (ballot_Answer.calls _ _ _ _ _ _ _ _ _ _ _ _ _ _ _ _ W shown1)
  have H2 := fun W => Aside0.mk (ballot_Answer.calls _ _ _ _ _ _ _ _ _ _ _ _ _ _ _ _ W shown2)
  go_enter Try.func8, Try.ntmps8
  go_wp2_with fail
  refine (H1 _).out.mono ?_
  rintro e w1 ⟨rfl, hb1⟩
  go_wp2_with fail
  refine (H2 _).out.mono ?_
  rintro e w2 ⟨rfl, hb2⟩
  have k1 := cell_new hb2
  have z1 := lt_new hb2
  have B2 := Aside0.mk (below_call (hb1.alloc hb1.size _) hb2)
  clear hb1 hb2 H1 H2
  go_wp2
  go_ret
  exact ⟨rfl, B2.out.alloc B2.out.size _⟩
end Go.Proofs.Ytbjeoaklpcbocaa.Pr
