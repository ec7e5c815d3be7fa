/- Several texts of one depth, laid together. Conditions: none. -/
import Derived.Test.YtfjhlcbpogihmaaGPostTakesPr60
import Derived.Test.YtfjhlcbpogihmaaKPostTakes1
import Derived.Test.YtfjhlcbpogihmaaKPostTakes4
namespace Go.Proofs.Ytfjhlcbpogihmaa.Pr
open Go.RowKit Go.Proofs.YtfjhlcbpogihmaaW.PrintWords Go.Proofs.YtfjhlcbpogihmaaW.PrintLast Go.Proofs.YtfjhlcbpogihmaaW.PrintMore
def ferrulelaw17_PostTakes.Pure : Prop := ∀ (a0 : ByteArray), (a0.size ≤ 140737488351232) → ∃ k, ferrulelaw17_PostTakes.f k a0 = some true
end Go.Proofs.Ytfjhlcbpogihmaa.Pr
namespace Go.Proofs.Ytfjhlcbpogihmaa.Pure
open Go.RowKit Go.Proofs.Ytfjhlcbpogihmaa.Pr Go.Proofs.YtfjhlcbpogihmaaW.PrintWords Go.Proofs.YtfjhlcbpogihmaaW.PrintLast Go.Proofs.YtfjhlcbpogihmaaW.PrintMore
theorem PostTakes : ferrulelaw17_PostTakes.Pure := by
  intro a ha
  obtain ⟨r, r1, r2, r3⟩ := take_one a ha
  refine Ev.rounds ?_
  unfold ferrulelaw17_PostTakes.f
  rw [pshown_true]
  simp only [Option.bind_some]
  refine Ev.bind r1 ?_
  refine Ev.bind r2 ?_
  refine Ev.bind (a := true) ⟨101, fun k hk => ?_⟩ ?_
  · dsimp only
    rw [same_2 _ _ _ _ _ _ _ _ _ _ _ _ _ _ _ _ _ _ _ _ (by omega) _ (by omega), sameM_self]
  · simp only [if_true, BEq.rfl]
    exact Ev.now true
end Go.Proofs.Ytfjhlcbpogihmaa.Pure
