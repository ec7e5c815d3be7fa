/- Which messages are the same is as the document says: proved of the printed functions. Conditions: none. -/
import Derived.Test.YtfjhlcbpogihmaaDefPostSame
import Derived.Test.YtfjhlcbpogihmaaPostM
namespace Go.Proofs.Ytfjhlcbpogihmaa.Pure
open Go.RowKit Go.Proofs.Ytfjhlcbpogihmaa.Pr Go.Proofs.YtfjhlcbpogihmaaW.PrintWords Go.Proofs.YtfjhlcbpogihmaaW.PrintLast Go.Proofs.YtfjhlcbpogihmaaW.PrintMore
theorem PostSame : ferrulelaw17_PostSame.Pure := by
  intro a0 a1 a2 a3 a4 a5 a6 a7 a8 a9 b0 b1 b2 b3 b4 b5 b6 b7 b8 b9 ha hb
  obtain ⟨_, _, _, _, _, _, _, _, ⟨hl, hl2, _⟩, _⟩ := ha
  dsimp only at hl hl2
  refine ⟨a8.length + 1, ?_⟩
  unfold ferrulelaw17_PostSame.f
  rw [pshown_true, same_1 _ _ _ _ _ _ _ _ _ _ _ _ _ _ _ _ _ _ _ _ (by omega) _ (by omega), same_2 _ _ _ _ _ _ _ _ _ _ _ _ _ _ _ _ _ _ _ _ (by omega) _ (by omega), same_1 _ _ _ _ _ _ _ _ _ _ _ _ _ _ _ _ _ _ _ _ (by omega) _ (by omega), sameM_self]
  simp
end Go.Proofs.Ytfjhlcbpogihmaa.Pure
