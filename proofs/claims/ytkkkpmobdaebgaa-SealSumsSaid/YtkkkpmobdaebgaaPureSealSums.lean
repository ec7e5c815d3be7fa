/- The pure statement of the law SealSums, proved. Conditions: none. -/
import Derived.Test.YtkkkpmobdaebgaaDefSealSums
import Derived.Test.YtkkkpmobdaebgaaSealL
namespace Go.Proofs.Ytkkkpmobdaebgaa.Pure
open Go.RowKit Go.Proofs.Ytkkkpmobdaebgaa.Pr Go.Proofs.YtkkkpmobdaebgaaW.PrintWords Go.Proofs.YtkkkpmobdaebgaaW.PrintLast Go.Proofs.YtkkkpmobdaebgaaW.PrintMore
theorem SealSums : ferrulelaw02_SealSums.Pure := by
  intro a ha
  refine ⟨a.size + 1, ?_⟩
  unfold ferrulelaw02_SealSums.f
  rw [shown_true, sum_f a (by omega), rsum_f a (by omega) _ (Nat.le_refl _)]
  simp only [Option.bind_some, if_true, BEq.rfl]
end Go.Proofs.Ytkkkpmobdaebgaa.Pure
