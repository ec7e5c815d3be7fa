/- The pure statement of the law SealPuts, proved. Conditions: none. -/
import Derived.Test.YtkkkpmobdaebgaaDefSealPuts
import Derived.Test.YtkkkpmobdaebgaaSealP
namespace Go.Proofs.Ytkkkpmobdaebgaa.Pure
open Go.RowKit Go.Proofs.Ytkkkpmobdaebgaa.Pr Go.Proofs.YtkkkpmobdaebgaaW.PrintWords Go.Proofs.YtkkkpmobdaebgaaW.PrintLast Go.Proofs.YtkkkpmobdaebgaaW.PrintMore
theorem SealPuts : ferrulelaw02_SealPuts.Pure := by
  intro a ha
  refine ⟨a.size + 30, ?_⟩
  unfold ferrulelaw02_SealPuts.f
  rw [shown_true]
  by_cases h : a.size ≤ 65536
  · rw [put_f h, rput_f h _ (Nat.le_refl _)]
    simp only [Option.bind_some, if_true, BEq.rfl]
  · rw [put_big h, rput_big h]
    simp only [Option.bind_some, if_true, BEq.rfl]
end Go.Proofs.Ytkkkpmobdaebgaa.Pure
