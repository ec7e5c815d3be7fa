/- The pure statement of the law SealTakes: a definition, printed. Conditions: none. -/
import Derived.Test.YtkkkpmobdaebgaaPr14
import Derived.Test.YtkkkpmobdaebgaaOps
namespace Go.Proofs.Ytkkkpmobdaebgaa.Pr
open Go.RowKit Go.Proofs.YtkkkpmobdaebgaaW.PrintWords Go.Proofs.YtkkkpmobdaebgaaW.PrintLast Go.Proofs.YtkkkpmobdaebgaaW.PrintMore
def ferrulelaw02_SealTakes.Pure : Prop := ∀ (a0 : ByteArray), (a0.size ≤ 140737488351232) → ∃ k, ferrulelaw02_SealTakes.f k a0 = some true
end Go.Proofs.Ytkkkpmobdaebgaa.Pr
