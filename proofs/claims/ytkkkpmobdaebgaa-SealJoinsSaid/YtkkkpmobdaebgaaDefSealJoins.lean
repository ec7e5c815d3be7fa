/- The pure statement of the law SealJoins: a definition, printed. Conditions: none. -/
import Derived.Test.YtkkkpmobdaebgaaHandLJoins
import Derived.Test.YtkkkpmobdaebgaaOps
namespace Go.Proofs.Ytkkkpmobdaebgaa.Pr
open Go.RowKit Go.Proofs.YtkkkpmobdaebgaaW.PrintWords Go.Proofs.YtkkkpmobdaebgaaW.PrintLast Go.Proofs.YtkkkpmobdaebgaaW.PrintMore
def ferrulelaw02_SealJoins.Pure : Prop := ∀ (l0 : List ByteArray) (a1 : ByteArray), (l0.length ≤ maxLen ∧ l0.length * 16 ≤ 140737488351232 ∧ ∀ y, y ∈ l0 → y.size ≤ 140737488351232) → (a1.size ≤ 140737488351232) → ∃ k, ferrulelaw02_SealJoins.f k l0 a1 = some true
end Go.Proofs.Ytkkkpmobdaebgaa.Pr
