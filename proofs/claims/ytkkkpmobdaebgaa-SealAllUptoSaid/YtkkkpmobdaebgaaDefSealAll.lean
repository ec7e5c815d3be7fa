/- The pure statement of the law SealAll: a definition, printed. Conditions: none. -/
import Derived.Test.YtkkkpmobdaebgaaHandLAll
import Derived.Test.YtkkkpmobdaebgaaOpsU
namespace Go.Proofs.Ytkkkpmobdaebgaa.Pr
open Go.RowKit Go.Proofs.YtkkkpmobdaebgaaW.PrintWords Go.Proofs.YtkkkpmobdaebgaaW.PrintLast Go.Proofs.YtkkkpmobdaebgaaW.PrintMore
def ferrulelaw02_SealAll.Pure : Prop := ∀ (a0 : ByteArray) (a1 : Int), (a0.size ≤ 1048576) → ((Lit.int .i64 a1).wf = true) → ∃ k, ferrulelaw02_SealAll.f k a0 a1 = some true
end Go.Proofs.Ytkkkpmobdaebgaa.Pr
