/- The pure statement of the law SealBack: a definition, printed. Conditions: none. -/
import Derived.Test.YtkkkpmobdaebgaaPr15
import Derived.Test.YtkkkpmobdaebgaaOps
namespace Go.Proofs.Ytkkkpmobdaebgaa.Pr
open Go.RowKit Go.Proofs.YtkkkpmobdaebgaaW.PrintWords Go.Proofs.YtkkkpmobdaebgaaW.PrintLast Go.Proofs.YtkkkpmobdaebgaaW.PrintMore
def ferrulelaw02_SealBack.Pure : Prop := ∀ (a0 : ByteArray) (a1 : ByteArray) (a2 : Int), (a0.size ≤ 140737488351232) → (a1.size ≤ 140737488351232) → ((Lit.int .i64 a2).wf = true) → ∃ k, ferrulelaw02_SealBack.f k a0 a1 a2 = some true
end Go.Proofs.Ytkkkpmobdaebgaa.Pr
