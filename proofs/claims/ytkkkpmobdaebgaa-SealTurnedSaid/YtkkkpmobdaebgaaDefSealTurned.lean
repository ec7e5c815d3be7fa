/- The pure statement of the law SealTurned: a definition, printed. Conditions: none. -/
import Derived.Test.YtkkkpmobdaebgaaHandTurned
import Derived.Test.YtkkkpmobdaebgaaOps
namespace Go.Proofs.Ytkkkpmobdaebgaa.Pr
open Go.RowKit Go.Proofs.YtkkkpmobdaebgaaW.PrintWords Go.Proofs.YtkkkpmobdaebgaaW.PrintLast Go.Proofs.YtkkkpmobdaebgaaW.PrintMore
def ferrulelaw02_SealTurned.Pure : Prop := ∀ (a0 : ByteArray) (a1 : Int) (a2 : Int), (a0.size ≤ 140737488351232) → ((Lit.int .i64 a1).wf = true) → ((Lit.int .i64 a2).wf = true) → ∃ k, ferrulelaw02_SealTurned.f k a0 a1 a2 = some true
end Go.Proofs.Ytkkkpmobdaebgaa.Pr
