/- The pure statement of the law SerialChain: a definition, printed. Conditions: none. -/
import Derived.Test.YtbadlkhelhomjaaPr7
import Derived.Test.YtbadlkhelhomjaaOps
namespace Go.Proofs.Ytbadlkhelhomjaa.Pr
open Go.RowKit Go.Proofs.YtbadlkhelhomjaaW.PrintWords Go.Proofs.YtbadlkhelhomjaaW.PrintLast Go.Proofs.YtbadlkhelhomjaaW.PrintMore
def ferrulelaw21_SerialChain.Pure : Prop := ∀ (a0 : Int) (a1 : Int) (a2 : ByteArray), ((Lit.int .i64 a0).wf = true) → ((Lit.int .i64 a1).wf = true) → (a2.size ≤ 140737488351232) → ∃ k, ferrulelaw21_SerialChain.f k a0 a1 a2 = some true
end Go.Proofs.Ytbadlkhelhomjaa.Pr
