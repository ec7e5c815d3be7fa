/- The pure statement of the law PackOrder: a definition, printed. Conditions: none. -/
import Derived.Test.YtajphdkolpkloaaPr11
import Derived.Test.YtajphdkolpkloaaOps
namespace Go.Proofs.Ytajphdkolpkloaa.Pr
open Go.RowKit Go.Proofs.YtajphdkolpkloaaW.PrintWords Go.Proofs.YtajphdkolpkloaaW.PrintLast Go.Proofs.YtajphdkolpkloaaW.PrintMore
def ferrulelaw01_PackOrder.Pure : Prop := ∀ (a0 : Int) (a1 : Int), ((Lit.int .u64 a0).wf = true) → ((Lit.int .u64 a1).wf = true) → ∃ k, ferrulelaw01_PackOrder.f k a0 a1 = some true
end Go.Proofs.Ytajphdkolpkloaa.Pr
