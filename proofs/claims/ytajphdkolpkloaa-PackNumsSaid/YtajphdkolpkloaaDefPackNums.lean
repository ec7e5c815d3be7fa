/- The pure statement of the law PackNums: a definition, printed. Conditions: none. -/
import Derived.Test.YtajphdkolpkloaaPr6
import Derived.Test.YtajphdkolpkloaaOps
namespace Go.Proofs.Ytajphdkolpkloaa.Pr
open Go.RowKit Go.Proofs.YtajphdkolpkloaaW.PrintWords Go.Proofs.YtajphdkolpkloaaW.PrintLast Go.Proofs.YtajphdkolpkloaaW.PrintMore
def ferrulelaw01_PackNums.Pure : Prop := ∀ (a0 : Int), ((Lit.int .u64 a0).wf = true) → ∃ k, ferrulelaw01_PackNums.f k a0 = some true
end Go.Proofs.Ytajphdkolpkloaa.Pr
