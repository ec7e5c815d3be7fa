/- The pure statement of the law PackBack: a definition, printed. Conditions: none. -/
import Derived.Test.YtajphdkolpkloaaPr9
import Derived.Test.YtajphdkolpkloaaOps
namespace Go.Proofs.Ytajphdkolpkloaa.Pr
open Go.RowKit Go.Proofs.YtajphdkolpkloaaW.PrintWords Go.Proofs.YtajphdkolpkloaaW.PrintLast Go.Proofs.YtajphdkolpkloaaW.PrintMore
def ferrulelaw01_PackBack.Pure : Prop := ∀ (a0 : Int) (a1 : ByteArray), ((Lit.int .u64 a0).wf = true) → (a1.size ≤ 140737488351232) → ∃ k, ferrulelaw01_PackBack.f k a0 a1 = some true
end Go.Proofs.Ytajphdkolpkloaa.Pr
