/- The pure statement of the law PackOne: a definition, printed. Conditions: none. -/
import Derived.Test.YtajphdkolpkloaaPr10
import Derived.Test.YtajphdkolpkloaaOps
namespace Go.Proofs.Ytajphdkolpkloaa.Pr
open Go.RowKit Go.Proofs.YtajphdkolpkloaaW.PrintWords Go.Proofs.YtajphdkolpkloaaW.PrintLast Go.Proofs.YtajphdkolpkloaaW.PrintMore
def ferrulelaw01_PackOne.Pure : Prop := ∀ (a0 : ByteArray) (a1 : Int), (a0.size ≤ 140737488351232) → ((Lit.int .i64 a1).wf = true) → ∃ k, ferrulelaw01_PackOne.f k a0 a1 = some true
end Go.Proofs.Ytajphdkolpkloaa.Pr
