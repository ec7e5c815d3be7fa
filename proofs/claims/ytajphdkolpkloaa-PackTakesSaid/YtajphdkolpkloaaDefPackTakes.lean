/- The pure statement of the law PackTakes: a definition, printed. Conditions: none. -/
import Derived.Test.YtajphdkolpkloaaPr8
import Derived.Test.YtajphdkolpkloaaOps
namespace Go.Proofs.Ytajphdkolpkloaa.Pr
open Go.RowKit Go.Proofs.YtajphdkolpkloaaW.PrintWords Go.Proofs.YtajphdkolpkloaaW.PrintLast Go.Proofs.YtajphdkolpkloaaW.PrintMore
def ferrulelaw01_PackTakes.Pure : Prop := ∀ (a0 : ByteArray), (a0.size ≤ 140737488351232) → ∃ k, ferrulelaw01_PackTakes.f k a0 = some true
end Go.Proofs.Ytajphdkolpkloaa.Pr
