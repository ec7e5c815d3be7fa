/- The pure statement of the law PackTexts: a definition, printed. Conditions: none. -/
import Derived.Test.YtajphdkolpkloaaPr15
import Derived.Test.YtajphdkolpkloaaOps
namespace Go.Proofs.Ytajphdkolpkloaa.Pr
open Go.RowKit Go.Proofs.YtajphdkolpkloaaW.PrintWords Go.Proofs.YtajphdkolpkloaaW.PrintLast Go.Proofs.YtajphdkolpkloaaW.PrintMore
def ferrulelaw01_PackTexts.Pure : Prop := ∀ (a0 : ByteArray) (a1 : ByteArray), (a0.size ≤ 140737488351232) → (a1.size ≤ 140737488351232) → ∃ k, ferrulelaw01_PackTexts.f k a0 a1 = some true
end Go.Proofs.Ytajphdkolpkloaa.Pr
