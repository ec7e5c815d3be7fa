/- The pure statement of the law BallotSays: a definition, printed. Conditions: none. -/
import Derived.Test.YtbjeoaklpcbocaaPr5
import Derived.Test.YtbjeoaklpcbocaaOps
namespace Go.Proofs.Ytbjeoaklpcbocaa.Pr
open Go.RowKit Go.Proofs.YtbjeoaklpcbocaaW.PrintWords Go.Proofs.YtbjeoaklpcbocaaW.PrintLast Go.Proofs.YtbjeoaklpcbocaaW.PrintMore
def ferrulelaw07_BallotSays.Pure : Prop := ∀ (l0 : List (S46)) (a1_0 : Int) (a1_1 : Bool), (l0.length ≤ maxLen ∧ l0.length * 16 ≤ 140737488351232 ∧ ∀ y, y ∈ l0 → q46 y) → q46 (⟨a1_0, a1_1⟩ : S46) → ∃ k, ferrulelaw07_BallotSays.f k l0 a1_0 a1_1 = some true
end Go.Proofs.Ytbjeoaklpcbocaa.Pr
