/- The pure statement of the law BallotTurns: a definition, printed. Conditions: none. -/
import Derived.Test.YtbjeoaklpcbocaaHandTurns
import Derived.Test.YtbjeoaklpcbocaaOpsU
namespace Go.Proofs.Ytbjeoaklpcbocaa.Pr
open Go.RowKit Go.Proofs.YtbjeoaklpcbocaaW.PrintWords Go.Proofs.YtbjeoaklpcbocaaW.PrintLast Go.Proofs.YtbjeoaklpcbocaaW.PrintMore
def ferrulelaw07_BallotTurns.Pure : Prop := ∀ (l0_0 : List Int) (l0_1 : List Int) (l1 : List (S46)) (l2 : List (S46)), q35 (⟨l0_0, l0_1⟩ : S35) → (l1.length ≤ maxLen ∧ l1.length ≤ 1048576 ∧ ∀ y, y ∈ l1 → q46 y) → (l2.length ≤ maxLen ∧ l2.length ≤ 1048576 ∧ ∀ y, y ∈ l2 → q46 y) → ferrulelaw07_BallotTurns.f l0_0 l0_1 l1 l2 = some true
end Go.Proofs.Ytbjeoaklpcbocaa.Pr
