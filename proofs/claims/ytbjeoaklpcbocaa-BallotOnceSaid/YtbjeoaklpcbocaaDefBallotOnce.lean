/- The pure statement of the law BallotOnce: a definition, printed. Conditions: none. -/
import Derived.Test.YtbjeoaklpcbocaaHandLawO
import Derived.Test.YtbjeoaklpcbocaaOps
namespace Go.Proofs.Ytbjeoaklpcbocaa.Pr
open Go.RowKit Go.Proofs.YtbjeoaklpcbocaaW.PrintWords Go.Proofs.YtbjeoaklpcbocaaW.PrintLast Go.Proofs.YtbjeoaklpcbocaaW.PrintMore
def ferrulelaw07_BallotOnce.Pure : Prop := ∀ (a0_0 : Int) (a0_1 : Int) (a0_2 : Int) (a0_3 : Int) (a0_4 : Bool) (l1 : List (S26)), q24 (⟨a0_0, a0_1, a0_2, a0_3, a0_4⟩ : S24) → (l1.length ≤ maxLen ∧ l1.length * 40 ≤ 140737488351232 ∧ ∀ y, y ∈ l1 → q26 y) → ferrulelaw07_BallotOnce.f a0_0 a0_1 a0_2 a0_3 a0_4 l1 = some true
end Go.Proofs.Ytbjeoaklpcbocaa.Pr
