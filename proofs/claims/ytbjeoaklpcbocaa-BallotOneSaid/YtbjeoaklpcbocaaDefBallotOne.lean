/- The pure statement of the law BallotOne: a definition, printed. Conditions: none. -/
import Derived.Test.YtbjeoaklpcbocaaPr5
import Derived.Test.YtbjeoaklpcbocaaOps
namespace Go.Proofs.Ytbjeoaklpcbocaa.Pr
open Go.RowKit Go.Proofs.YtbjeoaklpcbocaaW.PrintWords Go.Proofs.YtbjeoaklpcbocaaW.PrintLast Go.Proofs.YtbjeoaklpcbocaaW.PrintMore
def ferrulelaw07_BallotOne.Pure : Prop := ∀ (l0_0 : List Int) (l0_1 : List Int) (l0_2 : List (S26)) (l0_3 : List Int) (a0_4 : Int), q38 (⟨(⟨l0_0, l0_1⟩ : S35), l0_2, l0_3, a0_4⟩ : S38) → ∃ k, ferrulelaw07_BallotOne.f k l0_0 l0_1 l0_2 l0_3 a0_4 = some true
end Go.Proofs.Ytbjeoaklpcbocaa.Pr
