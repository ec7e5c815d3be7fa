/- The pure statement of the law BallotAnswers: a definition, printed. Conditions: none. -/
import Derived.Test.YtbjeoaklpcbocaaHandLawA
import Derived.Test.YtbjeoaklpcbocaaOps
namespace Go.Proofs.Ytbjeoaklpcbocaa.Pr
open Go.RowKit Go.Proofs.YtbjeoaklpcbocaaW.PrintWords Go.Proofs.YtbjeoaklpcbocaaW.PrintLast Go.Proofs.YtbjeoaklpcbocaaW.PrintMore
def ferrulelaw07_BallotAnswers.Pure : Prop := ∀ (a0_0 : Int) (a0_1 : Int) (a0_2 : Int) (a0_3 : Int) (a0_4 : Bool) (a1_0 : Int) (a1_1 : Int) (a1_2 : Int) (a1_3 : Int) (a1_4 : Bool), q24 (⟨a0_0, a0_1, a0_2, a0_3, a0_4⟩ : S24) → q26 (⟨a1_0, a1_1, a1_2, a1_3, a1_4⟩ : S26) → ferrulelaw07_BallotAnswers.f a0_0 a0_1 a0_2 a0_3 a0_4 a1_0 a1_1 a1_2 a1_3 a1_4 = some true
end Go.Proofs.Ytbjeoaklpcbocaa.Pr
