/- The pure statement of the law SerialAhead: a definition, printed. Conditions: none. -/
import Derived.Test.YtbadlkhelhomjaaPr2
import Derived.Test.YtbadlkhelhomjaaOps
namespace Go.Proofs.Ytbadlkhelhomjaa.Pr
open Go.RowKit Go.Proofs.YtbadlkhelhomjaaW.PrintWords Go.Proofs.YtbadlkhelhomjaaW.PrintLast Go.Proofs.YtbadlkhelhomjaaW.PrintMore
def ferrulelaw21_SerialAhead.Pure : Prop := ∀ (a0_0 : Int) (a0_1 : Int) (a0_2 : Int) (a0_3 : Int) (l0_4 : List (S40)) (l0_5 : List (S40)) (a1_0 : Int) (a1_1 : Int) (a1_2 : Int) (a1_3 : Int) (l1_4 : List (S40)) (l1_5 : List (S40)), q27 (⟨(⟨a0_0, a0_1⟩ : S24), a0_2, a0_3, l0_4, l0_5⟩ : S27) → q27 (⟨(⟨a1_0, a1_1⟩ : S24), a1_2, a1_3, l1_4, l1_5⟩ : S27) → ∃ k, ferrulelaw21_SerialAhead.f k a0_0 a0_1 a0_2 a0_3 l0_4 l0_5 a1_0 a1_1 a1_2 a1_3 l1_4 l1_5 = some true
end Go.Proofs.Ytbadlkhelhomjaa.Pr
