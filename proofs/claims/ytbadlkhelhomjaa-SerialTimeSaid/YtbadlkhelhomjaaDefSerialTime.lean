/- The pure statement of the law SerialTime: a definition, printed. Conditions: none. -/
import Derived.Test.YtbadlkhelhomjaaPr6
import Derived.Test.YtbadlkhelhomjaaOps
namespace Go.Proofs.Ytbadlkhelhomjaa.Pr
open Go.RowKit Go.Proofs.YtbadlkhelhomjaaW.PrintWords Go.Proofs.YtbadlkhelhomjaaW.PrintLast Go.Proofs.YtbadlkhelhomjaaW.PrintMore
def ferrulelaw21_SerialTime.Pure : Prop := ∀ (l0 : List (S27)), (l0.length ≤ maxLen ∧ l0.length * 80 ≤ 140737488351232 ∧ ∀ y, y ∈ l0 → q27 y) → ∃ k, ferrulelaw21_SerialTime.f k l0 = some true
end Go.Proofs.Ytbadlkhelhomjaa.Pr
