/- The pure statement of the law SerialFinds: a definition, printed. Conditions: none. -/
import Derived.Test.YtbadlkhelhomjaaPr9
import Derived.Test.YtbadlkhelhomjaaOps
namespace Go.Proofs.Ytbadlkhelhomjaa.Pr
open Go.RowKit Go.Proofs.YtbadlkhelhomjaaW.PrintWords Go.Proofs.YtbadlkhelhomjaaW.PrintLast Go.Proofs.YtbadlkhelhomjaaW.PrintMore
def ferrulelaw21_SerialFinds.Pure : Prop := ∀ (l0 : List (S27)) (l1 : List Int), (l0.length ≤ maxLen ∧ l0.length * 80 ≤ 140737488351232 ∧ ∀ y, y ∈ l0 → q27 y) → (l1.length ≤ maxLen ∧ l1.length * 8 ≤ 140737488351232 ∧ ∀ y, y ∈ l1 → (Lit.int .i64 y).wf = true) → ferrulelaw21_SerialFinds.f l0 l1 = some true
end Go.Proofs.Ytbadlkhelhomjaa.Pr
