/- The pure statement of the law TapeLasts: a definition, printed. Conditions: none. -/
import Derived.Test.YtofdgkcaimifkaaPr10
import Derived.Test.YtofdgkcaimifkaaOps
namespace Go.Proofs.Ytofdgkcaimifkaa.Pr
open Go.RowKit Go.Proofs.YtofdgkcaimifkaaW.PrintWords Go.Proofs.YtofdgkcaimifkaaW.PrintLast Go.Proofs.YtofdgkcaimifkaaW.PrintMore
def ferrulelaw03_TapeLasts.Pure : Prop := ∀ (l0 : List (S41)), (l0.length ≤ maxLen ∧ l0.length * 32 ≤ 140737488351232 ∧ ∀ y, y ∈ l0 → q41 y) → ∃ k, ferrulelaw03_TapeLasts.f k l0 = some true
end Go.Proofs.Ytofdgkcaimifkaa.Pr
