/- The pure statement of the law LockRight: a definition, printed. Conditions: none. -/
import Derived.Test.YtgmflfbhifdacaaPr7
import Derived.Test.YtgmflfbhifdacaaOps
namespace Go.Proofs.Ytgmflfbhifdacaa.Pr
open Go.RowKit Go.Proofs.YtgmflfbhifdacaaW.PrintWords Go.Proofs.YtgmflfbhifdacaaW.PrintLast Go.Proofs.YtgmflfbhifdacaaW.PrintMore
def ferrulelaw12_LockRight.Pure : Prop := ∀ (l0 : List (S27)) (l1 : List (S25)), (l0.length ≤ maxLen ∧ l0.length * 40 ≤ 140737488351232 ∧ ∀ y, y ∈ l0 → q27 y) → (l1.length ≤ maxLen ∧ l1.length * 16 ≤ 140737488351232 ∧ ∀ y, y ∈ l1 → q25 y) → ∃ k, ferrulelaw12_LockRight.f k l0 l1 = some true
end Go.Proofs.Ytgmflfbhifdacaa.Pr
