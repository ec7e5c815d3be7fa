/- The pure statement of the law LockAsks: a definition, printed. Conditions: none. -/
import Derived.Test.YtgmflfbhifdacaaPr9
import Derived.Test.YtgmflfbhifdacaaOps
namespace Go.Proofs.Ytgmflfbhifdacaa.Pr
open Go.RowKit Go.Proofs.YtgmflfbhifdacaaW.PrintWords Go.Proofs.YtgmflfbhifdacaaW.PrintLast Go.Proofs.YtgmflfbhifdacaaW.PrintMore
def ferrulelaw12_LockAsks.Pure : Prop := ∀ (l0 : List (S40)) (a1_0 : Int) (a1_1 : Int) (a1_2 : ByteArray) (a1_3 : Bool) (l2 : List (S25)), (l0.length ≤ maxLen ∧ l0.length * 40 ≤ 140737488351232 ∧ ∀ y, y ∈ l0 → q40 y) → q27 (⟨(⟨a1_0, a1_1⟩ : S25), a1_2, a1_3⟩ : S27) → (l2.length ≤ maxLen ∧ l2.length * 16 ≤ 140737488351232 ∧ ∀ y, y ∈ l2 → q25 y) → ∃ k, ferrulelaw12_LockAsks.f k l0 a1_0 a1_1 a1_2 a1_3 l2 = some true
end Go.Proofs.Ytgmflfbhifdacaa.Pr
