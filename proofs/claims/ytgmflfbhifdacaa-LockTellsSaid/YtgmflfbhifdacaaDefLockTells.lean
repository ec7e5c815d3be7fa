/- The pure statement of the law LockTells: a definition, printed. Conditions: none. -/
import Derived.Test.YtgmflfbhifdacaaPr15
import Derived.Test.YtgmflfbhifdacaaOps
namespace Go.Proofs.Ytgmflfbhifdacaa.Pr
open Go.RowKit Go.Proofs.YtgmflfbhifdacaaW.PrintWords Go.Proofs.YtgmflfbhifdacaaW.PrintLast Go.Proofs.YtgmflfbhifdacaaW.PrintMore
def ferrulelaw12_LockTells.Pure : Prop := ∀ (l0 : List (S40)) (a1_0 : Int) (a1_1 : Int) (a1_2 : ByteArray) (a1_3 : Bool) (a2_0 : Int) (a2_1 : Int), (l0.length ≤ maxLen ∧ l0.length * 40 ≤ 140737488351232 ∧ ∀ y, y ∈ l0 → q40 y) → q27 (⟨(⟨a1_0, a1_1⟩ : S25), a1_2, a1_3⟩ : S27) → q25 (⟨a2_0, a2_1⟩ : S25) → ∃ k, ferrulelaw12_LockTells.f k l0 a1_0 a1_1 a1_2 a1_3 a2_0 a2_1 = some true
end Go.Proofs.Ytgmflfbhifdacaa.Pr
