/- The pure statement of the law LockOrder: a definition, printed. Conditions: none. -/
import Derived.Test.YtgmflfbhifdacaaPr6
import Derived.Test.YtgmflfbhifdacaaOps
namespace Go.Proofs.Ytgmflfbhifdacaa.Pr
open Go.RowKit Go.Proofs.YtgmflfbhifdacaaW.PrintWords Go.Proofs.YtgmflfbhifdacaaW.PrintLast Go.Proofs.YtgmflfbhifdacaaW.PrintMore
def ferrulelaw12_LockOrder.Pure : Prop := ∀ (a0_0 : Int) (a0_1 : Int) (a1_0 : Int) (a1_1 : Int) (a2_0 : Int) (a2_1 : Int), q25 (⟨a0_0, a0_1⟩ : S25) → q25 (⟨a1_0, a1_1⟩ : S25) → q25 (⟨a2_0, a2_1⟩ : S25) → ferrulelaw12_LockOrder.f a0_0 a0_1 a1_0 a1_1 a2_0 a2_1 = some true
end Go.Proofs.Ytgmflfbhifdacaa.Pr
