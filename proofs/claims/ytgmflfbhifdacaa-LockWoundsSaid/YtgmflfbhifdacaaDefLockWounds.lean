/- The pure statement of the law LockWounds: a definition, printed. Conditions: none. -/
import Derived.Test.YtgmflfbhifdacaaPr6
import Derived.Test.YtgmflfbhifdacaaOps
namespace Go.Proofs.Ytgmflfbhifdacaa.Pr
open Go.RowKit Go.Proofs.YtgmflfbhifdacaaW.PrintWords Go.Proofs.YtgmflfbhifdacaaW.PrintLast Go.Proofs.YtgmflfbhifdacaaW.PrintMore
def ferrulelaw12_LockWounds.Pure : Prop := ∀ (l0_0 : List (S40)) (a0_1 : Int) (a0_2 : Int) (a0_3 : ByteArray) (a0_4 : Bool) (l0_5 : List (S25)) (a0_6 : Int) (a0_7 : Int) (a0_8 : ByteArray), q47 (⟨l0_0, (⟨(⟨a0_1, a0_2⟩ : S25), a0_3, a0_4⟩ : S27), l0_5, (⟨a0_6, a0_7⟩ : S25), a0_8⟩ : S47) → ∃ k, ferrulelaw12_LockWounds.f k l0_0 a0_1 a0_2 a0_3 a0_4 l0_5 a0_6 a0_7 a0_8 = some true
end Go.Proofs.Ytgmflfbhifdacaa.Pr
