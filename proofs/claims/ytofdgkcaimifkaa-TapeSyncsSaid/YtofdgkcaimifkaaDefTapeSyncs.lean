/- The pure statement of the law TapeSyncs: a definition, printed. Conditions: none. -/
import Derived.Test.YtofdgkcaimifkaaPr6
import Derived.Test.YtofdgkcaimifkaaOps
namespace Go.Proofs.Ytofdgkcaimifkaa.Pr
open Go.RowKit Go.Proofs.YtofdgkcaimifkaaW.PrintWords Go.Proofs.YtofdgkcaimifkaaW.PrintLast Go.Proofs.YtofdgkcaimifkaaW.PrintMore
def ferrulelaw03_TapeSyncs.Pure : Prop := ∀ (a0_0 : ByteArray) (a0_1 : ByteArray) (a0_2 : Int) (a0_3 : Bool) (a1 : ByteArray), q23 (⟨a0_0, a0_1, a0_2, a0_3⟩ : S23) → (a1.size ≤ 140737488351232) → ferrulelaw03_TapeSyncs.f a0_0 a0_1 a0_2 a0_3 a1 = some true
end Go.Proofs.Ytofdgkcaimifkaa.Pr
