/- The pure statement of the law TapeReads: a definition, printed. Conditions: none. -/
import Derived.Test.YtofdgkcaimifkaaPr8
import Derived.Test.YtofdgkcaimifkaaOps
namespace Go.Proofs.Ytofdgkcaimifkaa.Pr
open Go.RowKit Go.Proofs.YtofdgkcaimifkaaW.PrintWords Go.Proofs.YtofdgkcaimifkaaW.PrintLast Go.Proofs.YtofdgkcaimifkaaW.PrintMore
def ferrulelaw03_TapeReads.Pure : Prop := ∀ (a0_0 : ByteArray) (a0_1 : ByteArray) (a0_2 : Int) (a0_3 : Bool), q23 (⟨a0_0, a0_1, a0_2, a0_3⟩ : S23) → ferrulelaw03_TapeReads.f a0_0 a0_1 a0_2 a0_3 = some true
end Go.Proofs.Ytofdgkcaimifkaa.Pr
