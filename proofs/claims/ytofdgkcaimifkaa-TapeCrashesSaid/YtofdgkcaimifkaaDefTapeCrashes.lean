/- The pure statement of the law TapeCrashes: a definition, printed. Conditions: none. -/
import Derived.Test.YtofdgkcaimifkaaPr5
import Derived.Test.YtofdgkcaimifkaaOps
namespace Go.Proofs.Ytofdgkcaimifkaa.Pr
open Go.RowKit Go.Proofs.YtofdgkcaimifkaaW.PrintWords Go.Proofs.YtofdgkcaimifkaaW.PrintLast Go.Proofs.YtofdgkcaimifkaaW.PrintMore
def ferrulelaw03_TapeCrashes.Pure : Prop := ∀ (a0_0 : ByteArray) (a0_1 : ByteArray) (a0_2 : Int) (a0_3 : Bool) (a1 : Int) (a2 : Int), q23 (⟨a0_0, a0_1, a0_2, a0_3⟩ : S23) → ((Lit.int .i64 a1).wf = true) → ((Lit.int .i64 a2).wf = true) → ferrulelaw03_TapeCrashes.f a0_0 a0_1 a0_2 a0_3 a1 a2 = some true
end Go.Proofs.Ytofdgkcaimifkaa.Pr
