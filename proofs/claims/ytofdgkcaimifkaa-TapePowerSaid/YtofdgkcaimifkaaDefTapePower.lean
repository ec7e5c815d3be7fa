/- The pure statement of the law TapePower: a definition, printed. Conditions: none. -/
import Derived.Test.YtofdgkcaimifkaaPr9
import Derived.Test.YtofdgkcaimifkaaOps
namespace Go.Proofs.Ytofdgkcaimifkaa.Pr
open Go.RowKit Go.Proofs.YtofdgkcaimifkaaW.PrintWords Go.Proofs.YtofdgkcaimifkaaW.PrintLast Go.Proofs.YtofdgkcaimifkaaW.PrintMore
def ferrulelaw03_TapePower.Pure : Prop := ∀ (a0 : Int) (a1 : Int), ((Lit.int .i64 a0).wf = true) → ((Lit.int .i64 a1).wf = true) → ∃ k, ferrulelaw03_TapePower.f k a0 a1 = some true
end Go.Proofs.Ytofdgkcaimifkaa.Pr
