/- The pure statement of the law RlogInstalls: a definition, printed. Conditions: none. -/
import Derived.Test.YtbejichfgednhaaPr12
import Derived.Test.YtbejichfgednhaaOps
namespace Go.Proofs.Ytbejichfgednhaa.Pr
open Go.RowKit Go.Proofs.YtbejichfgednhaaW.PrintWords Go.Proofs.YtbejichfgednhaaW.PrintLast Go.Proofs.YtbejichfgednhaaW.PrintMore
def ferrulelaw05_RlogInstalls.Pure : Prop := ∀ (a0_0 : Int) (a0_1 : Int) (a0_2 : ByteArray) (l0_3 : List (S36)) (a0_4 : Int) (a0_5 : Int) (a0_6 : ByteArray), q48 (⟨(⟨a0_0, a0_1, a0_2, l0_3⟩ : S25), a0_4, a0_5, a0_6⟩ : S48) → ∃ k, ferrulelaw05_RlogInstalls.f k a0_0 a0_1 a0_2 l0_3 a0_4 a0_5 a0_6 = some true
end Go.Proofs.Ytbejichfgednhaa.Pr
