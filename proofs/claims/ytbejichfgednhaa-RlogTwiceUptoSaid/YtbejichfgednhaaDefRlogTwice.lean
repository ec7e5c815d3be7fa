/- The pure statement of the law RlogTwice: a definition, printed. Conditions: none. -/
import Derived.Test.YtbejichfgednhaaPr6
import Derived.Test.YtbejichfgednhaaOpsU
namespace Go.Proofs.Ytbejichfgednhaa.Pr
open Go.RowKit Go.Proofs.YtbejichfgednhaaW.PrintWords Go.Proofs.YtbejichfgednhaaW.PrintLast Go.Proofs.YtbejichfgednhaaW.PrintMore
def ferrulelaw05_RlogTwice.Pure : Prop := ∀ (a0_0 : Int) (a0_1 : Int) (a0_2 : ByteArray) (l0_3 : List (S36)) (a0_4 : Int) (a0_5 : Int) (l0_6 : List (S36)), q27 (⟨(⟨a0_0, a0_1, a0_2, l0_3⟩ : S25), a0_4, a0_5, l0_6⟩ : S27) → ∃ k, ferrulelaw05_RlogTwice.f k a0_0 a0_1 a0_2 l0_3 a0_4 a0_5 l0_6 = some true
end Go.Proofs.Ytbejichfgednhaa.Pr
