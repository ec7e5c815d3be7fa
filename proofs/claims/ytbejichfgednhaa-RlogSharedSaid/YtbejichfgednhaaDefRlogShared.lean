/- The pure statement of the law RlogShared: a definition, printed. Conditions: none. -/
import Derived.Test.YtbejichfgednhaaPr15
import Derived.Test.YtbejichfgednhaaOps
namespace Go.Proofs.Ytbejichfgednhaa.Pr
open Go.RowKit Go.Proofs.YtbejichfgednhaaW.PrintWords Go.Proofs.YtbejichfgednhaaW.PrintLast Go.Proofs.YtbejichfgednhaaW.PrintMore
def ferrulelaw05_RlogShared.Pure : Prop := ∀ (a0_0 : Int) (a0_1 : Int) (a0_2 : ByteArray) (l0_3 : List (S36)) (a1_0 : Int) (a1_1 : Int) (a1_2 : ByteArray) (l1_3 : List (S36)), q25 (⟨a0_0, a0_1, a0_2, l0_3⟩ : S25) → q25 (⟨a1_0, a1_1, a1_2, l1_3⟩ : S25) → ∃ k, ferrulelaw05_RlogShared.f k a0_0 a0_1 a0_2 l0_3 a1_0 a1_1 a1_2 l1_3 = some true
end Go.Proofs.Ytbejichfgednhaa.Pr
