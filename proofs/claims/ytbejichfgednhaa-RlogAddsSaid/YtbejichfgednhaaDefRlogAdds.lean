/- The pure statement of the law RlogAdds: a definition, printed. Conditions: none. -/
import Derived.Test.YtbejichfgednhaaPr8
import Derived.Test.YtbejichfgednhaaOps
namespace Go.Proofs.Ytbejichfgednhaa.Pr
open Go.RowKit Go.Proofs.YtbejichfgednhaaW.PrintWords Go.Proofs.YtbejichfgednhaaW.PrintLast Go.Proofs.YtbejichfgednhaaW.PrintMore
def ferrulelaw05_RlogAdds.Pure : Prop := ∀ (a0_0 : Int) (a0_1 : Int) (a0_2 : ByteArray) (l0_3 : List (S36)) (a1_0 : Int) (a1_1 : ByteArray), q25 (⟨a0_0, a0_1, a0_2, l0_3⟩ : S25) → q36 (⟨a1_0, a1_1⟩ : S36) → ∃ k, ferrulelaw05_RlogAdds.f k a0_0 a0_1 a0_2 l0_3 a1_0 a1_1 = some true
end Go.Proofs.Ytbejichfgednhaa.Pr
