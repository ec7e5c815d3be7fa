/- The pure statement of the law RlogAsks: a definition, printed. Conditions: none. -/
import Derived.Test.YtbejichfgednhaaPr6
import Derived.Test.YtbejichfgednhaaOps
namespace Go.Proofs.Ytbejichfgednhaa.Pr
open Go.RowKit Go.Proofs.YtbejichfgednhaaW.PrintWords Go.Proofs.YtbejichfgednhaaW.PrintLast Go.Proofs.YtbejichfgednhaaW.PrintMore
def ferrulelaw05_RlogAsks.Pure : Prop := ∀ (a0_0 : Int) (a0_1 : Int) (a0_2 : ByteArray) (l0_3 : List (S36)) (a1 : Int) (a2 : Int), q25 (⟨a0_0, a0_1, a0_2, l0_3⟩ : S25) → ((Lit.int .u64 a1).wf = true) → ((Lit.int .u64 a2).wf = true) → ∃ k, ferrulelaw05_RlogAsks.f k a0_0 a0_1 a0_2 l0_3 a1 a2 = some true
end Go.Proofs.Ytbejichfgednhaa.Pr
