/- The pure statement of the law NoteLeast: a definition, printed. Conditions: none. -/
import Derived.Test.YtfjhlcbpogihmaaPr29
import Derived.Test.YtfjhlcbpogihmaaOps
namespace Go.Proofs.Ytfjhlcbpogihmaa.Pr
open Go.RowKit Go.Proofs.YtfjhlcbpogihmaaW.PrintWords Go.Proofs.YtfjhlcbpogihmaaW.PrintLast Go.Proofs.YtfjhlcbpogihmaaW.PrintMore
def ferrulelaw04_NoteLeast.Pure : Prop := ∀ (a0_0 : Int) (a0_1 : Int) (a0_2 : Int) (a0_3 : Int) (a0_4 : ByteArray) (l0_5 : List (S75)), q30 (⟨a0_0, a0_1, (⟨a0_2, a0_3, a0_4, l0_5⟩ : S28)⟩ : S30) → ∃ k, ferrulelaw04_NoteLeast.f k a0_0 a0_1 a0_2 a0_3 a0_4 l0_5 = some true
end Go.Proofs.Ytfjhlcbpogihmaa.Pr
