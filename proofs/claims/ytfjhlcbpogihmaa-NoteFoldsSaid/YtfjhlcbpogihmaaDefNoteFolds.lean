/- The pure statement of the law NoteFolds: a definition, printed. Conditions: none. -/
import Derived.Test.YtfjhlcbpogihmaaPr9
import Derived.Test.YtfjhlcbpogihmaaOps
namespace Go.Proofs.Ytfjhlcbpogihmaa.Pr
open Go.RowKit Go.Proofs.YtfjhlcbpogihmaaW.PrintWords Go.Proofs.YtfjhlcbpogihmaaW.PrintLast Go.Proofs.YtfjhlcbpogihmaaW.PrintMore
def ferrulelaw04_NoteFolds.Pure : Prop := ∀ (l0 : List (S39)), (l0.length ≤ maxLen ∧ l0.length * 48 ≤ 140737488351232 ∧ ∀ y, y ∈ l0 → q39 y) → ∃ k, ferrulelaw04_NoteFolds.f k l0 = some true
end Go.Proofs.Ytfjhlcbpogihmaa.Pr
