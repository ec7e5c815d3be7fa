/- Several texts of one depth, laid together. Conditions: none. -/
import Derived.Test.YtfjhlcbpogihmaaGNoteLastsPr23
import Derived.Test.YtfjhlcbpogihmaaKNoteLasts2
section
namespace Go.Proofs.Ytfjhlcbpogihmaa.Pr
open Go.RowKit Go.Proofs.YtfjhlcbpogihmaaW.PrintWords Go.Proofs.YtfjhlcbpogihmaaW.PrintLast Go.Proofs.YtfjhlcbpogihmaaW.PrintMore
def ferrulelaw04_NoteLasts.Pure : Prop := ∀ (l0 : List (S39)) (a1 : Int) (a2 : Int), (l0.length ≤ maxLen ∧ l0.length * 48 ≤ 140737488351232 ∧ ∀ y, y ∈ l0 → q39 y) → ((Lit.int .i64 a1).wf = true) → ((Lit.int .i64 a2).wf = true) → ∃ k, ferrulelaw04_NoteLasts.f k l0 a1 a2 = some true
end Go.Proofs.Ytfjhlcbpogihmaa.Pr
end
