/- The pure statement of the law CoordStays: a definition, printed. Conditions: none. -/
import Derived.Test.YtdlkpejlkijgcaaPr11
import Derived.Test.YtdlkpejlkijgcaaOps
namespace Go.Proofs.Ytdlkpejlkijgcaa.Pr
open Go.RowKit Go.Proofs.YtdlkpejlkijgcaaW.PrintWords Go.Proofs.YtdlkpejlkijgcaaW.PrintLast Go.Proofs.YtdlkpejlkijgcaaW.PrintMore
def ferrulelaw14_CoordStays.Pure : Prop := ∀ (l0 : List (S38)), (l0.length ≤ maxLen ∧ l0.length * 96 ≤ 140737488351232 ∧ ∀ y, y ∈ l0 → q38 y) → ∃ k, ferrulelaw14_CoordStays.f k l0 = some true
end Go.Proofs.Ytdlkpejlkijgcaa.Pr
