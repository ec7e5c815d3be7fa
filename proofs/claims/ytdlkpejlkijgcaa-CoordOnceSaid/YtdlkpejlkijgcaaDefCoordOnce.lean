/- The pure statement of the law CoordOnce: a definition, printed. Conditions: none. -/
import Derived.Test.YtdlkpejlkijgcaaPr13
import Derived.Test.YtdlkpejlkijgcaaOps
namespace Go.Proofs.Ytdlkpejlkijgcaa.Pr
open Go.RowKit Go.Proofs.YtdlkpejlkijgcaaW.PrintWords Go.Proofs.YtdlkpejlkijgcaaW.PrintLast Go.Proofs.YtdlkpejlkijgcaaW.PrintMore
def ferrulelaw14_CoordOnce.Pure : Prop := ∀ (l0 : List (S38)) (a1_0 : Int) (a1_1 : Int), (l0.length ≤ maxLen ∧ l0.length * 96 ≤ 140737488351232 ∧ ∀ y, y ∈ l0 → q38 y) → q34 (⟨a1_0, a1_1⟩ : S34) → ∃ k, ferrulelaw14_CoordOnce.f k l0 a1_0 a1_1 = some true
end Go.Proofs.Ytdlkpejlkijgcaa.Pr
