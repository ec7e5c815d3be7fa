/- The pure statement of the law CoordFinds: a definition, printed. Conditions: none. -/
import Derived.Test.YtdlkpejlkijgcaaPr20
import Derived.Test.YtdlkpejlkijgcaaOps
namespace Go.Proofs.Ytdlkpejlkijgcaa.Pr
open Go.RowKit Go.Proofs.YtdlkpejlkijgcaaW.PrintWords Go.Proofs.YtdlkpejlkijgcaaW.PrintLast Go.Proofs.YtdlkpejlkijgcaaW.PrintMore
def ferrulelaw14_CoordFinds.Pure : Prop := ∀ (l0_0 : List (S42)) (l1_0 : List (S42)) (a2_0 : Int) (a2_1 : Int), q26 (⟨l0_0⟩ : S26) → q26 (⟨l1_0⟩ : S26) → q34 (⟨a2_0, a2_1⟩ : S34) → ∃ k, ferrulelaw14_CoordFinds.f k l0_0 l1_0 a2_0 a2_1 = some true
end Go.Proofs.Ytdlkpejlkijgcaa.Pr
