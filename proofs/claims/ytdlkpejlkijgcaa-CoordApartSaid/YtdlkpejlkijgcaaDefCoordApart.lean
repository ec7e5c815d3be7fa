/- The pure statement of the law CoordApart: a definition, printed. Conditions: none. -/
import Derived.Test.YtdlkpejlkijgcaaPr17
import Derived.Test.YtdlkpejlkijgcaaOps
namespace Go.Proofs.Ytdlkpejlkijgcaa.Pr
open Go.RowKit Go.Proofs.YtdlkpejlkijgcaaW.PrintWords Go.Proofs.YtdlkpejlkijgcaaW.PrintLast Go.Proofs.YtdlkpejlkijgcaaW.PrintMore
def ferrulelaw14_CoordApart.Pure : Prop := ∀ (l0_0 : List (S42)) (a1_0 : Int) (a1_1 : Int) (a1_2 : Int) (a1_3 : ByteArray) (l1_4 : List (S86)) (a1_5 : Bool) (l1_6 : List Int) (a2_0 : Int) (a2_1 : Int), q26 (⟨l0_0⟩ : S26) → q38 (⟨a1_0, (⟨a1_1, a1_2⟩ : S34), a1_3, l1_4, a1_5, l1_6⟩ : S38) → q34 (⟨a2_0, a2_1⟩ : S34) → ∃ k, ferrulelaw14_CoordApart.f k l0_0 a1_0 a1_1 a1_2 a1_3 l1_4 a1_5 l1_6 a2_0 a2_1 = some true
end Go.Proofs.Ytdlkpejlkijgcaa.Pr
