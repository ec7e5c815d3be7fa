/- The pure statement of the law PackLists: a definition, printed. Conditions: none. -/
import Derived.Test.YtajphdkolpkloaaPr8
import Derived.Test.YtajphdkolpkloaaOpsU
namespace Go.Proofs.Ytajphdkolpkloaa.Pr
open Go.RowKit Go.Proofs.YtajphdkolpkloaaW.PrintWords Go.Proofs.YtajphdkolpkloaaW.PrintLast Go.Proofs.YtajphdkolpkloaaW.PrintMore
def ferrulelaw01_PackLists.Pure : Prop := ∀ (l0 : List Int) (a1 : ByteArray) (a2 : Int), (l0.length ≤ maxLen ∧ l0.length ≤ 1048576 ∧ ∀ y, y ∈ l0 → (Lit.int .u64 y).wf = true) → (a1.size ≤ 1048576) → ((Lit.int .i64 a2).wf = true) → ∃ k, ferrulelaw01_PackLists.f k l0 a1 a2 = some true
end Go.Proofs.Ytajphdkolpkloaa.Pr
