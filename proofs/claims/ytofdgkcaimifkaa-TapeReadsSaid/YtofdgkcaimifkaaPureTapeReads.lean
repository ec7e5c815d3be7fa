/- The pure statement of the law TapeReads, proved. Conditions: none. -/
import Derived.Test.YtofdgkcaimifkaaDefTapeReads
import Derived.Test.YtofdgkcaimifkaaTapeL
namespace Go.Proofs.Ytofdgkcaimifkaa.Pure
open Go.RowKit Go.Proofs.Ytofdgkcaimifkaa.Pr Go.Proofs.YtofdgkcaimifkaaW.PrintWords Go.Proofs.YtofdgkcaimifkaaW.PrintLast Go.Proofs.YtofdgkcaimifkaaW.PrintMore
theorem TapeReads : ferrulelaw03_TapeReads.Pure := by
  intro sf rs p off hq
  have h1 : sf.size ≤ 140737488351232 := hq.1
  have h2 : rs.size ≤ 140737488351232 := hq.2.1
  have h3 : sf.size + rs.size ≤ 9223372036854775807 := by omega
  unfold ferrulelaw03_TapeReads.f tape_Read.f
  rw [shown_true]
  cases off
  · simp [h3]
  · simp
end Go.Proofs.Ytofdgkcaimifkaa.Pure
