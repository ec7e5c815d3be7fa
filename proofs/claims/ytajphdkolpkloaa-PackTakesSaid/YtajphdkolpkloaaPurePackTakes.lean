/- The pure statement of the law PackTakes, proved. Conditions: none. -/
import Derived.Test.YtajphdkolpkloaaDefPackTakes
import Derived.Test.YtajphdkolpkloaaPackT
namespace Go.Proofs.Ytajphdkolpkloaa.Pure
open Go.RowKit Go.Proofs.Ytajphdkolpkloaa.Pr Go.Proofs.YtajphdkolpkloaaW.PrintWords Go.Proofs.YtajphdkolpkloaaW.PrintLast Go.Proofs.YtajphdkolpkloaaW.PrintMore
theorem shown_true : ferrulelaw01_shown.f 20 = some true := by decide +kernel
theorem PackTakes : ferrulelaw01_PackTakes.Pure := by
  intro a ha
  refine ⟨20, ?_⟩
  obtain ⟨r, h1, h2⟩ := take_both a
  unfold ferrulelaw01_PackTakes.f
  rw [shown_true, h1, h2]
  simp only [Option.bind_some, if_true, BEq.rfl]
end Go.Proofs.Ytajphdkolpkloaa.Pure
