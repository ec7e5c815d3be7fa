/- The pure statement of the law PackSizes, proved. Conditions: none. -/
import Derived.Test.YtajphdkolpkloaaDefPackSizes
import Derived.Test.YtajphdkolpkloaaPackL
namespace Go.Proofs.Ytajphdkolpkloaa.Pure
open Go.RowKit Go.Proofs.Ytajphdkolpkloaa.Pr Go.Proofs.YtajphdkolpkloaaW.PrintWords Go.Proofs.YtajphdkolpkloaaW.PrintLast Go.Proofs.YtajphdkolpkloaaW.PrintMore
theorem shown_true : ferrulelaw01_shown.f 20 = some true := by decide +kernel
theorem PackSizes : ferrulelaw01_PackSizes.Pure := by
  intro v hv
  have hi := inU64_wf hv
  refine ⟨20, ?_⟩
  unfold ferrulelaw01_PackSizes.f
  rw [shown_true]
  simp only [Option.bind_some, size_f hi, num_f hi, if_true]
  have hr : ferruleref01_Size.f v = some (sizeI v) := by
    unfold ferruleref01_Size.f sizeI
    repeat (first | rfl | split)
  rw [hr]
  simp only [Option.bind_some, if_true]
  rw [if_pos (size_num v)]
  unfold numE
  rcases sizeI_cases v with ⟨h1, h2⟩ | ⟨h0, h1, h2⟩ | ⟨h0, h1, h2⟩ | ⟨h0, h1, h2⟩ | ⟨h0, h2⟩
  · rw [h2, if_pos (by omega)]; rfl
  · rw [h2, if_pos (by omega)]; rfl
  · rw [h2, if_pos (by omega)]; rfl
  · rw [h2, if_pos (by omega)]; rfl
  · rw [h2, if_neg (by omega)]; rfl
end Go.Proofs.Ytajphdkolpkloaa.Pure
