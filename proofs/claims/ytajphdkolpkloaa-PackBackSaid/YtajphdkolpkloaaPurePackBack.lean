/- The pure statement of the law PackBack, proved. Conditions: none. -/
import Derived.Test.YtajphdkolpkloaaDefPackBack
import Derived.Test.YtajphdkolpkloaaPackT
namespace Go.Proofs.Ytajphdkolpkloaa.Pure
open Go.RowKit Go.Proofs.Ytajphdkolpkloaa.Pr Go.Proofs.YtajphdkolpkloaaW.PrintWords Go.Proofs.YtajphdkolpkloaaW.PrintLast Go.Proofs.YtajphdkolpkloaaW.PrintMore
theorem shown_true : ferrulelaw01_shown.f 20 = some true := by decide +kernel
theorem PackBack : ferrulelaw01_PackBack.Pure := by
  intro v a hv ha
  have hi := inU64_wf hv
  obtain ⟨h0, h1⟩ := id hi
  refine ⟨20, ?_⟩
  unfold ferrulelaw01_PackBack.f
  rw [shown_true, num_f hi]
  simp only [Option.bind_some, if_true]
  unfold numE
  by_cases hc : v < 4611686018427387904
  · have hz := sizeI_cases v
    have hs := size_num v
    rw [if_pos hc, if_pos rfl, if_pos (by omega), take_back a h0 hc]
    simp only [Option.bind_some, if_true, BEq.rfl]
  · rw [if_neg hc, if_neg (by omega), if_pos rfl]
    simp only [Option.some.injEq, decide_eq_true_eq]
    omega
end Go.Proofs.Ytajphdkolpkloaa.Pure
