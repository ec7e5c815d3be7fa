/- Several texts of one depth, laid together. Conditions: none. -/
import Derived.Test.YtfjhlcbpogihmaaKNoteLasts9
import Derived.Test.YtfjhlcbpogihmaaGNoteLastsNoteX
section
namespace Go.Proofs.Ytfjhlcbpogihmaa.Pure
open Go.RowKit Go.Proofs.Ytfjhlcbpogihmaa.Pr Go.Proofs.YtfjhlcbpogihmaaW.PrintWords Go.Proofs.YtfjhlcbpogihmaaW.PrintLast Go.Proofs.YtfjhlcbpogihmaaW.PrintMore
theorem u64_nn {x : Int} (h : (Lit.int .u64 x).wf = true) : 0 ≤ x := by
  simp [Lit.wf, IntKind.min, IntKind.max, IntKind.signed, IntKind.bits] at h
  omega
theorem NoteLasts : ferrulelaw04_NoteLasts.Pure := by
  rintro l a1 a2 ⟨hl, hb, hq⟩ _ _
  refine Ev.rounds ?_
  unfold ferrulelaw04_NoteLasts.f
  rw [shown_true]
  simp only [Option.bind_some]
  exact last_loop l a1 a2 (by omega) (fun y hy => ⟨u64_nn (hq y hy).2.1, u64_nn (hq y hy).2.2.1, u64_nn (hq y hy).2.2.2.1⟩) l.length 0 [] 0 ⟨#[]⟩ ⟨#[]⟩ (by omega) last_0
end Go.Proofs.Ytfjhlcbpogihmaa.Pure
end
