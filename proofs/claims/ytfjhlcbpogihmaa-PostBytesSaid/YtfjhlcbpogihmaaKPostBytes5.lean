/- Several texts of one depth, laid together. Conditions: none. -/
import Derived.Test.YtfjhlcbpogihmaaGPostBytesPr38
import Derived.Test.YtfjhlcbpogihmaaKPostBytes1
import Derived.Test.YtfjhlcbpogihmaaKPostBytes3
import Derived.Test.YtfjhlcbpogihmaaGPostBytesPostN
namespace Go.Proofs.Ytfjhlcbpogihmaa.Pr
open Go.RowKit Go.Proofs.YtfjhlcbpogihmaaW.PrintWords Go.Proofs.YtfjhlcbpogihmaaW.PrintLast Go.Proofs.YtfjhlcbpogihmaaW.PrintMore
def ferrulelaw17_PostBytes.Pure : Prop := ∀ (a0_0 : Int) (a0_1 : Int) (a0_2 : Int) (a0_3 : Int) (a0_4 : Int) (a0_5 : Int) (a0_6 : Int) (a0_7 : Bool) (l0_8 : List (S75)) (a0_9 : ByteArray), q57 (⟨a0_0, a0_1, a0_2, a0_3, a0_4, a0_5, a0_6, a0_7, l0_8, a0_9⟩ : S57) → ∃ k, ferrulelaw17_PostBytes.f k a0_0 a0_1 a0_2 a0_3 a0_4 a0_5 a0_6 a0_7 l0_8 a0_9 = some true
end Go.Proofs.Ytfjhlcbpogihmaa.Pr
namespace Go.Proofs.Ytfjhlcbpogihmaa.Pure
open Go.RowKit Go.Proofs.Ytfjhlcbpogihmaa.Pr Go.Proofs.YtfjhlcbpogihmaaW.PrintWords Go.Proofs.YtfjhlcbpogihmaaW.PrintLast Go.Proofs.YtfjhlcbpogihmaaW.PrintMore
theorem PostBytes : ferrulelaw17_PostBytes.Pure := by
  intro a0 a1 a2 a3 a4 a5 a6 a7 a8 a9 ha
  obtain ⟨_, _, _, w3, w4, w5, w6, _, ⟨hl, hl2, hq⟩, _⟩ := ha
  dsimp only at hl hl2 hq w3 w4 w5 w6
  have g3 := (inU64_wf w3).1
  have g4 := (inU64_wf w4).1
  have g5 := (inU64_wf w5).1
  have g6 := (inU64_wf w6).1
  have g8 : ∀ e ∈ a8, 0 ≤ e.f0 := fun e he => (inU64_wf (hq e he).1).1
  have hM : Ev (fun k => ferruleref17_May.f k a0 a1 a2 a3 a4 a5 a6 a7 a8 a9) (mayB a0 a1 a2 a3 a4 a5 a6 a7 a8 a9) := ⟨a8.length + 4, fun k hk => rmay_f a0 a1 a2 a3 a4 a5 a6 a7 a8 a9 g6 (by omega) k hk⟩
  refine Ev.rounds ?_
  unfold ferrulelaw17_PostBytes.f
  rw [pshown_true]
  simp only [Option.bind_some]
  by_cases h : mayB a0 a1 a2 a3 a4 a5 a6 a7 a8 a9 = true
  · rw [bytes_1 h g3 g4 g5 g6 g8]
    simp only [Option.bind_some]
    refine Ev.bind (bytes_2 h g3 g4 g5 g6 g8) ?_
    simp only [if_true, post_May.f, Option.bind_some]
    refine Ev.bind hM ?_
    simp only [BEq.rfl]
    exact Ev.now true
  · rw [bytes_no1 h]
    simp only [Option.bind_some]
    refine Ev.bind (bytes_no2 g6 (by omega) h) ?_
    simp only [if_true, post_May.f, Option.bind_some]
    refine Ev.bind hM ?_
    simp only [BEq.rfl]
    exact Ev.now true
end Go.Proofs.Ytfjhlcbpogihmaa.Pure
