/- Which states may be, and the notes that come to them, are as the document says: proved of the printed functions. Conditions: none. -/
import Derived.Test.YtfjhlcbpogihmaaDefNoteLeast
import Derived.Test.YtfjhlcbpogihmaaNoteM
import Derived.Test.YtfjhlcbpogihmaaNoteQ
namespace Go.Proofs.Ytfjhlcbpogihmaa.Pure
open Go.RowKit Go.Proofs.Ytfjhlcbpogihmaa.Pr Go.Proofs.YtfjhlcbpogihmaaW.PrintWords Go.Proofs.YtfjhlcbpogihmaaW.PrintLast Go.Proofs.YtfjhlcbpogihmaaW.PrintMore
theorem u64_nn {x : Int} (h : (Lit.int .u64 x).wf = true) : 0 ≤ x := by
  simp [Lit.wf, IntKind.min, IntKind.max, IntKind.signed, IntKind.bits] at h
  omega
theorem NoteLeast : ferrulelaw04_NoteLeast.Pure := by
  intro t v b bt s es hq
  obtain ⟨_, _, hb, hbt, hs, hl, hl2, _⟩ := hq
  dsimp only at hb hbt hs hl hl2
  have hb0 := u64_nn hb
  have hbt0 := u64_nn hbt
  refine ⟨es.length + 10, ?_⟩
  unfold ferrulelaw04_NoteLeast.f
  rw [shown_true, least_n t v b bt s es (by omega) hb0 hbt0 _ (by omega), least_r t v b bt s es (by omega) hb0 hbt0 _ (by omega), may_n t v b bt s es (by omega) hb0 hbt0 _ (by omega), may_r t v b bt s es (by omega) hb0 hbt0 _ (by omega)]
  simp only [Option.bind_some, if_true]
  have hn := notes_self (if mayS t v b bt s es = true then (leastN t v b bt s es, (0 : Int)) else ([], 1)).1 (by split <;> (try have := leastN_len t v b bt s es) <;> simp <;> omega) (es.length + 10) (by split <;> (try have := leastN_len t v b bt s es) <;> simp <;> omega)
  rw [hn]
  simp
end Go.Proofs.Ytfjhlcbpogihmaa.Pure
