/- Whatever notes there are, they come to the document's state: proved of the walked functions. Conditions: none. -/
import Derived.Test.YtfjhlcbpogihmaaDefNoteFolds
import Derived.Test.YtfjhlcbpogihmaaNoteP
import Derived.Test.YtfjhlcbpogihmaaNoteQ
namespace Go.Proofs.Ytfjhlcbpogihmaa.Pure
open Go.RowKit Go.Proofs.Ytfjhlcbpogihmaa.Pr Go.Proofs.YtfjhlcbpogihmaaW.PrintWords Go.Proofs.YtfjhlcbpogihmaaW.PrintLast Go.Proofs.YtfjhlcbpogihmaaW.PrintMore
theorem okN_q {n : S39} (h : q39 n) : okN n = true := by
  have h1 : (Lit.int .u64 n.f1).wf = true := h.2.1
  rw [okN_iff]
  simp [Lit.wf, IntKind.min, IntKind.max, IntKind.signed, IntKind.bits] at h1
  omega
theorem all_okN {l : List S39} (h : ∀ y, y ∈ l → q39 y) : l.all okN = true := List.all_eq_true.2 (fun x hx => okN_q (h x hx))
theorem NoteFolds : ferrulelaw04_NoteFolds.Pure := by
  rintro l ⟨hl, hb, hq⟩
  have ha := all_okN hq
  have hs := okS_foldl l nst0 okS_0 ha
  refine ⟨l.length + 10000, ?_⟩
  have h1 : note_Fold.f l = some (foldN l).tup := if_pos ⟨ha, by omega⟩
  have h2 := rfold_f l (by omega) ha (l.length + 10000) (by omega)
  unfold ferrulelaw04_NoteFolds.f
  rw [shown_true, h1, h2]
  simp only [Option.bind_some, if_true]
  have hle : (foldN l).es.length ≤ 1024 := hs.l1
  have := same_self (foldN l).term (foldN l).vote (foldN l).base (foldN l).bt (foldN l).snap (foldN l).es (by omega) (l.length + 10000) (by omega)
  unfold NSt.tup
  rw [this]
  rfl
end Go.Proofs.Ytfjhlcbpogihmaa.Pure
