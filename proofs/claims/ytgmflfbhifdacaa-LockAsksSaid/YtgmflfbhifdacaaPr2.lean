/- What the program's functions compute, and that they compute it: printed out of the translation by a program of this session's (px.py, over the kit's printer). Conditions: none. -/
import Derived.Test.YtgmflfbhifdacaaPr0
import Derived.Test.YtgmflfbhifdacaaPr1
namespace Go.Proofs.Ytgmflfbhifdacaa.Pr
open Go.RowKit Go.Proofs.YtgmflfbhifdacaaW.PrintWords Go.Proofs.YtgmflfbhifdacaaW.PrintLast Go.Proofs.YtgmflfbhifdacaaW.PrintMore
attribute [local go_sem] max2_int min2_int max_two min_two max_three min_three max_four min_four   -- for this text's walks alone
set_option linter.unusedVariables false
set_option linter.unusedSimpArgs false

theorem eqA40 (d : Nat) (w : World) (x0 y0 : ByteArray) (x1 y1 : Int) (x2 y2 : Int) (x3 y3 : Bool) :
    (Op.equalIn (d + 3) 40 (.agg #[.string x0, .int .u64 x1, .int .u64 x2, .bool x3]) (.agg #[.string y0, .int .u64 y1, .int .u64 y2, .bool y3])).run Try.prog w = .ok (x0.toList == y0.toList && ((x1 == y1 && (x2 == y2)) && (x3 == y3))) w := by
  refine eqA_of Try.underlying40 (by kernel_rfl) ?_
  refine eqf_cons (by rfl) (by go_simp; rfl) (by go_simp; rfl) (by go_simp) ?_
  refine eqf_cons (by rfl) (by go_simp) (by go_simp) (eqA25 (d + 0) w _ _ _ _) ?_
  exact eqf_last (by rfl) (by go_simp; rfl) (by go_simp; rfl) (by go_simp)
end Go.Proofs.Ytgmflfbhifdacaa.Pr
