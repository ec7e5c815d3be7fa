/- The arguments' types, opened: what the row pays of each value. Conditions: none. -/
import Derived.Test.YtgmflfbhifdacaaPr0
import Derived.Test.YtgmflfbhifdacaaOpn
namespace Go.Proofs.Ytgmflfbhifdacaa.Pr
open Go.RowKit Go.Proofs.Ytgmflfbhifdacaa.Opn Go.Proofs.YtgmflfbhifdacaaW.PrintWords Go.Proofs.YtgmflfbhifdacaaW.PrintLast Go.Proofs.YtgmflfbhifdacaaW.PrintMore
set_option maxRecDepth 100000
def q25 (x : S25) : Prop := ((Lit.int .u64 x.f0).wf = true) ∧ ((Lit.int .u64 x.f1).wf = true)
theorem o25 : Opn Try.prog 25 k25 q25 := opn_struct (fun x : S25 => (x.f0, x.f1)) (fun y => (⟨y.1, y.2⟩ : S25)) (fun _ => rfl) Try.underlying25 rfl (tot := 2) (by kernel_rfl) (opnF_cons (opn_int Try.underlying23) rfl (off' := 1) (by kernel_rfl) (opnF_last (opn_int Try.underlying23) rfl (by kernel_rfl)))
def q40 (x : S40) : Prop := (x.f0.size ≤ 140737488351232) ∧ (q25 x.f1) ∧ (True)
theorem o40 : Opn Try.prog 40 k40 q40 := opn_struct (fun x : S40 => (x.f0, x.f1, x.f2)) (fun y => (⟨y.1, y.2.1, y.2.2⟩ : S40)) (fun _ => rfl) Try.underlying40 rfl (tot := 4) (by kernel_rfl) (opnF_cons (opn_string Try.underlying9) rfl (off' := 1) (by kernel_rfl) (opnF_cons o25 rfl (off' := 3) (by kernel_rfl) (opnF_last (opn_bool Try.underlying4) rfl (by kernel_rfl))))
def q27 (x : S27) : Prop := (q25 x.f0) ∧ (x.f1.size ≤ 140737488351232) ∧ (True)
theorem o27 : Opn Try.prog 27 k27 q27 := opn_struct (fun x : S27 => (x.f0, x.f1, x.f2)) (fun y => (⟨y.1, y.2.1, y.2.2⟩ : S27)) (fun _ => rfl) Try.underlying27 rfl (tot := 4) (by kernel_rfl) (opnF_cons o25 rfl (off' := 2) (by kernel_rfl) (opnF_cons (opn_string Try.underlying9) rfl (off' := 3) (by kernel_rfl) (opnF_last (opn_bool Try.underlying4) rfl (by kernel_rfl))))
end Go.Proofs.Ytgmflfbhifdacaa.Pr
