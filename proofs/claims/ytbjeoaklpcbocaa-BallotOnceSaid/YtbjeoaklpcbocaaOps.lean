/- The arguments' types, opened: what the row pays of each value. Conditions: none. -/
import Derived.Test.YtbjeoaklpcbocaaPr0
import Derived.Test.YtbjeoaklpcbocaaOpn
namespace Go.Proofs.Ytbjeoaklpcbocaa.Pr
open Go.RowKit Go.Proofs.Ytbjeoaklpcbocaa.Opn Go.Proofs.YtbjeoaklpcbocaaW.PrintWords Go.Proofs.YtbjeoaklpcbocaaW.PrintLast Go.Proofs.YtbjeoaklpcbocaaW.PrintMore
set_option maxRecDepth 100000
def q24 (x : S24) : Prop := ((Lit.int .u64 x.f0).wf = true) ∧ ((Lit.int .u64 x.f1).wf = true) ∧ ((Lit.int .u64 x.f2).wf = true) ∧ ((Lit.int .u64 x.f3).wf = true) ∧ (True)
theorem o24 : Opn Try.prog 24 k24 q24 := opn_struct (fun x : S24 => (x.f0, x.f1, x.f2, x.f3, x.f4)) (fun y => (⟨y.1, y.2.1, y.2.2.1, y.2.2.2.1, y.2.2.2.2⟩ : S24)) (fun _ => rfl) Try.underlying24 rfl (tot := 5) (by kernel_rfl) (opnF_cons (opn_int Try.underlying22) rfl (off' := 1) (by kernel_rfl) (opnF_cons (opn_int Try.underlying22) rfl (off' := 2) (by kernel_rfl) (opnF_cons (opn_int Try.underlying22) rfl (off' := 3) (by kernel_rfl) (opnF_cons (opn_int Try.underlying22) rfl (off' := 4) (by kernel_rfl) (opnF_last (opn_bool Try.underlying4) rfl (by kernel_rfl))))))
def q26 (x : S26) : Prop := ((Lit.int .u64 x.f0).wf = true) ∧ ((Lit.int .u64 x.f1).wf = true) ∧ ((Lit.int .u64 x.f2).wf = true) ∧ ((Lit.int .u64 x.f3).wf = true) ∧ (True)
theorem o26 : Opn Try.prog 26 k26 q26 := opn_struct (fun x : S26 => (x.f0, x.f1, x.f2, x.f3, x.f4)) (fun y => (⟨y.1, y.2.1, y.2.2.1, y.2.2.2.1, y.2.2.2.2⟩ : S26)) (fun _ => rfl) Try.underlying26 rfl (tot := 5) (by kernel_rfl) (opnF_cons (opn_int Try.underlying22) rfl (off' := 1) (by kernel_rfl) (opnF_cons (opn_int Try.underlying22) rfl (off' := 2) (by kernel_rfl) (opnF_cons (opn_int Try.underlying22) rfl (off' := 3) (by kernel_rfl) (opnF_cons (opn_int Try.underlying22) rfl (off' := 4) (by kernel_rfl) (opnF_last (opn_bool Try.underlying4) rfl (by kernel_rfl))))))
end Go.Proofs.Ytbjeoaklpcbocaa.Pr
