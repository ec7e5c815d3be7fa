/- The arguments' types, opened: what the row pays of each value. Conditions: none. -/
import Derived.Test.YtbjeoaklpcbocaaPr0
import Derived.Test.YtbjeoaklpcbocaaOpnU
namespace Go.Proofs.Ytbjeoaklpcbocaa.Pr
open Go.RowKit Go.Proofs.Ytbjeoaklpcbocaa.Opn Go.Proofs.YtbjeoaklpcbocaaW.PrintWords Go.Proofs.YtbjeoaklpcbocaaW.PrintLast Go.Proofs.YtbjeoaklpcbocaaW.PrintMore
set_option maxRecDepth 100000
def q46 (x : S46) : Prop := ((Lit.int .u64 x.f0).wf = true) ∧ (True)
theorem o46 : Opn Try.prog 46 k46 q46 := opn_struct (fun x : S46 => (x.f0, x.f1)) (fun y => (⟨y.1, y.2⟩ : S46)) (fun _ => rfl) Try.underlying46 rfl (tot := 2) (by kernel_rfl) (opnF_cons (opn_int Try.underlying22) rfl (off' := 1) (by kernel_rfl) (opnF_last (opn_bool Try.underlying4) rfl (by kernel_rfl)))
def q35 (x : S35) : Prop := (x.f0.length ≤ maxLen ∧ x.f0.length ≤ 1048576 ∧ ∀ y, y ∈ x.f0 → (Lit.int .u64 y).wf = true) ∧ (x.f1.length ≤ maxLen ∧ x.f1.length ≤ 1048576 ∧ ∀ y, y ∈ x.f1 → (Lit.int .u64 y).wf = true)
theorem o35 : Opn Try.prog 35 k35 q35 := opn_struct (fun x : S35 => (x.f0, x.f1)) (fun y => (⟨y.1, y.2⟩ : S35)) (fun _ => rfl) Try.underlying35 rfl (tot := 2) (by kernel_rfl) (opnF_cons (opn_slice Try.underlying33 (by kernel_rfl) (opn_int Try.underlying22)) rfl (off' := 1) (by kernel_rfl) (opnF_last (opn_slice Try.underlying33 (by kernel_rfl) (opn_int Try.underlying22)) rfl (by kernel_rfl)))
end Go.Proofs.Ytbjeoaklpcbocaa.Pr
