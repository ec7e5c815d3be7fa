/- The arguments' types, opened: what the row pays of each value. Conditions: none. -/
import Derived.Test.YtbadlkhelhomjaaPr0
import Derived.Test.YtbadlkhelhomjaaOpn
namespace Go.Proofs.Ytbadlkhelhomjaa.Pr
open Go.RowKit Go.Proofs.Ytbadlkhelhomjaa.Opn Go.Proofs.YtbadlkhelhomjaaW.PrintWords Go.Proofs.YtbadlkhelhomjaaW.PrintLast Go.Proofs.YtbadlkhelhomjaaW.PrintMore
set_option maxRecDepth 100000
def q24 (x : S24) : Prop := ((Lit.int .u64 x.f0).wf = true) ∧ ((Lit.int .u64 x.f1).wf = true)
theorem o24 : Opn Try.prog 24 k24 q24 := opn_struct (fun x : S24 => (x.f0, x.f1)) (fun y => (⟨y.1, y.2⟩ : S24)) (fun _ => rfl) Try.underlying24 rfl (tot := 2) (by kernel_rfl) (opnF_cons (opn_int Try.underlying22) rfl (off' := 1) (by kernel_rfl) (opnF_last (opn_int Try.underlying22) rfl (by kernel_rfl)))
def q40 (x : S40) : Prop := ((Lit.int .u64 x.f0).wf = true) ∧ (x.f1.size ≤ 140737488351232) ∧ ((Lit.int .u64 x.f2).wf = true)
theorem o40 : Opn Try.prog 40 k40 q40 := opn_struct (fun x : S40 => (x.f0, x.f1, x.f2)) (fun y => (⟨y.1, y.2.1, y.2.2⟩ : S40)) (fun _ => rfl) Try.underlying40 rfl (tot := 3) (by kernel_rfl) (opnF_cons (opn_int Try.underlying22) rfl (off' := 1) (by kernel_rfl) (opnF_cons (opn_string Try.underlying9) rfl (off' := 2) (by kernel_rfl) (opnF_last (opn_int Try.underlying22) rfl (by kernel_rfl))))
def q27 (x : S27) : Prop := (q24 x.f0) ∧ ((Lit.int .u64 x.f1).wf = true) ∧ ((Lit.int .u64 x.f2).wf = true) ∧ (x.f3.length ≤ maxLen ∧ x.f3.length * 32 ≤ 140737488351232 ∧ ∀ y, y ∈ x.f3 → q40 y) ∧ (x.f4.length ≤ maxLen ∧ x.f4.length * 32 ≤ 140737488351232 ∧ ∀ y, y ∈ x.f4 → q40 y)
theorem o27 : Opn Try.prog 27 k27 q27 := opn_struct (fun x : S27 => (x.f0, x.f1, x.f2, x.f3, x.f4)) (fun y => (⟨y.1, y.2.1, y.2.2.1, y.2.2.2.1, y.2.2.2.2⟩ : S27)) (fun _ => rfl) Try.underlying27 rfl (tot := 6) (by kernel_rfl) (opnF_cons o24 rfl (off' := 2) (by kernel_rfl) (opnF_cons (opn_int Try.underlying22) rfl (off' := 3) (by kernel_rfl) (opnF_cons (opn_int Try.underlying22) rfl (off' := 4) (by kernel_rfl) (opnF_cons (opn_slice Try.underlying25 (by kernel_rfl) (B := 32) (by kernel_rfl) o40) rfl (off' := 5) (by kernel_rfl) (opnF_last (opn_slice Try.underlying25 (by kernel_rfl) (B := 32) (by kernel_rfl) o40) rfl (by kernel_rfl))))))
end Go.Proofs.Ytbadlkhelhomjaa.Pr
