/- The arguments' types, opened: what the row pays of each value. Conditions: none. -/
import Derived.Test.YtbejichfgednhaaPr0
import Derived.Test.YtbejichfgednhaaOpnU
namespace Go.Proofs.Ytbejichfgednhaa.Pr
open Go.RowKit Go.Proofs.Ytbejichfgednhaa.Opn Go.Proofs.YtbejichfgednhaaW.PrintWords Go.Proofs.YtbejichfgednhaaW.PrintLast Go.Proofs.YtbejichfgednhaaW.PrintMore
set_option maxRecDepth 100000
def q36 (x : S36) : Prop := ((Lit.int .u64 x.f0).wf = true) ∧ (x.f1.size ≤ 1048576)
theorem o36 : Opn Try.prog 36 k36 q36 := opn_struct (fun x : S36 => (x.f0, x.f1)) (fun y => (⟨y.1, y.2⟩ : S36)) (fun _ => rfl) Try.underlying36 rfl (tot := 2) (by kernel_rfl) (opnF_cons (opn_int Try.underlying22) rfl (off' := 1) (by kernel_rfl) (opnF_last (opn_string Try.underlying9) rfl (by kernel_rfl)))
def q25 (x : S25) : Prop := ((Lit.int .u64 x.f0).wf = true) ∧ ((Lit.int .u64 x.f1).wf = true) ∧ (x.f2.size ≤ 1048576) ∧ (x.f3.length ≤ maxLen ∧ x.f3.length ≤ 1048576 ∧ ∀ y, y ∈ x.f3 → q36 y)
theorem o25 : Opn Try.prog 25 k25 q25 := opn_struct (fun x : S25 => (x.f0, x.f1, x.f2, x.f3)) (fun y => (⟨y.1, y.2.1, y.2.2.1, y.2.2.2⟩ : S25)) (fun _ => rfl) Try.underlying25 rfl (tot := 4) (by kernel_rfl) (opnF_cons (opn_int Try.underlying22) rfl (off' := 1) (by kernel_rfl) (opnF_cons (opn_int Try.underlying22) rfl (off' := 2) (by kernel_rfl) (opnF_cons (opn_string Try.underlying9) rfl (off' := 3) (by kernel_rfl) (opnF_last (opn_slice Try.underlying23 (by kernel_rfl) o36) rfl (by kernel_rfl)))))
def q27 (x : S27) : Prop := (q25 x.f0) ∧ ((Lit.int .u64 x.f1).wf = true) ∧ ((Lit.int .u64 x.f2).wf = true) ∧ (x.f3.length ≤ maxLen ∧ x.f3.length ≤ 1048576 ∧ ∀ y, y ∈ x.f3 → q36 y)
theorem o27 : Opn Try.prog 27 k27 q27 := opn_struct (fun x : S27 => (x.f0, x.f1, x.f2, x.f3)) (fun y => (⟨y.1, y.2.1, y.2.2.1, y.2.2.2⟩ : S27)) (fun _ => rfl) Try.underlying27 rfl (tot := 7) (by kernel_rfl) (opnF_cons o25 rfl (off' := 4) (by kernel_rfl) (opnF_cons (opn_int Try.underlying22) rfl (off' := 5) (by kernel_rfl) (opnF_cons (opn_int Try.underlying22) rfl (off' := 6) (by kernel_rfl) (opnF_last (opn_slice Try.underlying23 (by kernel_rfl) o36) rfl (by kernel_rfl)))))
def q48 (x : S48) : Prop := (q25 x.f0) ∧ ((Lit.int .u64 x.f1).wf = true) ∧ ((Lit.int .u64 x.f2).wf = true) ∧ (x.f3.size ≤ 1048576)
theorem o48 : Opn Try.prog 48 k48 q48 := opn_struct (fun x : S48 => (x.f0, x.f1, x.f2, x.f3)) (fun y => (⟨y.1, y.2.1, y.2.2.1, y.2.2.2⟩ : S48)) (fun _ => rfl) Try.underlying48 rfl (tot := 7) (by kernel_rfl) (opnF_cons o25 rfl (off' := 4) (by kernel_rfl) (opnF_cons (opn_int Try.underlying22) rfl (off' := 5) (by kernel_rfl) (opnF_cons (opn_int Try.underlying22) rfl (off' := 6) (by kernel_rfl) (opnF_last (opn_string Try.underlying9) rfl (by kernel_rfl)))))
end Go.Proofs.Ytbejichfgednhaa.Pr
