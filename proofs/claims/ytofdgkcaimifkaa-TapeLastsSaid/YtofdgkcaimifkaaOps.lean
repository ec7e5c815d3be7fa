/- The arguments' types, opened: what the row pays of each value. Conditions: none. -/
import Derived.Test.YtofdgkcaimifkaaPr0
import Derived.Test.YtofdgkcaimifkaaOpn
namespace Go.Proofs.Ytofdgkcaimifkaa.Pr
open Go.RowKit Go.Proofs.Ytofdgkcaimifkaa.Opn Go.Proofs.YtofdgkcaimifkaaW.PrintWords Go.Proofs.YtofdgkcaimifkaaW.PrintLast Go.Proofs.YtofdgkcaimifkaaW.PrintMore
set_option maxRecDepth 100000
def q23 (x : S23) : Prop := (x.f0.size ≤ 140737488351232) ∧ (x.f1.size ≤ 140737488351232) ∧ ((Lit.int .i64 x.f2).wf = true) ∧ (True)
theorem o23 : Opn Try.prog 23 k23 q23 := opn_struct (fun x : S23 => (x.f0, x.f1, x.f2, x.f3)) (fun y => (⟨y.1, y.2.1, y.2.2.1, y.2.2.2⟩ : S23)) (fun _ => rfl) Try.underlying23 rfl (tot := 4) (by kernel_rfl) (opnF_cons (opn_string Try.underlying9) rfl (off' := 1) (by kernel_rfl) (opnF_cons (opn_string Try.underlying9) rfl (off' := 2) (by kernel_rfl) (opnF_cons (opn_int Try.underlying3) rfl (off' := 3) (by kernel_rfl) (opnF_last (opn_bool Try.underlying4) rfl (by kernel_rfl)))))
def q41 (x : S41) : Prop := ((Lit.int .i64 x.f0).wf = true) ∧ (x.f1.size ≤ 140737488351232) ∧ ((Lit.int .i64 x.f2).wf = true)
theorem o41 : Opn Try.prog 41 k41 q41 := opn_struct (fun x : S41 => (x.f0, x.f1, x.f2)) (fun y => (⟨y.1, y.2.1, y.2.2⟩ : S41)) (fun _ => rfl) Try.underlying41 rfl (tot := 3) (by kernel_rfl) (opnF_cons (opn_int Try.underlying3) rfl (off' := 1) (by kernel_rfl) (opnF_cons (opn_string Try.underlying9) rfl (off' := 2) (by kernel_rfl) (opnF_last (opn_int Try.underlying3) rfl (by kernel_rfl))))
end Go.Proofs.Ytofdgkcaimifkaa.Pr
