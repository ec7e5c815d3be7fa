/- The arguments' types, opened: what the row pays of each value. Conditions: none. -/
import Derived.Test.YtdlkpejlkijgcaaPr0
import Derived.Test.YtdlkpejlkijgcaaOpn
namespace Go.Proofs.Ytdlkpejlkijgcaa.Pr
open Go.RowKit Go.Proofs.Ytdlkpejlkijgcaa.Opn Go.Proofs.YtdlkpejlkijgcaaW.PrintWords Go.Proofs.YtdlkpejlkijgcaaW.PrintLast Go.Proofs.YtdlkpejlkijgcaaW.PrintMore
set_option maxRecDepth 100000
def q34 (x : S34) : Prop := ((Lit.int .u64 x.f0).wf = true) ∧ ((Lit.int .u64 x.f1).wf = true)
theorem o34 : Opn Try.prog 34 k34 q34 := opn_struct (fun x : S34 => (x.f0, x.f1)) (fun y => (⟨y.1, y.2⟩ : S34)) (fun _ => rfl) Try.underlying34 rfl (tot := 2) (by kernel_rfl) (opnF_cons (opn_int Try.underlying28) rfl (off' := 1) (by kernel_rfl) (opnF_last (opn_int Try.underlying28) rfl (by kernel_rfl)))
def q86 (x : S86) : Prop := (x.f0.size ≤ 140737488351232) ∧ (x.f1.size ≤ 140737488351232) ∧ (True)
theorem o86 : Opn Try.prog 86 k86 q86 := opn_struct (fun x : S86 => (x.f0, x.f1, x.f2)) (fun y => (⟨y.1, y.2.1, y.2.2⟩ : S86)) (fun _ => rfl) Try.underlying86 rfl (tot := 3) (by kernel_rfl) (opnF_cons (opn_string Try.underlying9) rfl (off' := 1) (by kernel_rfl) (opnF_cons (opn_string Try.underlying9) rfl (off' := 2) (by kernel_rfl) (opnF_last (opn_bool Try.underlying4) rfl (by kernel_rfl))))
def q38 (x : S38) : Prop := ((Lit.int .i64 x.f0).wf = true) ∧ (q34 x.f1) ∧ (x.f2.size ≤ 140737488351232) ∧ (x.f3.length ≤ maxLen ∧ x.f3.length * 40 ≤ 140737488351232 ∧ ∀ y, y ∈ x.f3 → q86 y) ∧ (True) ∧ (x.f5.length ≤ maxLen ∧ x.f5.length * 8 ≤ 140737488351232 ∧ ∀ y, y ∈ x.f5 → (Lit.int .u64 y).wf = true)
theorem o38 : Opn Try.prog 38 k38 q38 := opn_struct (fun x : S38 => (x.f0, x.f1, x.f2, x.f3, x.f4, x.f5)) (fun y => (⟨y.1, y.2.1, y.2.2.1, y.2.2.2.1, y.2.2.2.2.1, y.2.2.2.2.2⟩ : S38)) (fun _ => rfl) Try.underlying38 rfl (tot := 7) (by kernel_rfl) (opnF_cons (opn_int Try.underlying3) rfl (off' := 1) (by kernel_rfl) (opnF_cons o34 rfl (off' := 3) (by kernel_rfl) (opnF_cons (opn_string Try.underlying9) rfl (off' := 4) (by kernel_rfl) (opnF_cons (opn_slice Try.underlying35 (by kernel_rfl) (B := 40) (by kernel_rfl) o86) rfl (off' := 5) (by kernel_rfl) (opnF_cons (opn_bool Try.underlying4) rfl (off' := 6) (by kernel_rfl) (opnF_last (opn_slice Try.underlying36 (by kernel_rfl) (B := 8) (by kernel_rfl) (opn_int Try.underlying28)) rfl (by kernel_rfl)))))))
def q42 (x : S42) : Prop := (q34 x.f0) ∧ (x.f1.length ≤ maxLen ∧ x.f1.length * 8 ≤ 140737488351232 ∧ ∀ y, y ∈ x.f1 → (Lit.int .u64 y).wf = true) ∧ ((Lit.int .i64 x.f2).wf = true)
theorem o42 : Opn Try.prog 42 k42 q42 := opn_struct (fun x : S42 => (x.f0, x.f1, x.f2)) (fun y => (⟨y.1, y.2.1, y.2.2⟩ : S42)) (fun _ => rfl) Try.underlying42 rfl (tot := 4) (by kernel_rfl) (opnF_cons o34 rfl (off' := 2) (by kernel_rfl) (opnF_cons (opn_slice Try.underlying36 (by kernel_rfl) (B := 8) (by kernel_rfl) (opn_int Try.underlying28)) rfl (off' := 3) (by kernel_rfl) (opnF_last (opn_int Try.underlying3) rfl (by kernel_rfl))))
def q26 (x : S26) : Prop := (x.f0.length ≤ maxLen ∧ x.f0.length * 48 ≤ 140737488351232 ∧ ∀ y, y ∈ x.f0 → q42 y)
theorem o26 : Opn Try.prog 26 k26 q26 := opn_struct (fun x : S26 => x.f0) (fun y => (⟨y⟩ : S26)) (fun _ => rfl) Try.underlying26 rfl (tot := 1) (by kernel_rfl) (opnF_last (opn_slice Try.underlying24 (by kernel_rfl) (B := 48) (by kernel_rfl) o42) rfl (by kernel_rfl))
end Go.Proofs.Ytdlkpejlkijgcaa.Pr
