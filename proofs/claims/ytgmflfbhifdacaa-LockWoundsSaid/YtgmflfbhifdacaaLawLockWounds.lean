/- The row of the law LockWounds, out of its pure statement and the printed walk. Conditions: none. -/
import Derived.Test.YtgmflfbhifdacaaRows
import Derived.Test.YtgmflfbhifdacaaPureLockWounds
import Derived.WalkKit
import Derived.ProofKit
import Derived.OpenShut
import Derived.ShutString
import Derived.ChangeOld
import Derived.Below
import Derived.SizedLaws
import Derived.Carry
namespace Go.Proofs.Ytgmflfbhifdacaa.lockWounds
open Go.ChangeShapes Go.WideShapes Go.ChangeAt Go.RowKit Go.Proofs.Ytgmflfbhifdacaa.Opn Go.Proofs.Ytgmflfbhifdacaa.Pr Go.Proofs.YtgmflfbhifdacaaW.PrintWords
open Go.ChangeMaps (open_string shut_string)
set_option linter.unusedVariables false
theorem own : ownKnob Try.prog.godebug = none := by kernel_rfl
theorem laidOut : laidOutB Try.prog = true := by kernel_rfl
set_option maxRecDepth 100000 in
theorem lifted (os : Os) (started : os.Started) (H : Type) (enc : TypeId × Value → H) :
    ReturnsInHanded {} Try.checked os 7 .any (Rows.lockWoundsSpec.pre6 enc Try.prog Try.f7 Rows.lockWoundsRow.domain false) (Rows.lockWoundsSpec.post enc Try.prog Try.f7 false true false false) := by
  refine returnsInHanded_of_change_sized (C := Try.checked) own started (by kernel_rfl) Try.func7
    (ChangeSpec.witness6 (enc := enc) (C := Try.checked) false ⟨#[], #[.agg #[.slice none 0 0, .int .u64 0, .int .u64 0, .string ByteArray.empty, .bool false, .slice none 0 0, .int .u64 0, .int .u64 0, .string ByteArray.empty]], []⟩ 8 (by kernel_rfl) (by kernel_rfl) (by kernel_rfl) (by kernel_rfl)) ?_
  intro W base args ds gs before hval0 hW hcnd hsz0 _
  have hsz : (DataW.weightsEach Try.prog (Try.f7.params.toList ++ Rows.lockWoundsSpec.plain.varTypes Try.prog) (ds ++ gs)).all (· ≤ reachBytes) = true := hsz0
  have hval : ∀ (j : Nat) t v, Try.f7.params[j]? = some t → args[j]? = some v → Value.okWide Try.prog W .any base t v := hval0
  have hW' := hW
  obtain ⟨p, q, hA0, hV, rfl, hfz, hnd⟩ := hW
  have hA : DataW.TrodAll enc Try.prog W 0 (fun _ => true) true Try.f7.params.toList args.toList ds p := hA0
  rw [Try.params7] at hA hval hsz
  obtain ⟨v0, vs0, d0, ds0, p0, q0, hargs, rfl, rfl, h0, r0⟩ := trodAll_cons hA
  obtain ⟨rfl, rfl, rfl⟩ := trodAll_nil r0
  obtain rfl : args = #[v0] := by cases args; simp_all
  obtain ⟨rfl, rfl⟩ := trodVars_none hV
  have k0_ := h0
  have lt0 : ∀ x ∈ p0, x.block < W.heap.size := by obtain ⟨m, hm⟩ := k0_; exact DataW.trod_lt m _ _ _ hm
  obtain ⟨x0, cs0, rfl, hk0, hq0⟩ := at_struct o47 Try.underlying47 (hval 0 47 v0 rfl rfl) h0 (weights_of hsz (j := 0) (t := 47) rfl rfl)
  obtain ⟨A0_0, c0_0, A0_5, c0_5, rfl, hc0_0, hr0_0, hc0_5, hr0_5⟩ := k47_open hk0
  clear hA0 hval0 hsz0 hsz
  obtain ⟨k, h⟩ := Pure.LockWounds x0.f0 x0.f1.f0.f0 x0.f1.f0.f1 x0.f1.f1 x0.f1.f2 x0.f2 x0.f3.f0 x0.f3.f1 x0.f4 hq0
  refine (ferrulelaw12_LockWounds.calls k A0_0 c0_0 x0.f0 x0.f1.f0.f0 x0.f1.f0.f1 x0.f1.f1 x0.f1.f2 A0_5 c0_5 x0.f2 x0.f3.f0 x0.f3.f1 x0.f4 true W hr0_0 hc0_0 hr0_5 hc0_5 h).mono fun e W' ⟨he, bel0⟩ => ?_
  have bel : Below W.heap.size W W' := bel0
  subst he
  exact ⟨_, rfl, _, _, _, [], _, [], hW', trodAll_mk1 (shut_bool Try.underlying4 _), (trodAll_cons_mk (Below.trod laidOut (by kernel_rfl) (of_decide_eq_true (by kernel_rfl)) k0_ bel lt0) trodAll_mk0), rfl, bel.frame _, fun h => by cases h⟩
theorem over : Rows.lockWoundsRow.holds Try.pinned (OpenSpec.ofChange Rows.lockWoundsSpec) :=
  OpenClaim.holds_of_wide 7 Try.f7 rfl rfl rfl rfl rfl rfl rfl ⟨rfl, rfl, rfl, rfl, rfl⟩ rfl rfl rfl rfl rfl (by kernel_rfl) Try.func7 (by kernel_rfl)
    (of_decide_eq_true (by kernel_rfl)) (by unfold Func.isWrapper; first | (rw [if_pos (by decide +kernel)]; kernel_rfl) | (rw [if_neg (by decide +kernel)]; exact ⟨rfl, rfl⟩))
    (fun os started H enc _ => lifted os started H enc)
theorem proved : Rows.LockWoundsSaid := over
#print axioms proved
end Go.Proofs.Ytgmflfbhifdacaa.lockWounds
namespace Go.Proofs.Ytgmflfbhifdacaa
/-- The row, under a short name, for the claim. -/
theorem lockWounds_holds : Rows.LockWoundsSaid := lockWounds.proved
end Go.Proofs.Ytgmflfbhifdacaa
