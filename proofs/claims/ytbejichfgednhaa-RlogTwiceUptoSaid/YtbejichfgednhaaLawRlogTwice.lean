/- The row of the law RlogTwice, out of its pure statement and the printed walk. Conditions: none. -/
import Derived.Test.YtbejichfgednhaaRows
import Derived.Test.YtbejichfgednhaaPureRlogTwice
import Derived.WalkKit
import Derived.ProofKit
import Derived.OpenShut
import Derived.ShutString
import Derived.ChangeOld
import Derived.Below
import Derived.SizedLaws
import Derived.Carry
import Derived.Deep.CondSized
namespace Go.Proofs.Ytbejichfgednhaa.rlogTwice
open Go.ChangeShapes Go.WideShapes Go.ChangeAt Go.RowKit Go.Proofs.Ytbejichfgednhaa.Opn Go.Proofs.Ytbejichfgednhaa.Pr Go.Proofs.YtbejichfgednhaaW.PrintWords
open Go.ChangeMaps (open_string shut_string)
set_option linter.unusedVariables false
theorem own : ownKnob Try.prog.godebug = none := by kernel_rfl
theorem laidOut : laidOutB Try.prog = true := by kernel_rfl
set_option maxRecDepth 100000 in
theorem lifted (os : Os) (started : os.Started) (H : Type) (enc : TypeId × Value → H) (F0 : Stop.Interp) :
    ReturnsInHanded {} Try.checked os 3 .any ((Rows.OpenSpec.upto Rows.rlogTwiceSpec).pre6 enc Try.prog Try.f3 Rows.rlogTwiceUptoRow.domain false) (((Rows.OpenSpec.upto Rows.rlogTwiceSpec).at F0).post enc Try.prog Try.f3 false true false false) := by
  refine returnsInHanded_of_cond_sized (C := Try.checked) (s := Rows.OpenSpec.upto Rows.rlogTwiceSpec) (k := Rows.uptoSmall) rfl own started (by kernel_rfl) Try.func3
    (OpenSpec.witness (enc := enc) (C := Try.checked) (s := Rows.OpenSpec.upto Rows.rlogTwiceSpec) (k := Rows.uptoSmall) rfl false ⟨#[], #[.agg #[.int .u64 0, .int .u64 0, .string ByteArray.empty, .slice none 0 0, .int .u64 0, .int .u64 0, .slice none 0 0]], []⟩ 8 (by kernel_rfl) (by kernel_rfl) (by kernel_rfl)
      (x := ([.agg [.agg [.lit (.int .u64 0), .lit (.int .u64 0), .lit (.string []), .nil], .lit (.int .u64 0), .lit (.int .u64 0), .nil]], [], [])) (by kernel_rfl) (by kernel_rfl) (by kernel_rfl)) ?_
  intro W base args ds gs before hval0 hW hcnd hkk0 hsz0 _
  have hkk1 : Rows.uptoSmall H (ds ++ gs) = true := hkk0
  have hval : ∀ (j : Nat) t v, Try.f3.params[j]? = some t → args[j]? = some v → Value.okWide Try.prog W .any base t v := hval0
  have hW' := hW
  obtain ⟨p, q, hA0, hV0, rfl, hfz, hnd⟩ := hW
  have hA : DataW.TrodAll enc Try.prog W 0 (fun _ => true) true Try.f3.params.toList args.toList ds p := hA0
  have hV : DataW.TrodVars enc Try.prog W (fun _ => true) [] gs q := hV0
  rw [Try.params3] at hA hval
  obtain ⟨v0, vs0, d0, ds0, p0, q0, hargs, rfl, rfl, h0, r0⟩ := trodAll_cons hA
  obtain ⟨rfl, rfl, rfl⟩ := trodAll_nil r0
  obtain rfl : args = #[v0] := by cases args; simp_all
  obtain ⟨rfl, rfl⟩ := trodVars_none hV
  have k0_ := h0
  have lt0 : ∀ x ∈ p0, x.block < W.heap.size := by obtain ⟨m, hm⟩ := k0_; exact DataW.trod_lt m _ _ _ hm
  obtain ⟨x0, cs0, rfl, hk0, hq0⟩ := at_struct o27 Try.underlying27 (hval 0 27 v0 rfl rfl) h0 (bulk_of hkk1 (j := 0) rfl)
  obtain ⟨A0_3, c0_3, A0_6, c0_6, rfl, hc0_3, hr0_3, hc0_6, hr0_6⟩ := k27_open hk0
  clear hA0 hval0 hsz0
  obtain ⟨k, h⟩ := Pure.RlogTwice x0.f0.f0 x0.f0.f1 x0.f0.f2 x0.f0.f3 x0.f1 x0.f2 x0.f3 hq0
  refine (ferrulelaw05_RlogTwice.calls k x0.f0.f0 x0.f0.f1 x0.f0.f2 A0_3 c0_3 x0.f0.f3 x0.f1 x0.f2 A0_6 c0_6 x0.f3 true W hr0_3 hc0_3 hr0_6 hc0_6 h).mono fun e W' ⟨he, bel0⟩ => ?_
  have bel : Below W.heap.size W W' := bel0
  subst he
  exact ⟨_, rfl, _, _, _, [], _, [], hW', trodAll_mk1 (shut_bool Try.underlying4 _), (trodAll_cons_mk (Below.trod laidOut (by kernel_rfl) (of_decide_eq_true (by kernel_rfl)) k0_ bel lt0) trodAll_mk0), rfl, bel.frame _, fun h => by cases h⟩
theorem over : Rows.rlogTwiceUptoRow.holds Try.pinned (Rows.OpenSpec.upto Rows.rlogTwiceSpec) :=
  OpenClaim.holds_of_cond 3 Try.f3 rfl rfl rfl rfl rfl rfl rfl ⟨rfl, rfl, rfl, rfl, rfl⟩ rfl rfl rfl rfl rfl (by kernel_rfl) Try.func3 (by kernel_rfl)
    (of_decide_eq_true (by kernel_rfl)) (by unfold Func.isWrapper; first | (rw [if_pos (by decide +kernel)]; kernel_rfl) | (rw [if_neg (by decide +kernel)]; exact ⟨rfl, rfl⟩))
    (fun os started H enc _ F0 => lifted os started H enc F0)
theorem proved : Rows.RlogTwiceUptoSaid := over
#print axioms proved
end Go.Proofs.Ytbejichfgednhaa.rlogTwice
namespace Go.Proofs.Ytbejichfgednhaa
/-- The row, under a short name, for the claim. -/
theorem rlogTwiceUpto_holds : Rows.RlogTwiceUptoSaid := rlogTwice.proved
end Go.Proofs.Ytbejichfgednhaa
