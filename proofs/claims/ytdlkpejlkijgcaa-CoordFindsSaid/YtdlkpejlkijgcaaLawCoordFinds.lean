/- The row of the law CoordFinds, out of its pure statement and the printed walk. Conditions: none. -/
import Derived.Test.YtdlkpejlkijgcaaRows
import Derived.Test.YtdlkpejlkijgcaaPureCoordFinds
import Derived.WalkKit
import Derived.ProofKit
import Derived.OpenShut
import Derived.ShutString
import Derived.ChangeOld
import Derived.Below
import Derived.SizedLaws
import Derived.Carry
namespace Go.Proofs.Ytdlkpejlkijgcaa.coordFinds
open Go.ChangeShapes Go.WideShapes Go.ChangeAt Go.RowKit Go.Proofs.Ytdlkpejlkijgcaa.Opn Go.Proofs.Ytdlkpejlkijgcaa.Pr Go.Proofs.YtdlkpejlkijgcaaW.PrintWords
open Go.ChangeMaps (open_string shut_string)
set_option linter.unusedVariables false
theorem own : ownKnob Try.prog.godebug = none := by kernel_rfl
theorem laidOut : laidOutB Try.prog = true := by kernel_rfl
set_option maxRecDepth 100000 in
theorem lifted (os : Os) (started : os.Started) (H : Type) (enc : TypeId × Value → H) :
    ReturnsInHanded {} Try.checked os 7 .any (Rows.coordFindsSpec.pre6 enc Try.prog Try.f7 Rows.coordFindsRow.domain false) (Rows.coordFindsSpec.post enc Try.prog Try.f7 false true false false) := by
  refine returnsInHanded_of_change_sized (C := Try.checked) own started (by kernel_rfl) Try.func7
    (ChangeSpec.witness6 (enc := enc) (C := Try.checked) false ⟨#[], #[.agg #[.slice none 0 0], .agg #[.slice none 0 0], .agg #[.int .u64 0, .int .u64 0]], []⟩ 8 (by kernel_rfl) (by kernel_rfl) (by kernel_rfl) (by kernel_rfl)) ?_
  intro W base args ds gs before hval0 hW hcnd hsz0 _
  have hsz : (DataW.weightsEach Try.prog (Try.f7.params.toList ++ Rows.coordFindsSpec.plain.varTypes Try.prog) (ds ++ gs)).all (· ≤ reachBytes) = true := hsz0
  have hval : ∀ (j : Nat) t v, Try.f7.params[j]? = some t → args[j]? = some v → Value.okWide Try.prog W .any base t v := hval0
  have hW' := hW
  obtain ⟨p, q, hA0, hV, rfl, hfz, hnd⟩ := hW
  have hA : DataW.TrodAll enc Try.prog W 0 (fun _ => true) true Try.f7.params.toList args.toList ds p := hA0
  rw [Try.params7] at hA hval hsz
  obtain ⟨v0, vs0, d0, ds0, p0, q0, hargs, rfl, rfl, h0, r0⟩ := trodAll_cons hA
  obtain ⟨v1, vs1, d1, ds1, p1, q1, rfl, rfl, rfl, h1, r1⟩ := trodAll_cons r0
  obtain ⟨v2, vs2, d2, ds2, p2, q2, rfl, rfl, rfl, h2, r2⟩ := trodAll_cons r1
  obtain ⟨rfl, rfl, rfl⟩ := trodAll_nil r2
  obtain rfl : args = #[v0, v1, v2] := by cases args; simp_all
  obtain ⟨rfl, rfl⟩ := trodVars_none hV
  have k0_ := h0
  have lt0 : ∀ x ∈ p0, x.block < W.heap.size := by obtain ⟨m, hm⟩ := k0_; exact DataW.trod_lt m _ _ _ hm
  obtain ⟨x0, cs0, rfl, hk0, hq0⟩ := at_struct o26 Try.underlying26 (hval 0 26 v0 rfl rfl) h0 (weights_of hsz (j := 0) (t := 26) rfl rfl)
  obtain ⟨A0_0, c0_0, rfl, hc0_0, hr0_0⟩ := k26_open hk0
  have k1_ := h1
  have lt1 : ∀ x ∈ p1, x.block < W.heap.size := by obtain ⟨m, hm⟩ := k1_; exact DataW.trod_lt m _ _ _ hm
  obtain ⟨x1, cs1, rfl, hk1, hq1⟩ := at_struct o26 Try.underlying26 (hval 1 26 v1 rfl rfl) h1 (weights_of hsz (j := 1) (t := 26) rfl rfl)
  obtain ⟨A1_0, c1_0, rfl, hc1_0, hr1_0⟩ := k26_open hk1
  have k2_ := h2
  have lt2 : ∀ x ∈ p2, x.block < W.heap.size := by obtain ⟨m, hm⟩ := k2_; exact DataW.trod_lt m _ _ _ hm
  obtain ⟨x2, cs2, rfl, hk2, hq2⟩ := at_struct o34 Try.underlying34 (hval 2 34 v2 rfl rfl) h2 (weights_of hsz (j := 2) (t := 34) rfl rfl)
  obtain rfl := k34_open hk2
  clear hA0 hval0 hsz0 hsz
  obtain ⟨k, h⟩ := Pure.CoordFinds x0.f0 x1.f0 x2.f0 x2.f1 hq0 hq1 hq2
  refine (ferrulelaw14_CoordFinds.calls k A0_0 c0_0 x0.f0 A1_0 c1_0 x1.f0 x2.f0 x2.f1 true W hr0_0 hc0_0 hr1_0 hc1_0 h).mono fun e W' ⟨he, bel0⟩ => ?_
  have bel : Below W.heap.size W W' := bel0
  subst he
  exact ⟨_, rfl, _, _, _, [], _, [], hW', trodAll_mk1 (shut_bool Try.underlying4 _), (trodAll_cons_mk (Below.trod laidOut (by kernel_rfl) (of_decide_eq_true (by kernel_rfl)) k0_ bel lt0) (trodAll_cons_mk (Below.trod laidOut (by kernel_rfl) (of_decide_eq_true (by kernel_rfl)) k1_ bel lt1) (trodAll_cons_mk (Below.trod laidOut (by kernel_rfl) (of_decide_eq_true (by kernel_rfl)) k2_ bel lt2) trodAll_mk0))), rfl, bel.frame _, fun h => by cases h⟩
theorem over : Rows.coordFindsRow.holds Try.pinned (OpenSpec.ofChange Rows.coordFindsSpec) :=
  OpenClaim.holds_of_wide 7 Try.f7 rfl rfl rfl rfl rfl rfl rfl ⟨rfl, rfl, rfl, rfl, rfl⟩ rfl rfl rfl rfl rfl (by kernel_rfl) Try.func7 (by kernel_rfl)
    (of_decide_eq_true (by kernel_rfl)) (by unfold Func.isWrapper; first | (rw [if_pos (by decide +kernel)]; kernel_rfl) | (rw [if_neg (by decide +kernel)]; exact ⟨rfl, rfl⟩))
    (fun os started H enc _ => lifted os started H enc)
theorem proved : Rows.CoordFindsSaid := over
#print axioms proved
end Go.Proofs.Ytdlkpejlkijgcaa.coordFinds
namespace Go.Proofs.Ytdlkpejlkijgcaa
/-- The row, under a short name, for the claim. -/
theorem coordFinds_holds : Rows.CoordFindsSaid := coordFinds.proved
end Go.Proofs.Ytdlkpejlkijgcaa
