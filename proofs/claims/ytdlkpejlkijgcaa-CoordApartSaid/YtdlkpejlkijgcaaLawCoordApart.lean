/- The row of the law CoordApart, out of its pure statement and the printed walk. Conditions: none. -/
import Derived.Test.YtdlkpejlkijgcaaRows
import Derived.Test.YtdlkpejlkijgcaaPureCoordApart
import Derived.WalkKit
import Derived.ProofKit
import Derived.OpenShut
import Derived.ShutString
import Derived.ChangeOld
import Derived.Below
import Derived.SizedLaws
import Derived.Carry
namespace Go.Proofs.Ytdlkpejlkijgcaa.coordApart
open Go.ChangeShapes Go.WideShapes Go.ChangeAt Go.RowKit Go.Proofs.Ytdlkpejlkijgcaa.Opn Go.Proofs.Ytdlkpejlkijgcaa.Pr Go.Proofs.YtdlkpejlkijgcaaW.PrintWords
open Go.ChangeMaps (open_string shut_string)
set_option linter.unusedVariables false
theorem own : ownKnob Try.prog.godebug = none := by kernel_rfl
theorem laidOut : laidOutB Try.prog = true := by kernel_rfl
set_option maxRecDepth 100000 in
theorem lifted (os : Os) (started : os.Started) (H : Type) (enc : TypeId × Value → H) :
    ReturnsInHanded {} Try.checked os 6 .any (Rows.coordApartSpec.pre6 enc Try.prog Try.f6 Rows.coordApartRow.domain false) (Rows.coordApartSpec.post enc Try.prog Try.f6 false true false false) := by
  refine returnsInHanded_of_change_sized (C := Try.checked) own started (by kernel_rfl) Try.func6
    (ChangeSpec.witness6 (enc := enc) (C := Try.checked) false ⟨#[], #[.agg #[.slice none 0 0], .agg #[.int .i64 0, .int .u64 0, .int .u64 0, .string ByteArray.empty, .slice none 0 0, .bool false, .slice none 0 0], .agg #[.int .u64 0, .int .u64 0]], []⟩ 8 (by kernel_rfl) (by kernel_rfl) (by kernel_rfl) (by kernel_rfl)) ?_
  intro W base args ds gs before hval0 hW hcnd hsz0 _
  have hsz : (DataW.weightsEach Try.prog (Try.f6.params.toList ++ Rows.coordApartSpec.plain.varTypes Try.prog) (ds ++ gs)).all (· ≤ reachBytes) = true := hsz0
  have hval : ∀ (j : Nat) t v, Try.f6.params[j]? = some t → args[j]? = some v → Value.okWide Try.prog W .any base t v := hval0
  have hW' := hW
  obtain ⟨p, q, hA0, hV, rfl, hfz, hnd⟩ := hW
  have hA : DataW.TrodAll enc Try.prog W 0 (fun _ => true) true Try.f6.params.toList args.toList ds p := hA0
  rw [Try.params6] at hA hval hsz
  obtain ⟨v0, vs0, d0, ds0, p0, q0, hargs, rfl, rfl, h0, r0⟩ := trodAll_cons hA
  obtain ⟨v1, vs1, d1, ds1, p1, q1, rfl, rfl, rfl, h1, r1⟩ := trodAll_cons r0
  obtain ⟨v2, vs2, d2, ds2, p2, q2, rfl, rfl, rfl, h2, r2⟩ := trodAll_cons r1
  obtain ⟨rfl, rfl, rfl⟩ := trodAll_nil r2
  obtain rfl : args = #[v0, v1, v2] := by cases args; simp_all
  obtain ⟨rfl, rfl⟩ := trodVars_none hV
  have k0_ := h0
  have lt0 : ∀ x ∈ p0, x.block < W.heap.size := by obtain ⟨m, hm⟩ := k0_; exact DataW.trod_lt m _ _ _ hm
  obtain ⟨x0, cs0, rfl, hk0, hq0⟩ := at_struct o26 Try.underlying26 (hval 0 26 v0 rfl rfl) h0 (weights_of hsz (j := 0) (t := 26) rfl rfl)
  obtain ⟨A0_0, c0_0, rfl, hc0_0, hr0_0⟩ := k26_open hk0
  have k1_ := h1
  have lt1 : ∀ x ∈ p1, x.block < W.heap.size := by obtain ⟨m, hm⟩ := k1_; exact DataW.trod_lt m _ _ _ hm
  obtain ⟨x1, cs1, rfl, hk1, hq1⟩ := at_struct o38 Try.underlying38 (hval 1 38 v1 rfl rfl) h1 (weights_of hsz (j := 1) (t := 38) rfl rfl)
  obtain ⟨A1_4, c1_4, A1_6, c1_6, rfl, hc1_4, hr1_4, hc1_6, hr1_6⟩ := k38_open hk1
  have k2_ := h2
  have lt2 : ∀ x ∈ p2, x.block < W.heap.size := by obtain ⟨m, hm⟩ := k2_; exact DataW.trod_lt m _ _ _ hm
  obtain ⟨x2, cs2, rfl, hk2, hq2⟩ := at_struct o34 Try.underlying34 (hval 2 34 v2 rfl rfl) h2 (weights_of hsz (j := 2) (t := 34) rfl rfl)
  obtain rfl := k34_open hk2
  clear hA0 hval0 hsz0 hsz
  obtain ⟨k, h⟩ := Pure.CoordApart x0.f0 x1.f0 x1.f1.f0 x1.f1.f1 x1.f2 x1.f3 x1.f4 x1.f5 x2.f0 x2.f1 hq0 hq1 hq2
  refine (ferrulelaw14_CoordApart.calls k A0_0 c0_0 x0.f0 x1.f0 x1.f1.f0 x1.f1.f1 x1.f2 A1_4 c1_4 x1.f3 x1.f4 A1_6 c1_6 x1.f5 x2.f0 x2.f1 true W hr0_0 hc0_0 hr1_4 hc1_4 hr1_6 hc1_6 h).mono fun e W' ⟨he, bel0⟩ => ?_
  have bel : Below W.heap.size W W' := bel0
  subst he
  exact ⟨_, rfl, _, _, _, [], _, [], hW', trodAll_mk1 (shut_bool Try.underlying4 _), (trodAll_cons_mk (Below.trod laidOut (by kernel_rfl) (of_decide_eq_true (by kernel_rfl)) k0_ bel lt0) (trodAll_cons_mk (Below.trod laidOut (by kernel_rfl) (of_decide_eq_true (by kernel_rfl)) k1_ bel lt1) (trodAll_cons_mk (Below.trod laidOut (by kernel_rfl) (of_decide_eq_true (by kernel_rfl)) k2_ bel lt2) trodAll_mk0))), rfl, bel.frame _, fun h => by cases h⟩
theorem over : Rows.coordApartRow.holds Try.pinned (OpenSpec.ofChange Rows.coordApartSpec) :=
  OpenClaim.holds_of_wide 6 Try.f6 rfl rfl rfl rfl rfl rfl rfl ⟨rfl, rfl, rfl, rfl, rfl⟩ rfl rfl rfl rfl rfl (by kernel_rfl) Try.func6 (by kernel_rfl)
    (of_decide_eq_true (by kernel_rfl)) (by unfold Func.isWrapper; first | (rw [if_pos (by decide +kernel)]; kernel_rfl) | (rw [if_neg (by decide +kernel)]; exact ⟨rfl, rfl⟩))
    (fun os started H enc _ => lifted os started H enc)
theorem proved : Rows.CoordApartSaid := over
#print axioms proved
end Go.Proofs.Ytdlkpejlkijgcaa.coordApart
namespace Go.Proofs.Ytdlkpejlkijgcaa
/-- The row, under a short name, for the claim. -/
theorem coordApart_holds : Rows.CoordApartSaid := coordApart.proved
end Go.Proofs.Ytdlkpejlkijgcaa
