/- The row of the law BallotTurns, out of its pure statement and the printed walk. Conditions: none. -/
import Derived.Test.YtbjeoaklpcbocaaRows
import Derived.Test.YtbjeoaklpcbocaaPureBallotTurns
import Derived.WalkKit
import Derived.ProofKit
import Derived.OpenShut
import Derived.ShutString
import Derived.ChangeOld
import Derived.Below
import Derived.SizedLaws
import Derived.Carry
import Derived.Deep.CondSized
namespace Go.Proofs.Ytbjeoaklpcbocaa.ballotTurns
open Go.ChangeShapes Go.WideShapes Go.ChangeAt Go.RowKit Go.Proofs.Ytbjeoaklpcbocaa.Opn Go.Proofs.Ytbjeoaklpcbocaa.Pr Go.Proofs.YtbjeoaklpcbocaaW.PrintWords
open Go.ChangeMaps (open_string shut_string)
set_option linter.unusedVariables false
theorem own : ownKnob Try.prog.godebug = none := by kernel_rfl
theorem laidOut : laidOutB Try.prog = true := by kernel_rfl
set_option maxRecDepth 100000 in
theorem lifted (os : Os) (started : os.Started) (H : Type) (enc : TypeId × Value → H) (F0 : Stop.Interp) :
    ReturnsInHanded {} Try.checked os 7 .any ((Rows.OpenSpec.upto Rows.ballotTurnsSpec).pre6 enc Try.prog Try.f7 Rows.ballotTurnsUptoRow.domain false) (((Rows.OpenSpec.upto Rows.ballotTurnsSpec).at F0).post enc Try.prog Try.f7 false true false false) := by
  refine returnsInHanded_of_cond_sized (C := Try.checked) (s := Rows.OpenSpec.upto Rows.ballotTurnsSpec) (k := Rows.uptoSmall) rfl own started (by kernel_rfl) Try.func7
    (OpenSpec.witness (enc := enc) (C := Try.checked) (s := Rows.OpenSpec.upto Rows.ballotTurnsSpec) (k := Rows.uptoSmall) rfl false ⟨#[], #[.agg #[.slice none 0 0, .slice none 0 0], .slice none 0 0, .slice none 0 0], []⟩ 8 (by kernel_rfl) (by kernel_rfl) (by kernel_rfl)
      (x := ([.agg [.nil, .nil], .nil, .nil], [], [])) (by kernel_rfl) (by kernel_rfl) (by kernel_rfl)) ?_
  intro W base args ds gs before hval0 hW hcnd hkk0 hsz0 _
  have hkk1 : Rows.uptoSmall H (ds ++ gs) = true := hkk0
  have hval : ∀ (j : Nat) t v, Try.f7.params[j]? = some t → args[j]? = some v → Value.okWide Try.prog W .any base t v := hval0
  have hW' := hW
  obtain ⟨p, q, hA0, hV0, rfl, hfz, hnd⟩ := hW
  have hA : DataW.TrodAll enc Try.prog W 0 (fun _ => true) true Try.f7.params.toList args.toList ds p := hA0
  have hV : DataW.TrodVars enc Try.prog W (fun _ => true) [] gs q := hV0
  rw [Try.params7] at hA hval
  obtain ⟨v0, vs0, d0, ds0, p0, q0, hargs, rfl, rfl, h0, r0⟩ := trodAll_cons hA
  obtain ⟨v1, vs1, d1, ds1, p1, q1, rfl, rfl, rfl, h1, r1⟩ := trodAll_cons r0
  obtain ⟨v2, vs2, d2, ds2, p2, q2, rfl, rfl, rfl, h2, r2⟩ := trodAll_cons r1
  obtain ⟨rfl, rfl, rfl⟩ := trodAll_nil r2
  obtain rfl : args = #[v0, v1, v2] := by cases args; simp_all
  obtain ⟨rfl, rfl⟩ := trodVars_none hV
  have k0_ := h0
  have lt0 : ∀ x ∈ p0, x.block < W.heap.size := by obtain ⟨m, hm⟩ := k0_; exact DataW.trod_lt m _ _ _ hm
  obtain ⟨x0, cs0, rfl, hk0, hq0⟩ := at_struct o35 Try.underlying35 (hval 0 35 v0 rfl rfl) h0 (bulk_of hkk1 (j := 0) rfl)
  obtain ⟨A0_0, c0_0, A0_1, c0_1, rfl, hc0_0, hr0_0, hc0_1, hr0_1⟩ := k35_open hk0
  have k1_ := h1
  have lt1 : ∀ x ∈ p1, x.block < W.heap.size := by obtain ⟨m, hm⟩ := k1_; exact DataW.trod_lt m _ _ _ hm
  obtain ⟨l1, A1, c1, rfl, hc1, hr1, hq1⟩ := at_slice (opn_slice Try.underlying44 (by kernel_rfl) o46) Try.underlying44 (hval 1 44 v1 rfl rfl) h1 (bulk_of hkk1 (j := 1) rfl)
  have k2_ := h2
  have lt2 : ∀ x ∈ p2, x.block < W.heap.size := by obtain ⟨m, hm⟩ := k2_; exact DataW.trod_lt m _ _ _ hm
  obtain ⟨l2, A2, c2, rfl, hc2, hr2, hq2⟩ := at_slice (opn_slice Try.underlying44 (by kernel_rfl) o46) Try.underlying44 (hval 2 44 v2 rfl rfl) h2 (bulk_of hkk1 (j := 2) rfl)
  clear hA0 hval0 hsz0
  have h := Pure.BallotTurns x0.f0 x0.f1 l1 l2 hq0 hq1 hq2
  refine (ferrulelaw07_BallotTurns.calls A0_0 c0_0 x0.f0 A0_1 c0_1 x0.f1 A1 c1 l1 A2 c2 l2 true W hr0_0 hc0_0 hr0_1 hc0_1 hr1 hc1 hr2 hc2 h).mono fun e W' ⟨he, bel0⟩ => ?_
  have bel : Below W.heap.size W W' := bel0
  subst he
  exact ⟨_, rfl, _, _, _, [], _, [], hW', trodAll_mk1 (shut_bool Try.underlying4 _), (trodAll_cons_mk (Below.trod laidOut (by kernel_rfl) (of_decide_eq_true (by kernel_rfl)) k0_ bel lt0) (trodAll_cons_mk (Below.trod laidOut (by kernel_rfl) (of_decide_eq_true (by kernel_rfl)) k1_ bel lt1) (trodAll_cons_mk (Below.trod laidOut (by kernel_rfl) (of_decide_eq_true (by kernel_rfl)) k2_ bel lt2) trodAll_mk0))), rfl, bel.frame _, fun h => by cases h⟩
theorem over : Rows.ballotTurnsUptoRow.holds Try.pinned (Rows.OpenSpec.upto Rows.ballotTurnsSpec) :=
  OpenClaim.holds_of_cond 7 Try.f7 rfl rfl rfl rfl rfl rfl rfl ⟨rfl, rfl, rfl, rfl, rfl⟩ rfl rfl rfl rfl rfl (by kernel_rfl) Try.func7 (by kernel_rfl)
    (of_decide_eq_true (by kernel_rfl)) (by unfold Func.isWrapper; first | (rw [if_pos (by decide +kernel)]; kernel_rfl) | (rw [if_neg (by decide +kernel)]; exact ⟨rfl, rfl⟩))
    (fun os started H enc _ F0 => lifted os started H enc F0)
theorem proved : Rows.BallotTurnsUptoSaid := over
#print axioms proved
end Go.Proofs.Ytbjeoaklpcbocaa.ballotTurns
namespace Go.Proofs.Ytbjeoaklpcbocaa
/-- The row, under a short name, for the claim. -/
theorem ballotTurnsUpto_holds : Rows.BallotTurnsUptoSaid := ballotTurns.proved
end Go.Proofs.Ytbjeoaklpcbocaa
