/- The walk of BallotAnswers: it returns true. Conditions: none. -/
import Derived.Test.YtbjeoaklpcbocaaHandShown
import Derived.Test.YtbjeoaklpcbocaaHandRef
namespace Go.Proofs.Ytbjeoaklpcbocaa.Pr
open Go.RowKit Go.Proofs.YtbjeoaklpcbocaaW.PrintWords Go.Proofs.YtbjeoaklpcbocaaW.PrintLast Go.Proofs.YtbjeoaklpcbocaaW.PrintMore
open Go.Proofs.Ytbjeoaklpcbocaa.Hnd
attribute [local go_sem] setCell_drewN_ alloc_drewN_
set_option linter.unusedVariables false
set_option linter.unusedSimpArgs false
theorem answerT_some (nw : Bool) (a0_0 : Int) (a0_1 : Int) (a0_2 : Int) (a0_3 : Int) (a0_4 : Bool) (a1_0 : Int) (a1_1 : Int) (a1_2 : Int) (a1_3 : Int) (a1_4 : Bool) :
    ∃ r, answerT nw a0_0 a0_1 a0_2 a0_3 a0_4 a1_0 a1_1 a1_2 a1_3 a1_4 = some r := by
  unfold answerT
  repeat (first | exact ⟨_, rfl⟩ | split)
theorem answerT_ref (nw : Bool) (a0_0 : Int) (a0_1 : Int) (a0_2 : Int) (a0_3 : Int) (a0_4 : Bool) (a1_0 : Int) (a1_1 : Int) (a1_2 : Int) (a1_3 : Int) (a1_4 : Bool) :
    refAnswerT nw a0_0 a0_1 a0_2 a0_3 a0_4 a1_0 a1_1 a1_2 a1_3 a1_4 = answerT nw a0_0 a0_1 a0_2 a0_3 a0_4 a1_0 a1_1 a1_2 a1_3 a1_4 := by
  unfold answerT refAnswerT
  cases nw <;> cases a0_4 <;> cases a1_4 <;> simp only [if_true, if_false, Bool.false_eq_true] <;> (repeat (first | rfl | split)) <;> first | rfl | omega | simp_all
def ferrulelaw07_BallotAnswers.f (a0_0 : Int) (a0_1 : Int) (a0_2 : Int) (a0_3 : Int) (a0_4 : Bool) (a1_0 : Int) (a1_1 : Int) (a1_2 : Int) (a1_3 : Int) (a1_4 : Bool) : Option Bool := some true
theorem eqS24 (d : Nat) (w : World) (x0 y0 : Int) (x1 y1 : Int) (x2 y2 : Int) (x3 y3 : Int) (x4 y4 : Bool) :
    (Op.equalIn (d + 2) 24 (.agg #[.int .u64 x0, .int .u64 x1, .int .u64 x2, .int .u64 x3, .bool x4]) (.agg #[.int .u64 y0, .int .u64 y1, .int .u64 y2, .int .u64 y3, .bool y4])).run Try.prog w = .ok (x0 == y0 && (x1 == y1 && (x2 == y2 && (x3 == y3 && (x4 == y4))))) w := by
  refine eqA_of Try.underlying24 (by kernel_rfl) ?_
  refine eqf_cons (by rfl) (by go_simp; rfl) (by go_simp; rfl) (by go_simp) ?_
  refine eqf_cons (by rfl) (by go_simp; rfl) (by go_simp; rfl) (by go_simp) ?_
  refine eqf_cons (by rfl) (by go_simp; rfl) (by go_simp; rfl) (by go_simp) ?_
  refine eqf_cons (by rfl) (by go_simp; rfl) (by go_simp; rfl) (by go_simp) ?_
  exact eqf_last (by rfl) (by go_simp; rfl) (by go_simp; rfl) (by go_simp)
attribute [local go_sem high] eqS24
set_option maxHeartbeats 8000000 in
set_option maxRecDepth 100000 in
theorem ferrulelaw07_BallotAnswers.calls (a0_0 : Int) (a0_1 : Int) (a0_2 : Int) (a0_3 : Int) (a0_4 : Bool) (a1_0 : Int) (a1_1 : Int) (a1_2 : Int) (a1_3 : Int) (a1_4 : Bool) (r : Bool) (w : World) (h : ferrulelaw07_BallotAnswers.f a0_0 a0_1 a0_2 a0_3 a0_4 a1_0 a1_1 a1_2 a1_3 a1_4 = some r) :
    Calls Try.prog 3 #[.agg #[.int .u64 a0_0, .int .u64 a0_1, .int .u64 a0_2, .int .u64 a0_3, .bool a0_4], .agg #[.int .u64 a1_0, .int .u64 a1_1, .int .u64 a1_2, .int .u64 a1_3, .bool a1_4]] w fun e w' => e = .returned (.bool r) ∧ Below w.heap.size w w' := by
  obtain rfl := Option.some.inj h
  clear h
  obtain ⟨⟨b1, b2, b3, b4, b5, b6⟩, hb⟩ := answerT_some (newerB a1_2 a1_3 a0_2 a0_3) a0_0 a0_1 a0_2 a0_3 a0_4 a1_0 a1_1 a1_2 a1_3 a1_4
  have H1 := fun W => Aside0.mk (ballot_Answer.calls a0_0 a0_1 a0_2 a0_3 a0_4 a1_0 a1_1 a1_2 a1_3 a1_4 b1 b2 b3 b4 b5 b6 W hb)
  have H2 := fun W => Aside0.mk (ferruleref07_Answer.calls a0_0 a0_1 a0_2 a0_3 a0_4 a1_0 a1_1 a1_2 a1_3 a1_4 b1 b2 b3 b4 b5 b6 W ((answerT_ref ..).trans hb))
  have H0 := fun W => Aside0.mk (ferrulelaw07_shown.calls true W rfl)
  clear hb
  go_enter Try.func3, Try.ntmps3
  go_wp2_with fail
  refine (H0 _).out.mono ?_
  rintro e w1 ⟨rfl, hb1⟩
  have kb := cell_new' (w.heap.size + 1) (by simp) hb1
  have zb := lt_new' (w.heap.size + 1) (by simp) hb1
  have ka := cell_call (cell_alloc (fun o => World.cell?_alloc_new w #[.int .u64 a0_0, .int .u64 a0_1, .int .u64 a0_2, .int .u64 a0_3, .bool a0_4] 24 o) (.cells #[.int .u64 a1_0, .int .u64 a1_1, .int .u64 a1_2, .int .u64 a1_3, .bool a1_4] 26) (by simp)) hb1 (by simp; omega)
  have B1 := Aside0.mk (below_call (((Below.refl w.heap.size w).alloc (Nat.le_refl _) _).alloc (by simp) _) hb1)
  have za : w.heap.size < w1.heap.size := by omega
  clear hb1
  go_wp2_with fail
  refine (H1 _).out.mono ?_
  rintro e w2 ⟨rfl, hb2⟩
  have ka2 := cell_call ka hb2 za
  have kb2 := cell_call kb hb2 zb
  have za2 := lt_call hb2 za
  have zb2 := lt_call hb2 zb
  have B2 := Aside0.mk (below_call B1.out hb2)
  clear hb2 ka kb za zb B1
  go_wp2_with fail
  refine (H2 _).out.mono ?_
  rintro e w3 ⟨rfl, hb3⟩
  have k1 := cell_new hb3
  have z1 := lt_new hb3
  have B3 := Aside0.mk (below_call (B2.out.alloc B2.out.size _) hb3)
  clear hb3
  go_wp2
  go_ret
  exact ⟨by simp, by repeat (first | exact B3.out | refine Below.alloc ?_ (by have := B3.out.size; simp <;> omega) _ | refine pw_below_drewN ?_ _ | refine below_drew1 ?_)⟩
end Go.Proofs.Ytbjeoaklpcbocaa.Pr
