/- The pure statement of the law SerialAhead, proved. Conditions: none. -/
import Derived.Test.YtbadlkhelhomjaaDefSerialAhead
import Derived.Test.YtbadlkhelhomjaaSerL
namespace Go.Proofs.Ytbadlkhelhomjaa.Pure
open Go.RowKit Go.Proofs.Ytbadlkhelhomjaa.Pr Go.Proofs.YtbadlkhelhomjaaW.PrintWords Go.Proofs.YtbadlkhelhomjaaW.PrintLast Go.Proofs.YtbadlkhelhomjaaW.PrintMore
theorem SerialAhead : ferrulelaw21_SerialAhead.Pure := by
  intro p0 p1 p2 p3 ra wa q0 q1 q2 q3 rb wb ha hb
  obtain ⟨_, _, ha3, har, haw⟩ := ha
  obtain ⟨_, _, _, hbr, hbw⟩ := hb
  have ha3 : (decide (IntKind.u64.min ≤ p3) && decide (p3 ≤ IntKind.u64.max)) = true := ha3
  have hm : IntKind.u64.min = 0 := by decide
  rw [hm, Bool.and_eq_true, decide_eq_true_iff] at ha3
  have har := har.2.1
  have haw := haw.2.1
  have hbr := hbr.2.1
  have hbw := hbw.2.1
  refine Ev.rounds ?_
  unfold ferrulelaw21_SerialAhead.f ferrulelaw21_shown.f serial_Ahead.f
  simp only [Option.bind_some, if_true]
  refine Ev.bind (ref_ahead p0 p1 p2 p3 ra wa q0 q1 q2 q3 rb wb (by simp only at har; omega) (by simp only at haw; omega) (by simp only at hbr; omega) (by simp only at hbw; omega) ha3.1) ?_
  simp only [beq_self_eq_true]
  exact Ev.now true
end Go.Proofs.Ytbadlkhelhomjaa.Pure
