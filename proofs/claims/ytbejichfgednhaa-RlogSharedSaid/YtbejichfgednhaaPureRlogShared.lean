/- The pure statement of the law RlogShared, proved. Conditions: none. -/
import Derived.Test.YtbejichfgednhaaDefRlogShared
import Derived.Test.YtbejichfgednhaaRlogS
namespace Go.Proofs.Ytbejichfgednhaa.Pure
open Go.RowKit Go.Proofs.Ytbejichfgednhaa.Pr Go.Proofs.YtbejichfgednhaaW.PrintWords Go.Proofs.YtbejichfgednhaaW.PrintLast Go.Proofs.YtbejichfgednhaaW.PrintMore
def tm (b t : Int) (l : List S36) (i : Int) : Int × Bool := if i = b then (t, true) else if i - b ≤ l.length then ((rd_T36 l (i - b - 1)).f0, true) else (0, false)
def shr (b1 t1 : Int) (l1 : List S36) (b2 t2 : Int) (l2 : List S36) : Int :=
  if (tm b1 t1 l1 (mx b1 b2)).2 = true ∧ (tm b2 t2 l2 (mx b1 b2)).2 = true then
    far b1 l1 b2 l2 (l1.length + l2.length) (if (tm b1 t1 l1 (mx b1 b2)).1 = (tm b2 t2 l2 (mx b1 b2)).1 then mx b1 b2 else 0) (mx b1 b2)
  else 0
theorem mx_comm (a b : Int) : mx a b = mx b a := by unfold mx; split <;> split <;> omega
theorem shr_comm (b1 t1 : Int) (l1 : List S36) (b2 t2 : Int) (l2 : List S36) : shr b1 t1 l1 b2 t2 l2 = shr b2 t2 l2 b1 t1 l1 := by
  unfold shr
  rw [mx_comm b2 b1, Nat.add_comm l2.length l1.length, far_comm b2 l2 b1 l1]
  by_cases h : (tm b1 t1 l1 (mx b1 b2)).2 = true ∧ (tm b2 t2 l2 (mx b1 b2)).2 = true
  · rw [if_pos h, if_pos (And.intro h.2 h.1)]
    by_cases e : (tm b1 t1 l1 (mx b1 b2)).1 = (tm b2 t2 l2 (mx b1 b2)).1
    · rw [if_pos e, if_pos e.symm]
    · rw [if_neg e, if_neg (fun g => e g.symm)]
  · rw [if_neg h, if_neg (fun g => h (And.intro g.2 g.1))]
theorem shared_f (b1 t1 : Int) (x1 : ByteArray) (l1 : List S36) (b2 t2 : Int) (x2 : ByteArray) (l2 : List S36) (h1 : l1.length ≤ 140737488355328) (h2 : l2.length ≤ 140737488355328) (hb1 : 0 ≤ b1) (hb2 : 0 ≤ b2) (g1 : b1 ≤ 4611686018427387903) (g2 : b2 ≤ 4611686018427387903) (k : Nat) (hk : l1.length + l2.length + 10 ≤ k) :
    rlog_Shared.f k b1 t1 x1 l1 b2 t2 x2 l2 = some (shr b1 t1 l1 b2 t2 l2) := by
  have hm : b1 ≤ mx b1 b2 ∧ b2 ≤ mx b1 b2 ∧ mx b1 b2 ≤ 4611686018427387903 := by unfold mx; split <;> omega
  obtain ⟨k, rfl⟩ : ∃ m, k = m + (l1.length + l2.length) + 1 + 2 := ⟨k - (l1.length + l2.length) - 3, by omega⟩
  unfold rlog_Shared.f
  rw [term_f b1 t1 x1 l1 _ h1 hb1 hm.1 (by omega), term_f b2 t2 x2 l2 _ h2 hb2 hm.2.1 (by omega)]
  simp only [Option.bind_some]
  change (if (tm b1 t1 l1 (mx b1 b2)).2 = true then (rlog_Shared.j0 _ (mx b1 b2) 0 (tm b1 t1 l1 (mx b1 b2)).1 (tm b2 t2 l2 (mx b1 b2)).1 (!(tm b2 t2 l2 (mx b1 b2)).2) b1 t1 x1 l1 b2 t2 x2 l2) else (rlog_Shared.j0 _ (mx b1 b2) 0 (tm b1 t1 l1 (mx b1 b2)).1 (tm b2 t2 l2 (mx b1 b2)).1 true b1 t1 x1 l1 b2 t2 x2 l2)) = _
  unfold shr
  generalize tm b1 t1 l1 (mx b1 b2) = p
  generalize tm b2 t2 l2 (mx b1 b2) = q
  obtain ⟨x, px⟩ := p
  obtain ⟨y, qy⟩ := q
  dsimp only
  have key : ∀ out, rlog_Shared.j1 (k + (l1.length + l2.length) + 1 + 1) (mx b1 b2) out b1 t1 x1 l1 b2 t2 x2 l2 = some (far b1 l1 b2 l2 (l1.length + l2.length) out (mx b1 b2)) := fun out => by
    rw [rlog_Shared.j1, wrapU_in (by omega) (by omega)]
    exact shared_loop b1 t1 x1 l1 b2 t2 x2 l2 h1 h2 hb1 hb2 (l1.length + l2.length) k out (mx b1 b2) hm.1 hm.2.1 (by omega) (by omega)
  cases px
  · rw [if_neg (by decide), rlog_Shared.j0, if_pos rfl, if_neg (by simp)]
  · rw [if_pos rfl, rlog_Shared.j0]
    cases qy
    · rw [if_pos (by decide), if_neg (by simp)]
    · rw [if_neg (by decide), if_pos (show true = true ∧ true = true from And.intro rfl rfl)]
      by_cases e : x = y
      · rw [if_pos e, if_pos e, key]
      · rw [if_neg e, if_neg e, key]
theorem rshared_f (b1 t1 : Int) (x1 : ByteArray) (l1 : List S36) (b2 t2 : Int) (x2 : ByteArray) (l2 : List S36) (h1 : l1.length ≤ 140737488355328) (h2 : l2.length ≤ 140737488355328) (hb1 : 0 ≤ b1) (hb2 : 0 ≤ b2) (g1 : b1 ≤ 4611686018427387903) (g2 : b2 ≤ 4611686018427387903) (k : Nat) (hk : 2 * (l1.length + l2.length) + 10 ≤ k) :
    ferruleref05_Shared.f k b1 t1 x1 l1 b2 t2 x2 l2 = some (shr b1 t1 l1 b2 t2 l2) := by
  have hm : b1 ≤ mx b1 b2 ∧ b2 ≤ mx b1 b2 ∧ mx b1 b2 ≤ 4611686018427387903 := by unfold mx; split <;> omega
  obtain ⟨k, rfl⟩ : ∃ m, k = m + 2 * (l1.length + l2.length) + 2 + 3 := ⟨k - 2 * (l1.length + l2.length) - 5, by omega⟩
  unfold ferruleref05_Shared.f
  have e0 : (if b2 > b1 then (ferruleref05_Shared.j0 (k + 2 * (l1.length + l2.length) + 2 + 3) b2 b1 t1 x1 l1 b2 t2 x2 l2) else (ferruleref05_Shared.j0 (k + 2 * (l1.length + l2.length) + 2 + 3) b1 b1 t1 x1 l1 b2 t2 x2 l2)) = ferruleref05_Shared.j0 (k + 2 * (l1.length + l2.length) + 2 + 3) (mx b1 b2) b1 t1 x1 l1 b2 t2 x2 l2 := by
    unfold mx
    by_cases h : b1 < b2
    · rw [if_pos h, if_pos h]
    · rw [if_neg h, if_neg h]
  rw [e0, ferruleref05_Shared.j0, rterm_f b1 t1 x1 l1 _ h1 hb1 hm.1 (by omega), rterm_f b2 t2 x2 l2 _ h2 hb2 hm.2.1 (by omega)]
  simp only [Option.bind_some]
  change (if (tm b1 t1 l1 (mx b1 b2)).2 = true then (ferruleref05_Shared.j1 _ (mx b1 b2) (tm b1 t1 l1 (mx b1 b2)).1 (tm b2 t2 l2 (mx b1 b2)).1 (!(tm b2 t2 l2 (mx b1 b2)).2) b1 t1 x1 l1 b2 t2 x2 l2) else (ferruleref05_Shared.j1 _ (mx b1 b2) (tm b1 t1 l1 (mx b1 b2)).1 (tm b2 t2 l2 (mx b1 b2)).1 true b1 t1 x1 l1 b2 t2 x2 l2)) = _
  unfold shr
  generalize tm b1 t1 l1 (mx b1 b2) = p
  generalize tm b2 t2 l2 (mx b1 b2) = q
  obtain ⟨x, px⟩ := p
  obtain ⟨y, qy⟩ := q
  dsimp only
  have key : ∀ out, ferruleref05_Shared.j2 (k + 2 * (l1.length + l2.length) + 2 + 1) (mx b1 b2) out b1 t1 x1 l1 b2 t2 x2 l2 = some (far b1 l1 b2 l2 (l1.length + l2.length) out (mx b1 b2)) := fun out => by
    rw [ferruleref05_Shared.j2]
    exact rshared_loop b1 t1 x1 l1 b2 t2 x2 l2 h1 h2 hb1 hb2 (mx b1 b2) (l1.length + l2.length) k out (mx b1 b2) hm.1 hm.2.1 (Int.le_refl _) (by omega) (by omega)
  cases px
  · rw [if_neg (by decide), ferruleref05_Shared.j1, if_pos rfl, if_neg (by simp)]
  · rw [if_pos rfl, ferruleref05_Shared.j1]
    cases qy
    · rw [if_pos (by decide), if_neg (by simp)]
    · rw [if_neg (by decide), if_pos (show true = true ∧ true = true from And.intro rfl rfl)]
      by_cases e : x = y
      · rw [if_pos e, if_pos e, key]
      · rw [if_neg e, if_neg e, key]
theorem RlogShared : ferrulelaw05_RlogShared.Pure := by
  intro b1 t1 x1 l1 b2 t2 x2 l2 hq1 hq2
  have hb1 := hq1.1
  have hb2 := hq2.1
  simp [Lit.wf, IntKind.min, IntKind.max, IntKind.signed, IntKind.bits] at hb1 hb2
  have h1 : l1.length * 24 ≤ 140737488351232 := hq1.2.2.2.2.1
  have h2 : l2.length * 24 ≤ 140737488351232 := hq2.2.2.2.2.1
  refine ⟨2 * (l1.length + l2.length) + 10 + 1, ?_⟩
  unfold ferrulelaw05_RlogShared.f
  show (some true).bind _ = _
  simp only [Option.bind_some]
  by_cases c1 : b1 > 4611686018427387903
  · rw [if_pos c1, ferrulelaw05_RlogShared.j0, if_pos rfl]
  · rw [if_neg c1]
    by_cases c2 : b2 > 4611686018427387903
    · rw [decide_eq_true c2, ferrulelaw05_RlogShared.j0, if_pos rfl]
    · rw [decide_eq_false c2, ferrulelaw05_RlogShared.j0, if_neg (by decide), shared_f b1 t1 x1 l1 b2 t2 x2 l2 (by omega) (by omega) (by omega) (by omega) (by omega) (by omega) _ (by omega)]
      simp only [Option.bind_some]
      rw [if_pos trivial, rshared_f b1 t1 x1 l1 b2 t2 x2 l2 (by omega) (by omega) (by omega) (by omega) (by omega) (by omega) _ (by omega)]
      simp only [Option.bind_some]
      rw [if_pos trivial, shared_f b2 t2 x2 l2 b1 t1 x1 l1 (by omega) (by omega) (by omega) (by omega) (by omega) (by omega) _ (by omega), shr_comm b2 t2 l2 b1 t1 l1]
      simp
end Go.Proofs.Ytbejichfgednhaa.Pure
