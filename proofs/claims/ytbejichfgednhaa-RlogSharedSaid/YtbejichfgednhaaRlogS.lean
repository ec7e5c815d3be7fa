/- Plain laws of rlog: how far two logs are the same, by both texts. Conditions: none. -/
import Derived.Test.YtbejichfgednhaaRlogL
import Derived.Test.YtbejichfgednhaaPr12
import Derived.Test.YtbejichfgednhaaPr13
import Derived.Test.YtbejichfgednhaaPr14
namespace Go.Proofs.Ytbejichfgednhaa.Pr
open Go.RowKit Go.Proofs.YtbejichfgednhaaW.PrintWords Go.Proofs.YtbejichfgednhaaW.PrintLast Go.Proofs.YtbejichfgednhaaW.PrintMore
/-- Are the entries at these places the same? -/
def sameAt (l1 l2 : List S36) (i j : Int) : Bool := ((rd_T36 l1 i).f0 == (rd_T36 l2 j).f0) && ((rd_T36 l1 i).f1.toList == (rd_T36 l2 j).f1.toList)
/-- How far, from an index on, d rounds at most. -/
def far (b1 : Int) (l1 : List S36) (b2 : Int) (l2 : List S36) : Nat → Int → Int → Int
  | 0, out, _ => out
  | d + 1, out, i => if i - b1 < l1.length ∧ i - b2 < l2.length ∧ sameAt l1 l2 (i - b1) (i - b2) = true then far b1 l1 b2 l2 d (i + 1) (i + 1) else out
theorem sameAt_comm (l1 l2 : List S36) (i j : Int) : sameAt l1 l2 i j = sameAt l2 l1 j i := by
  unfold sameAt
  rw [Bool.beq_comm (a := (rd_T36 l1 i).f0), Bool.beq_comm (a := (rd_T36 l1 i).f1.toList)]
theorem far_comm (b1 : Int) (l1 : List S36) (b2 : Int) (l2 : List S36) : ∀ d out i, far b1 l1 b2 l2 d out i = far b2 l2 b1 l1 d out i
  | 0, _, _ => rfl
  | d + 1, out, i => by
    simp only [far]
    rw [far_comm b1 l1 b2 l2 d, sameAt_comm l1 l2]
    by_cases h : i - b1 < l1.length ∧ i - b2 < l2.length ∧ sameAt l2 l1 (i - b2) (i - b1) = true
    · rw [if_pos h, if_pos ⟨h.2.1, h.1, h.2.2⟩]
    · rw [if_neg h, if_neg (fun g => h ⟨g.2.1, g.1, g.2.2⟩)]
theorem differ (l1 l2 : List S36) (i j : Int) : ((!((rd_T36 l1 i).f0 == (rd_T36 l2 j).f0)) || (!((rd_T36 l1 i).f1.toList == (rd_T36 l2 j).f1.toList))) = !(sameAt l1 l2 i j) := by
  unfold sameAt
  rw [Bool.not_and]
theorem at_f (b t : Int) (x : ByteArray) (l : List S36) (i : Int) (hl : l.length ≤ 140737488355328) (hb : 0 ≤ b) (hi0 : b ≤ i) (hi : i < 9223372036854775807) : rlog_at.f b t x l (i + 1) = if i - b < l.length then some (i - b, true) else some (0, false) := by
  unfold rlog_at.f
  rw [if_neg (by omega), wrapU_in (x := i + 1 - b) (by omega) (by omega), wrapU_in (x := (l.length : Int)) (by omega) (by omega)]
  by_cases h : i - b < l.length
  · rw [if_neg (by omega), if_pos h, wrapU_in (by omega) (by omega), wrap64_big (by omega) (by omega)]
    congr 2
    omega
  · rw [if_pos (by omega), if_neg h]
theorem far_yes (b1 : Int) (l1 : List S36) (b2 : Int) (l2 : List S36) (d : Nat) (out i : Int) (h : i - b1 < l1.length ∧ i - b2 < l2.length ∧ sameAt l1 l2 (i - b1) (i - b2) = true) : far b1 l1 b2 l2 (d + 1) out i = far b1 l1 b2 l2 d (i + 1) (i + 1) := by
  simp only [far]
  rw [if_pos h]
theorem far_no (b1 : Int) (l1 : List S36) (b2 : Int) (l2 : List S36) (d : Nat) (out i : Int) (h : ¬ (i - b1 < l1.length ∧ i - b2 < l2.length ∧ sameAt l1 l2 (i - b1) (i - b2) = true)) : far b1 l1 b2 l2 (d + 1) out i = out := by
  simp only [far]
  rw [if_neg h]
theorem shared_loop (b1 t1 : Int) (x1 : ByteArray) (l1 : List S36) (b2 t2 : Int) (x2 : ByteArray) (l2 : List S36) (h1 : l1.length ≤ 140737488355328) (h2 : l2.length ≤ 140737488355328) (hb1 : 0 ≤ b1) (hb2 : 0 ≤ b2) : ∀ (d k : Nat) (out i : Int), b1 ≤ i → b2 ≤ i → l1.length ≤ (i - b1) + d → i + d ≤ 5000000000000000000 →
    rlog_Shared.l0 (k + d + 1) out (i + 1) b1 t1 x1 l1 b2 t2 x2 l2 = some (far b1 l1 b2 l2 d out i)
  | 0, k, out, i, g1, g2, hd, hi => by
    show rlog_Shared.l0 (k + 1) out (i + 1) b1 t1 x1 l1 b2 t2 x2 l2 = _
    rw [rlog_Shared.l0, at_f b1 t1 x1 l1 i h1 hb1 g1 (by omega), if_neg (by omega)]
    simp only [Option.bind_some]
    rw [at_f b2 t2 x2 l2 i h2 hb2 g2 (by omega)]
    by_cases c2 : i - b2 < l2.length
    · rw [if_pos c2]; rfl
    · rw [if_neg c2]; rfl
  | d + 1, k, out, i, g1, g2, hd, hi => by
    show rlog_Shared.l0 ((k + d + 1) + 1) out (i + 1) b1 t1 x1 l1 b2 t2 x2 l2 = _
    rw [rlog_Shared.l0, at_f b1 t1 x1 l1 i h1 hb1 g1 (by omega), at_f b2 t2 x2 l2 i h2 hb2 g2 (by omega)]
    by_cases c1 : i - b1 < l1.length
    · by_cases c2 : i - b2 < l2.length
      · rw [if_pos c1, if_pos c2]
        simp only [Option.bind_some]
        rw [if_true, if_true, if_pos (by omega), if_pos c1, if_pos (by omega), if_pos c2, differ]
        by_cases c3 : sameAt l1 l2 (i - b1) (i - b2) = true
        · rw [far_yes b1 l1 b2 l2 d out i ⟨c1, c2, c3⟩, c3, if_neg (by decide), wrapU_in (by omega) (by omega)]
          exact shared_loop b1 t1 x1 l1 b2 t2 x2 l2 h1 h2 hb1 hb2 d k (i + 1) (i + 1) (by omega) (by omega) (by omega) (by omega)
        · rw [far_no b1 l1 b2 l2 d out i (fun g => c3 g.2.2), Bool.eq_false_iff.mpr c3, if_pos (by decide)]
      · rw [if_pos c1, if_neg c2, far_no b1 l1 b2 l2 d out i (fun g => c2 g.2.1)]
        rfl
    · rw [if_neg c1, far_no b1 l1 b2 l2 d out i (fun g => c1 g.1)]
      by_cases c2 : i - b2 < l2.length
      · rw [if_pos c2]; rfl
      · rw [if_neg c2]; rfl
theorem rshared_loop (b1 t1 : Int) (x1 : ByteArray) (l1 : List S36) (b2 t2 : Int) (x2 : ByteArray) (l2 : List S36) (h1 : l1.length ≤ 140737488355328) (h2 : l2.length ≤ 140737488355328) (hb1 : 0 ≤ b1) (hb2 : 0 ≤ b2) (f : Int) : ∀ (d k : Nat) (out i : Int), b1 ≤ i → b2 ≤ i → f ≤ i → l1.length ≤ (i - b1) + d → i + d ≤ 5000000000000000000 →
    ferruleref05_Shared.l0 (k + 2 * d + 2) f out i b1 t1 x1 l1 b2 t2 x2 l2 = some (far b1 l1 b2 l2 d out i)
  | 0, k, out, i, g1, g2, gf, hd, hi => by
    show ferruleref05_Shared.l0 ((k + 1) + 1) f out i b1 t1 x1 l1 b2 t2 x2 l2 = _
    rw [ferruleref05_Shared.l0, wrapU_in (x := i + 1) (by omega) (by omega), if_pos (by omega), wrapU_in (x := i - b1) (by omega) (by omega), wrapU_in (x := (l1.length : Int)) (by omega) (by omega), if_neg (by omega)]
    rw [ferruleref05_Shared.j4, if_neg (by decide)]
    rfl
  | d + 1, k, out, i, g1, g2, gf, hd, hi => by
    show ferruleref05_Shared.l0 ((k + 2 * d + 2 + 1) + 1) f out i b1 t1 x1 l1 b2 t2 x2 l2 = _
    have hj0 : ∀ K, ferruleref05_Shared.j4 (K + 1) f out i false b1 t1 x1 l1 b2 t2 x2 l2 = some out := fun K => by
      rw [ferruleref05_Shared.j4, if_neg (by decide)]
    rw [ferruleref05_Shared.l0, wrapU_in (x := i + 1) (by omega) (by omega), if_pos (by omega), wrapU_in (x := i - b1) (by omega) (by omega), wrapU_in (x := (l1.length : Int)) (by omega) (by omega), wrapU_in (x := i - b2) (by omega) (by omega), wrapU_in (x := (l2.length : Int)) (by omega) (by omega)]
    by_cases c1 : i - b1 < l1.length
    · by_cases c2 : i - b2 < l2.length
      · rw [if_pos c1, decide_eq_true c2, ferruleref05_Shared.j4, if_pos rfl]
        rw [wrapU_in (x := i - b1) (by omega) (by omega), wrapU_in (x := i - b2) (by omega) (by omega), wrapU_in (x := i + 1) (by omega) (by omega)]
        rw [if_pos (by omega), if_pos c1, if_pos (by omega), if_pos c2, differ]
        by_cases c3 : sameAt l1 l2 (i - b1) (i - b2) = true
        · rw [far_yes b1 l1 b2 l2 d out i ⟨c1, c2, c3⟩, c3, if_neg (by decide)]
          exact rshared_loop b1 t1 x1 l1 b2 t2 x2 l2 h1 h2 hb1 hb2 f d k (i + 1) (i + 1) (by omega) (by omega) (by omega) (by omega) (by omega)
        · rw [far_no b1 l1 b2 l2 d out i (fun g => c3 g.2.2), Bool.eq_false_iff.mpr c3, if_pos (by decide)]
      · rw [if_pos c1, decide_eq_false c2, hj0, far_no b1 l1 b2 l2 d out i (fun g => c2 g.2.1)]
    · rw [if_neg c1, hj0, far_no b1 l1 b2 l2 d out i (fun g => c1 g.1)]
theorem term_f (b t : Int) (x : ByteArray) (l : List S36) (i : Int) (hl : l.length ≤ 140737488355328) (hb : 0 ≤ b) (hi0 : b ≤ i) (hi : i < 9223372036854775807) : rlog_TermAt.f b t x l i = some (if i = b then (t, true) else if i - b ≤ l.length then ((rd_T36 l (i - b - 1)).f0, true) else (0, false)) := by
  unfold rlog_TermAt.f
  by_cases h : i = b
  · rw [if_pos h, if_pos h]
  · rw [if_neg h, if_neg h]
    have ha := at_f b t x l (i - 1) hl hb (by omega) (by omega)
    rw [(by omega : i - 1 + 1 = i)] at ha
    rw [ha]
    by_cases c : i - b ≤ l.length
    · rw [if_pos (by omega), if_pos c]
      simp only [Option.bind_some]
      rw [if_true, if_pos (by omega), if_pos (by omega), (by omega : i - 1 - b = i - b - 1)]
    · rw [if_neg (by omega), if_neg c]
      rfl
theorem rterm_f (b t : Int) (x : ByteArray) (l : List S36) (i : Int) (hl : l.length ≤ 140737488355328) (hb : 0 ≤ b) (hi0 : b ≤ i) (hi : i < 9223372036854775807) : ferruleref05_TermAt.f b t x l i = some (if i = b then (t, true) else if i - b ≤ l.length then ((rd_T36 l (i - b - 1)).f0, true) else (0, false)) := by
  unfold ferruleref05_TermAt.f
  by_cases h : i = b
  · rw [if_pos h, if_pos h]
  · rw [if_neg h, if_neg h, if_neg (by omega), wrapU_in (x := i - b) (by omega) (by omega), wrapU_in (x := (l.length : Int)) (by omega) (by omega)]
    by_cases c : i - b ≤ l.length
    · rw [if_neg (by omega), if_pos c, wrapU_in (x := i - b - 1) (by omega) (by omega), if_pos (by omega), if_pos (by omega)]
    · rw [if_pos (by omega), if_neg c]
end Go.Proofs.Ytbejichfgednhaa.Pr
