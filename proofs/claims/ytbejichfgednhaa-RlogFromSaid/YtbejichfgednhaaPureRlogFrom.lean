/- The pure statement of the law RlogFrom, proved. Conditions: none. -/
import Derived.Test.YtbejichfgednhaaDefRlogFrom
import Derived.Test.YtbejichfgednhaaRlogL
namespace Go.Proofs.Ytbejichfgednhaa.Pure
open Go.RowKit Go.Proofs.Ytbejichfgednhaa.Pr Go.Proofs.YtbejichfgednhaaW.PrintWords Go.Proofs.YtbejichfgednhaaW.PrintLast Go.Proofs.YtbejichfgednhaaW.PrintMore
theorem take_one (l : List S36) (K i : Nat) (hK : K ≤ i) (hi : i < l.length) : (l.drop K).take (i + 1 - K) = (l.drop K).take (i - K) ++ [(⟨(rd_T36 l (i : Int)).f0, (rd_T36 l (i : Int)).f1⟩ : S36)] := by
  have h1 : i + 1 - K = (i - K) + 1 := by omega
  rw [h1, List.take_add_one, List.getElem?_drop, (by omega : K + (i - K) = i), List.getElem?_eq_getElem hi]
  have : rd_T36 l (i : Int) = l[i] := by
    unfold rd_T36
    rw [(by omega : ((i : Int)).toNat = i), List.getD_eq_getElem?_getD, List.getElem?_eq_getElem hi]
    rfl
  rw [this]
  rfl
theorem from_loop (l : List S36) (b t a1 a2 : Int) (x : ByteArray) (K : Nat) (hl : l.length ≤ 5864062014804) (hb0 : 0 ≤ b) (hK : a1 = b + K + 1) (h1 : a1 < 18446744073709551616) : ∀ d k i, i + d = l.length → i - K ≤ a2.toNat →
    ferruleref05_From.l0 (k + 2 * d + 2) a1 a2 ((l.drop K).take (i - K)) (i : Int) b t x l = some ((l.drop K).take (min a2.toNat (l.length - K)), true)
  | 0, k, i, hi, hm => by
    show ferruleref05_From.l0 ((k + 1) + 1) a1 a2 _ _ b t x l = _
    rw [ferruleref05_From.l0, if_neg (by omega)]
    rw [ferruleref05_From.j1, if_neg (by decide)]
    rw [(by omega : min a2.toNat (l.length - K) = i - K)]
  | d + 1, k, i, hi, hm => by
    show ferruleref05_From.l0 ((k + 2 * d + 2 + 1) + 1) a1 a2 _ _ b t x l = _
    have hlen : ((l.drop K).take (i - K)).length = i - K := by rw [List.length_take, List.length_drop]; omega
    rw [ferruleref05_From.l0, if_pos (by omega), hlen]
    by_cases hc : ((i - K : Nat) : Int) < a2
    · rw [decide_eq_true hc, ferruleref05_From.j1, if_pos rfl, wrapU_in (x := (i : Int)) (by omega) (by omega), wrapU_in (x := a1 - b) (by omega) (by omega), wrapU_in (by omega) (by omega)]
      have ih := from_loop l b t a1 a2 x K hl hb0 hK h1 d k (i + 1) (by omega) (by omega)
      by_cases hk : (i : Int) ≥ a1 - b - 1
      · rw [if_pos hk, if_pos (by omega), if_pos (by omega), hlen, if_pos (by omega), wrap64_big (by omega) (by omega), ← take_one l K i (by omega) (by omega)]
        exact ih
      · rw [if_neg hk, wrap64_big (by omega) (by omega)]
        rw [(by omega : i + 1 - K = i - K)] at ih
        exact ih
    · rw [decide_eq_false hc, ferruleref05_From.j1, if_neg (by decide)]
      rw [(by omega : min a2.toNat (l.length - K) = i - K)]
theorem RlogFrom : ferrulelaw05_RlogFrom.Pure := by
  intro b t x l a1 a2 hq h1 h2
  have hb := hq.1
  simp [Lit.wf, IntKind.min, IntKind.max, IntKind.signed, IntKind.bits] at hb h1 h2
  have hl : l.length * 24 ≤ 140737488351232 := hq.2.2.2.2.1
  refine ⟨2 * l.length + 20, ?_⟩
  unfold ferrulelaw05_RlogFrom.f
  show (some true).bind _ = _
  simp only [Option.bind_some]
  by_cases h : b > 4611686018427387903
  · rw [if_pos h]
  · rw [if_neg h]
    unfold rlog_From.f ferruleref05_From.f
    by_cases c1 : a1 ≤ b
    · rw [if_pos c1, if_pos c1]
      simp only [Option.bind_some]
      rw [ent_same [] (by simp) _ (by simp)]
      simp
    · rw [if_neg c1, if_neg c1]
      obtain ⟨K, hK⟩ : ∃ K : Nat, a1 = b + K + 1 := ⟨(a1 - b - 1).toNat, by omega⟩
      have hf := from_loop l b t a1 a2 x K (by omega) (by omega) hK (by omega) l.length 18 0 (by omega) (by omega)
      have e0 : (l.drop K).take (0 - K) = [] := by rw [Nat.zero_sub]; rfl
      rw [e0, (by omega : 18 + 2 * l.length + 2 = 2 * l.length + 20)] at hf
      rw [show ((0 : Nat) : Int) = 0 from rfl] at hf
      rw [hf]
      unfold rlog_at.f
      rw [if_neg c1, wrapU_in (x := a1 - b) (by omega) (by omega), wrapU_in (x := (l.length : Int)) (by omega) (by omega)]
      by_cases c2 : a1 - b > (l.length : Int)
      · rw [if_pos c2]
        simp only [Option.bind_some]
        rw [if_neg (by decide), (by omega : min a2.toNat (l.length - K) = 0)]
        simp only [Option.bind_some, List.take_zero]
        rw [ent_same [] (by simp) _ (by simp)]
        simp
      · rw [if_neg c2, wrapU_in (by omega) (by omega), wrap64_big (by omega) (by omega)]
        simp only [Option.bind_some]
        have hm : mn (mx a2 0) ((l.drop (a1 - b - 1).toNat).length : Int) = ((min a2.toNat (l.length - K) : Nat) : Int) := by
          rw [List.length_drop, (by omega : (a1 - b - 1).toNat = K)]
          unfold mn mx
          split <;> split <;> omega
        rw [if_true, if_pos (by omega), if_pos (by omega), hm]
        have hd : (l.drop (a1 - b - 1).toNat).length = l.length - K := by rw [List.length_drop]; omega
        rw [if_pos (by omega), if_pos (by omega)]
        unfold slices_Clone.f
        rw [(by omega : (((min a2.toNat (l.length - K) : Nat) : Int)).toNat = min a2.toNat (l.length - K)), (by omega : (a1 - b - 1).toNat = K)]
        have ht : ((l.drop K).take (min a2.toNat (l.length - K))).length ≤ l.length := by rw [List.length_take, List.length_drop]; omega
        rw [if_pos (by omega)]
        simp only [Option.bind_some]
        rw [ent_same _ (by omega) _ (by omega)]
        simp
end Go.Proofs.Ytbejichfgednhaa.Pure
