/- The pure statement of the law SealSizes, proved. Conditions: none. -/
import Derived.Test.YtkkkpmobdaebgaaDefSealSizes
import Derived.Test.YtkkkpmobdaebgaaSealP
namespace Go.Proofs.Ytkkkpmobdaebgaa.Pure
open Go.RowKit Go.Proofs.Ytkkkpmobdaebgaa.Pr Go.Proofs.YtkkkpmobdaebgaaW.PrintWords Go.Proofs.YtkkkpmobdaebgaaW.PrintLast Go.Proofs.YtkkkpmobdaebgaaW.PrintMore
theorem SealSizes : ferrulelaw02_SealSizes.Pure := by
  intro a ha
  refine ⟨20, ?_⟩
  unfold ferrulelaw02_SealSizes.f
  rw [shown_true]
  by_cases h : a.size ≤ 65536
  · have hi : inU64 (a.size : Int) := by unfold inU64; omega
    have hz := sizeI_cases (a.size : Int)
    have hh := headB_size a
    have ht := tailB_size (sumI (headB a))
    have hb : headB a ++ tailB (sumI (headB a)) = strOfNums (numL (a.size : Int)) ++ (a ++ tailB (sumI (headB a))) := ba_assoc _ _ _
    have htk : pack_TakeNum.f 20 (headB a ++ tailB (sumI (headB a))) = some ((a.size : Int), a ++ tailB (sumI (headB a)), 0) := by
      rw [hb]
      exact take_back _ (by omega) (by omega)
    have hsz : ((headB a ++ tailB (sumI (headB a))).size : Int) = sizeI (a.size : Int) + a.size + 4 := by
      rw [ByteArray.size_append]
      omega
    have hsz2 : ((a ++ tailB (sumI (headB a))).size : Int) = a.size + 4 := by
      rw [ByteArray.size_append]
      omega
    have hex : (a ++ tailB (sumI (headB a))).extract 0 a.size = a := ByteArray.extract_append_eq_left rfl
    rw [put_f h]
    simp only [Option.bind_some]
    rw [if_true, htk]
    simp only [Option.bind_some]
    rw [if_true, if_true]
    try rw [wrap_in (by omega) (by omega)]
    rw [if_pos rfl, size_f hi, Option.bind_some, hsz, wrap64_big (x := sizeI (a.size : Int) + a.size) (by omega) (by omega), wrap64_big (by omega) (by omega), if_pos rfl, if_pos (by omega), if_pos (by omega)]
    rw [(by omega : ((a.size : Int)).toNat = a.size), hex, beq_self_eq_true]
  · rw [put_big h]
    simp only [Option.bind_some, if_true]
    rw [if_neg (by omega), decide_eq_true (by omega)]
end Go.Proofs.Ytkkkpmobdaebgaa.Pure
