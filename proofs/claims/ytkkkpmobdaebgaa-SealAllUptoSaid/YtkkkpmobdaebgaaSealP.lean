/- Plain laws of seal: what is put, what is taken. Conditions: none. -/
import Derived.Test.YtkkkpmobdaebgaaSealL
import Derived.Test.YtkkkpmobdaebgaaPr1
import Derived.Test.YtkkkpmobdaebgaaPr7
namespace Go.Proofs.Ytkkkpmobdaebgaa.Pr
open Go.RowKit Go.Proofs.YtkkkpmobdaebgaaW.PrintWords Go.Proofs.YtkkkpmobdaebgaaW.PrintLast Go.Proofs.YtkkkpmobdaebgaaW.PrintMore
/-- A sum's bytes. -/
def tailB (v : Int) : ByteArray := strOfNums [(v / 16777216) % 256, (v / 65536) % 256, (v / 256) % 256, v % 256]
theorem tail_f (v : Int) : seal_tail.f v = some (tailB v) := rfl
theorem tailB_size (v : Int) : (tailB v).size = 4 := strOfNums_size _
theorem four_f {v : Int} (h0 : 0 ≤ v) : ferruleref02_four.f v = some (tailB v) := by
  unfold ferruleref02_four.f tailB
  rw [Int.tdiv_eq_ediv_of_nonneg h0, Int.tdiv_eq_ediv_of_nonneg h0, Int.tdiv_eq_ediv_of_nonneg h0, Int.tmod_eq_emod_of_nonneg h0]
  have e1 : (v / 16777216 % 4294967296) % 256 = v / 16777216 % 256 := by omega
  have e2 : (v / 65536 % 4294967296) % 256 = v / 65536 % 256 := by omega
  have e3 : (v / 256 % 4294967296) % 256 = v / 256 % 256 := by omega
  have e4 : (v % 256) % 256 = v % 256 := by omega
  rw [e1, e2, e3, e4]
/-- What stands ahead of the sum. -/
def headB (a : ByteArray) : ByteArray := strOfNums (numL (a.size : Int)) ++ a
theorem headB_size (a : ByteArray) : ((headB a).size : Int) = sizeI (a.size : Int) + a.size := by
  unfold headB
  rw [ByteArray.size_append]
  have := size_num (a.size : Int)
  omega
theorem put_f {a : ByteArray} (h : a.size ≤ 65536) : seal_Put.f a = some (headB a ++ tailB (sumI (headB a)), 0) := by
  have hi : inU64 (a.size : Int) := by unfold inU64; omega
  have hz := sizeI_cases (a.size : Int)
  have hs := size_num (a.size : Int)
  have hh := headB_size a
  have ht := tailB_size (sumI (headB a))
  unfold seal_Put.f
  rw [if_neg (by omega), num_f hi, Option.bind_some]
  try simp only
  rw [if_pos (by omega)]
  show ((seal_Sum.f (headB a)).bind fun t106 => _) = _
  rw [sum_f _ (by omega), Option.bind_some, tail_f, Option.bind_some]
  show (if (headB a).size + _ ≤ 9223372036854775807 then some (headB a ++ _, _) else none) = _
  rw [if_pos (by omega)]
  unfold numE
  rw [if_pos (by omega)]
theorem rput_f {a : ByteArray} (h : a.size ≤ 65536) (k : Nat) (hk : a.size + 30 ≤ k) : ferruleref02_Put.f k a = some (headB a ++ tailB (sumI (headB a)), 0) := by
  have hi : inU64 (a.size : Int) := by unfold inU64; omega
  have hz := sizeI_cases (a.size : Int)
  have hs := size_num (a.size : Int)
  have hh := headB_size a
  have ht := tailB_size (sumI (headB a))
  have hn := up (fun k => ferruleref01_Num.f k (a.size : Int)) (fun k => ferruleref01_Num.mono _ k) (refnum hi) (by omega : 20 ≤ k)
  try simp only at hn
  unfold ferruleref02_Put.f
  rw [if_neg (by omega), hn, Option.bind_some]
  try simp only
  rw [if_pos (by omega)]
  show ((ferruleref02_Sum.f k (headB a)).bind fun t123 => _) = _
  rw [rsum_f _ (by omega) k (by omega), Option.bind_some, four_f (sumI_range _).1, Option.bind_some]
  show (if (headB a).size + _ ≤ 9223372036854775807 then some (headB a ++ _, _) else none) = _
  rw [if_pos (by omega)]
theorem put_big {a : ByteArray} (h : ¬ a.size ≤ 65536) : seal_Put.f a = some ((⟨#[]⟩ : ByteArray), 4) := by
  unfold seal_Put.f
  rw [if_pos (by omega)]
theorem rput_big {a : ByteArray} (h : ¬ a.size ≤ 65536) (k : Nat) : ferruleref02_Put.f k a = some ((⟨#[]⟩ : ByteArray), 4) := by
  unfold ferruleref02_Put.f
  rw [if_pos (by omega)]
end Go.Proofs.Ytkkkpmobdaebgaa.Pr
