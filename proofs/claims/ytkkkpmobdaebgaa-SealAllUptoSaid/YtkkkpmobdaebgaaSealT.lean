/- What seal.Take takes behind a number: plain texts. Conditions: none. -/
import Derived.Test.YtkkkpmobdaebgaaSealP
import Derived.Test.YtkkkpmobdaebgaaPr11
namespace Go.Proofs.Ytkkkpmobdaebgaa.Pr
open Go.RowKit Go.Proofs.YtkkkpmobdaebgaaW.PrintWords Go.Proofs.YtkkkpmobdaebgaaW.PrintLast Go.Proofs.YtkkkpmobdaebgaaW.PrintMore
set_option linter.unusedVariables false
set_option linter.unusedSimpArgs false
theorem wrap64_in' {x : Int} (h0 : -9223372036854775808 ≤ x) (h1 : x < 9223372036854775808) : wrap64 x = x := by
  simp [wrap64]
  omega
theorem ext_all {a : ByteArray} {n : Nat} (h : a.size ≤ n) : a.extract 0 n = a := by
  ext1
  simp only [ByteArray.data_extract]
  exact Array.extract_eq_self_of_le h
theorem stake (K : Nat) (hd x : ByteArray) (n : Nat) (hT : pack_TakeNum.f K (hd ++ x) = some ((n : Int), x, 0)) (hn : n ≤ 65536) (ha : (hd ++ x).size ≤ 4611686018427387904) :
    seal_Take.f K (hd ++ x) = if x.size < n + 4 then some ((⟨#[]⟩ : ByteArray), (⟨#[]⟩ : ByteArray), 2) else if (tailB (sumI (hd ++ x.extract 0 n))).toList = (x.extract n (n + 4)).toList then some (x.extract 0 n, x.extract (n + 4) x.size, 0) else some ((⟨#[]⟩ : ByteArray), (⟨#[]⟩ : ByteArray), 3) := by
  have hsz : (hd ++ x).size = hd.size + x.size := ByteArray.size_append
  unfold seal_Take.f
  rw [hT]
  simp only [Option.bind_some, if_true]
  rw [if_neg (by omega), wrap_in (x := (n : Int) + 4) (by omega) (by omega), wrap_in (x := (x.size : Int)) (by omega) (by omega)]
  by_cases c : x.size < n + 4
  · rw [if_pos c, if_pos (by omega)]
  · rw [if_neg c, if_neg (by omega)]
    have e1 : ((n : Int) + 4).toNat = n + 4 := by omega
    have e2 : (x.extract (n + 4) x.size).size = x.size - (n + 4) := by rw [ByteArray.size_extract]; omega
    rw [e1, e2]
    have e3 : wrap64 (wrap64 (((hd ++ x).size : Int) - ((x.size - (n + 4) : Nat) : Int)) - 4) = ((hd.size + n : Nat) : Int) := by
      rw [wrap64_in' (x := ((hd ++ x).size : Int) - _) (by omega) (by omega), wrap64_in' (by omega) (by omega)]
      omega
    rw [e3, Int.toNat_natCast, Int.toNat_natCast]
    have e4 : (hd ++ x).extract 0 (hd.size + n) = hd ++ x.extract 0 n := by
      rw [ByteArray.extract_append, ext_all (by omega)]
      rw [show 0 - hd.size = 0 from by omega, show hd.size + n - hd.size = n from by omega]
    rw [e4, if_pos (by omega), if_pos (by omega), if_pos (by omega), if_pos (by omega), if_pos (by omega), if_pos (by omega), sum_f _ (by rw [ByteArray.size_append, ByteArray.size_extract]; omega)]
    simp only [Option.bind_some]
    rw [tail_f]
    simp only [Option.bind_some]
    rw [if_pos (by omega)]
end Go.Proofs.Ytkkkpmobdaebgaa.Pr
