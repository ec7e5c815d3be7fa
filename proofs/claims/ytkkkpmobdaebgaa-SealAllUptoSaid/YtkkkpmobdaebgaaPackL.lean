/- Plain laws of pack's numbers: sizes, bytes, what is taken. Conditions: none. -/
import Derived.Test.YtkkkpmobdaebgaaHandNum
import Derived.Laws.BitsLemmas
import Derived.Laws.Bits64
namespace Go.Proofs.Ytkkkpmobdaebgaa.Pr
open Go.RowKit Go.Proofs.YtkkkpmobdaebgaaW.PrintWords Go.Proofs.YtkkkpmobdaebgaaW.PrintLast Go.Proofs.YtkkkpmobdaebgaaW.PrintMore

theorem inU64_wf {a : Int} (h : (Lit.int .u64 a).wf = true) : inU64 a := by
  simp [Lit.wf, IntKind.min, IntKind.max, IntKind.signed, IntKind.bits] at h
  unfold inU64
  omega
theorem u8_join64 {x t : Int} (h0 : 0 ≤ x) (h1 : x < 64) (ht : t = 0 ∨ t = 64 ∨ t = 128 ∨ t = 192) : Go.bits .or .u8 x t = x + t := by
  obtain ⟨n, rfl⟩ := Int.eq_ofNat_of_zero_le h0
  have hn : n < 64 := by omega
  rcases ht with rfl | rfl | rfl | rfl
  · exact (by decide +kernel : ∀ n : Fin 64, Go.bits .or .u8 (n.val : Int) 0 = (n.val : Int) + 0) ⟨n, hn⟩
  · exact (by decide +kernel : ∀ n : Fin 64, Go.bits .or .u8 (n.val : Int) 64 = (n.val : Int) + 64) ⟨n, hn⟩
  · exact (by decide +kernel : ∀ n : Fin 64, Go.bits .or .u8 (n.val : Int) 128 = (n.val : Int) + 128) ⟨n, hn⟩
  · exact (by decide +kernel : ∀ n : Fin 64, Go.bits .or .u8 (n.val : Int) 192 = (n.val : Int) + 192) ⟨n, hn⟩
theorem num1_eq {v : Int} (h0 : 0 ≤ v) (h1 : v < 64) : num1 v = [v] := by
  unfold num1
  rw [u8_join64 h0 h1 (by omega), Int.add_zero]
theorem num2_eq {v : Int} (h0 : 64 ≤ v) (h1 : v < 16384) : num2 v = [v / 256 + 64, v % 256] := by
  unfold num2
  rw [u8_join64 (by omega) (by omega) (by omega)]
theorem num4_eq {v : Int} (h0 : 16384 ≤ v) (h1 : v < 1073741824) : num4 v = [v / 16777216 + 128, v / 65536 % 256, v / 256 % 256, v % 256] := by
  unfold num4
  rw [u8_join64 (by omega) (by omega) (by omega)]
theorem num8_eq {v : Int} (h0 : 1073741824 ≤ v) (h1 : v < 4611686018427387904) : num8 v = [v / 72057594037927936 + 192, v / 281474976710656 % 256, v / 1099511627776 % 256, v / 4294967296 % 256, v / 16777216 % 256, v / 65536 % 256, v / 256 % 256, v % 256] := by
  unfold num8
  rw [u8_join64 (by omega) (by omega) (by omega)]
theorem numL_length {v : Int} : ((numL v).length : Int) = sizeI v := by
  unfold numL sizeI
  split
  · rfl
  · split
    · rfl
    · split
      · rfl
      · split <;> rfl
theorem size_num (v : Int) : ((strOfNums (numL v)).size : Int) = sizeI v := by rw [strOfNums_size]; exact numL_length
theorem num_f {v : Int} (h : inU64 v) : pack_Num.f v = some (strOfNums (numL v), numE v) := by unfold pack_Num.f; rw [if_pos h]
theorem size_f {v : Int} (h : inU64 v) : pack_Size.f v = some (sizeI v) := by unfold pack_Size.f; rw [if_pos h]
theorem sizeI_cases (v : Int) : (v < 64 ∧ sizeI v = 1) ∨ (64 ≤ v ∧ v < 16384 ∧ sizeI v = 2) ∨ (16384 ≤ v ∧ v < 1073741824 ∧ sizeI v = 4) ∨ (1073741824 ≤ v ∧ v < 4611686018427387904 ∧ sizeI v = 8) ∨ (4611686018427387904 ≤ v ∧ sizeI v = 0) := by
  unfold sizeI
  split
  · omega
  · split
    · omega
    · split
      · omega
      · split <;> omega
theorem strOfNums_append (a b : List Int) : strOfNums (a ++ b) = strOfNums a ++ strOfNums b := by
  apply ByteArray.ext
  rw [ByteArray.data_append]
  simp [strOfNums]
theorem ba_assoc (a b c : ByteArray) : a ++ b ++ c = a ++ (b ++ c) := by
  apply ByteArray.ext
  simp only [ByteArray.data_append, Array.append_assoc]
theorem strOfNums_nil : strOfNums [] = (⟨#[]⟩ : ByteArray) := rfl
theorem ba_nil (a : ByteArray) : a ++ (⟨#[]⟩ : ByteArray) = a := by
  apply ByteArray.ext
  simp [ByteArray.data_append]
theorem nil_ba (a : ByteArray) : (⟨#[]⟩ : ByteArray) ++ a = a := by
  apply ByteArray.ext
  simp [ByteArray.data_append]
/-- The d low bytes of a number, the greatest first. -/
def lowB : Nat → Int → List Int
  | 0, _ => []
  | d + 1, x => lowB d (x / 256) ++ [x % 256]
theorem lowB_length : ∀ (d : Nat) (x : Int), (lowB d x).length = d
  | 0, _ => rfl
  | d + 1, x => by simp [lowB, lowB_length d]
theorem numL_1 {v : Int} (h0 : 0 ≤ v) (h1 : v < 64) : numL v = lowB 1 v := by
  unfold numL
  rw [if_pos h1, num1_eq h0 h1]
  simp only [lowB, List.nil_append]
  congr 1
  omega
theorem numL_2 {v : Int} (h0 : 64 ≤ v) (h1 : v < 16384) : numL v = lowB 2 (v + 16384) := by
  unfold numL
  rw [if_neg (by omega), if_pos h1, num2_eq h0 h1]
  simp only [lowB, List.nil_append, List.cons_append, List.cons.injEq, and_true]
  omega
theorem numL_4 {v : Int} (h0 : 16384 ≤ v) (h1 : v < 1073741824) : numL v = lowB 4 (v + 2147483648) := by
  unfold numL
  rw [if_neg (by omega), if_neg (by omega), if_pos h1, num4_eq h0 h1]
  simp only [lowB, List.nil_append, List.cons_append, List.cons.injEq, and_true]
  omega
theorem numL_8 {v : Int} (h0 : 1073741824 ≤ v) (h1 : v < 4611686018427387904) : numL v = lowB 8 (v + 13835058055282163712) := by
  unfold numL
  rw [if_neg (by omega), if_neg (by omega), if_neg (by omega), if_pos h1, num8_eq h0 h1]
  simp only [lowB, List.nil_append, List.cons_append, List.cons.injEq, and_true]
  refine ⟨?_, ?_, ?_, ?_, ?_, ?_, ?_, ?_⟩ <;> omega
theorem numL_0 {v : Int} (h0 : 4611686018427387904 ≤ v) : numL v = [] := by
  unfold numL
  rw [if_neg (by omega), if_neg (by omega), if_neg (by omega), if_neg (by omega)]
end Go.Proofs.Ytkkkpmobdaebgaa.Pr
