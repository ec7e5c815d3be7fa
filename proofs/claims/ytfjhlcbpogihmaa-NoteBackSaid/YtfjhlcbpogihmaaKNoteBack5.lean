/- Several texts of one depth, laid together. Conditions: none. -/
import Derived.Test.YtfjhlcbpogihmaaGNoteBackPr0
import Derived.Test.YtfjhlcbpogihmaaGNoteBackPr8
import Derived.Test.YtfjhlcbpogihmaaGNoteBackHandNum
import Derived.Laws.BitsLemmas
import Derived.Laws.Bits64
import Derived.Test.YtfjhlcbpogihmaaGNoteBackPr16
import Derived.Test.YtfjhlcbpogihmaaKNoteBack3
section
namespace Go.Proofs.Ytfjhlcbpogihmaa.Pr
open Go.RowKit Go.Proofs.YtfjhlcbpogihmaaW.PrintWords Go.Proofs.YtfjhlcbpogihmaaW.PrintLast Go.Proofs.YtfjhlcbpogihmaaW.PrintMore
attribute [local go_sem] max2_int min2_int max_two min_two max_three min_three max_four min_four
set_option linter.unusedVariables false
set_option linter.unusedSimpArgs false
/-! ### ferruleref04_Step: function 44 -/
mutual
def ferruleref04_Step.l0 : Nat → List (S75) → Int → Int → Int → Int → Int → ByteArray → List (S75) → Int → Int → Int → Int → ByteArray → Int → Int → ByteArray → List (S75) → Option (Int × Int × Int × Int × ByteArray × (List (S75)))
  | 0, _, _, _, _, _, _, _, _, _, _, _, _, _, _, _, _, _ => none
  | k + 1, x6, x7, x126000, x126001, x126002, x126003, x126004, x126005, x127000, x127001, x127002, x127003, x127004, x129000, x129001, x129002, x129003 => if x7 < (x129003.length : Int) then (if (IntKind.u64.wrap ((IntKind.u64.wrap (x129000 + (IntKind.u64.wrap (x7)))) + 1)) < x127001 then (if 0 ≤ x7 then ((some (([(⟨(rd_T75 x129003 x7).f0, (rd_T75 x129003 x7).f1⟩ : S75)] : List (S75)) : List (S75))).bind fun y143 => (if x6.length + y143.length < 5864062014805 then (ferruleref04_Step.l0 k (x6 ++ y143) (wrap64 (x7 + 1)) x126000 x126001 x126002 x126003 x126004 x126005 x127000 x127001 x127002 x127003 x127004 x129000 x129001 x129002 x129003) else (none))) else (none)) else (ferruleref04_Step.l0 k x6 (wrap64 (x7 + 1)) x126000 x126001 x126002 x126003 x126004 x126005 x127000 x127001 x127002 x127003 x127004 x129000 x129001 x129002 x129003)) else (some (x126000, x126001, x126002, x126003, x126004, x6))
def ferruleref04_Step.j1 : Nat → Bool → Int → Int → Int → Int → ByteArray → List (S75) → Int → Int → Int → Int → ByteArray → Int → Int → ByteArray → List (S75) → Option (Int × Int × Int × Int × ByteArray × (List (S75)))
  | 0, _, _, _, _, _, _, _, _, _, _, _, _, _, _, _, _ => none
  | k + 1, x96, x126000, x126001, x126002, x126003, x126004, x126005, x127000, x127001, x127002, x127003, x127004, x129000, x129001, x129002, x129003 => if x96 = true then (some (x126000, x126001, x126002, x126003, x126004, x126005)) else (ferruleref04_Step.l1 k ([] : List (S75)) false 0 x126000 x126001 x126002 x126003 x126004 x126005 x127000 x127001 x127002 x127003 x127004 x129000 x129001 x129002 x129003)
def ferruleref04_Step.l1 : Nat → List (S75) → Bool → Int → Int → Int → Int → Int → ByteArray → List (S75) → Int → Int → Int → Int → ByteArray → Int → Int → ByteArray → List (S75) → Option (Int × Int × Int × Int × ByteArray × (List (S75)))
  | 0, _, _, _, _, _, _, _, _, _, _, _, _, _, _, _, _, _, _ => none
  | k + 1, x8, x9, x10, x126000, x126001, x126002, x126003, x126004, x126005, x127000, x127001, x127002, x127003, x127004, x129000, x129001, x129002, x129003 => if x10 < (x129003.length : Int) then (if (IntKind.u64.wrap ((IntKind.u64.wrap (x129000 + (IntKind.u64.wrap (x10)))) + 1)) = x127001 then (if 0 ≤ x10 then (ferruleref04_Step.j3 k x8 x9 x10 (IntKind.u64.wrap ((IntKind.u64.wrap (x129000 + (IntKind.u64.wrap (x10)))) + 1)) (((rd_T75 x129003 x10).f0) == x127002) x126000 x126001 x126002 x126003 x126004 x126005 x127000 x127001 x127002 x127003 x127004 x129000 x129001 x129002 x129003) else (none)) else (ferruleref04_Step.j3 k x8 x9 x10 (IntKind.u64.wrap ((IntKind.u64.wrap (x129000 + (IntKind.u64.wrap (x10)))) + 1)) false x126000 x126001 x126002 x126003 x126004 x126005 x127000 x127001 x127002 x127003 x127004 x129000 x129001 x129002 x129003)) else (some (x126000, x126001, x127001, x127002, x127004, x8))
def ferruleref04_Step.j3 : Nat → List (S75) → Bool → Int → Int → Bool → Int → Int → Int → Int → ByteArray → List (S75) → Int → Int → Int → Int → ByteArray → Int → Int → ByteArray → List (S75) → Option (Int × Int × Int × Int × ByteArray × (List (S75)))
  | 0, _, _, _, _, _, _, _, _, _, _, _, _, _, _, _, _, _, _, _, _ => none
  | k + 1, x8, x9, x10, x11, x125, x126000, x126001, x126002, x126003, x126004, x126005, x127000, x127001, x127002, x127003, x127004, x129000, x129001, x129002, x129003 => if x125 = true then (ferruleref04_Step.l1 k x8 true (wrap64 (x10 + 1)) x126000 x126001 x126002 x126003 x126004 x126005 x127000 x127001 x127002 x127003 x127004 x129000 x129001 x129002 x129003) else (if x11 > x127001 then (if x9 = true then (if 0 ≤ x10 then (if x10 < (x129003.length : Int) then ((some (([(⟨(rd_T75 x129003 x10).f0, (rd_T75 x129003 x10).f1⟩ : S75)] : List (S75)) : List (S75))).bind fun y151 => (if x8.length + y151.length < 5864062014805 then (ferruleref04_Step.l1 k (x8 ++ y151) x9 (wrap64 (x10 + 1)) x126000 x126001 x126002 x126003 x126004 x126005 x127000 x127001 x127002 x127003 x127004 x129000 x129001 x129002 x129003) else (none))) else (none)) else (none)) else (ferruleref04_Step.l1 k x8 x9 (wrap64 (x10 + 1)) x126000 x126001 x126002 x126003 x126004 x126005 x127000 x127001 x127002 x127003 x127004 x129000 x129001 x129002 x129003)) else (ferruleref04_Step.l1 k x8 x9 (wrap64 (x10 + 1)) x126000 x126001 x126002 x126003 x126004 x126005 x127000 x127001 x127002 x127003 x127004 x129000 x129001 x129002 x129003))
end
def ferruleref04_Step.f (k : Nat) (a0_0 : Int) (a0_1 : Int) (a0_2 : Int) (a0_3 : Int) (a0_4 : ByteArray) (l0_5 : List (S75)) (a1_0 : Int) (a1_1 : Int) (a1_2 : Int) (a1_3 : Int) (a1_4 : ByteArray) : Option (Int × Int × Int × Int × ByteArray × (List (S75))) := if a1_0 = 1 then (some (a1_2, a1_3, a0_2, a0_3, a0_4, l0_5)) else (if a1_0 = 2 then ((ferruleref04_Last.f a0_2 a0_3 a0_4 l0_5).bind fun t129 => (if a1_1 = (IntKind.u64.wrap (t129 + 1)) then (if (l0_5.length : Int) < 1024 then (if a1_1 ≤ 1099511627776 then ((some (([] : List (S75)) : List (S75))).bind fun y130 => (if y130.length + l0_5.length < 5864062014805 then ((some (y130 ++ l0_5 : List (S75))).bind fun y133 => ((some (([(⟨a1_2, a1_4⟩ : S75)] : List (S75)) : List (S75))).bind fun y136 => (if y133.length + y136.length < 5864062014805 then (some (a0_0, a0_1, a0_2, a0_3, a0_4, (y133 ++ y136))) else (none)))) else (none))) else (some (a0_0, a0_1, a0_2, a0_3, a0_4, l0_5))) else (some (a0_0, a0_1, a0_2, a0_3, a0_4, l0_5))) else (some (a0_0, a0_1, a0_2, a0_3, a0_4, l0_5)))) else (if a1_0 = 3 then (ferruleref04_Step.l0 k ([] : List (S75)) 0 a0_0 a0_1 a0_2 a0_3 a0_4 l0_5 a1_0 a1_1 a1_2 a1_3 a1_4 a0_2 a0_3 a0_4 l0_5) else (if a1_0 = 4 then (if a1_1 ≤ a0_2 then (ferruleref04_Step.j1 k true a0_0 a0_1 a0_2 a0_3 a0_4 l0_5 a1_0 a1_1 a1_2 a1_3 a1_4 a0_2 a0_3 a0_4 l0_5) else (ferruleref04_Step.j1 k (decide (a1_1 > 1099511627776)) a0_0 a0_1 a0_2 a0_3 a0_4 l0_5 a1_0 a1_1 a1_2 a1_3 a1_4 a0_2 a0_3 a0_4 l0_5)) else (some (a0_0, a0_1, a0_2, a0_3, a0_4, l0_5)))))
namespace ShRStepA

end ShRStepA
open ShRStepA
end Go.Proofs.Ytfjhlcbpogihmaa.Pr
end
section
namespace Go.Proofs.Ytfjhlcbpogihmaa.Pr
open Go.RowKit Go.Proofs.YtfjhlcbpogihmaaW.PrintWords Go.Proofs.YtfjhlcbpogihmaaW.PrintLast Go.Proofs.YtfjhlcbpogihmaaW.PrintMore
attribute [local go_sem] max2_int min2_int max_two min_two max_three min_three max_four min_four
set_option linter.unusedVariables false
set_option linter.unusedSimpArgs false
namespace ShRStepB

end ShRStepB
open ShRStepB
end Go.Proofs.Ytfjhlcbpogihmaa.Pr
end
section
namespace Go.Proofs.Ytfjhlcbpogihmaa.Pr
open Go.RowKit Go.Proofs.YtfjhlcbpogihmaaW.PrintWords Go.Proofs.YtfjhlcbpogihmaaW.PrintLast Go.Proofs.YtfjhlcbpogihmaaW.PrintMore
attribute [local go_sem] max2_int min2_int max_two min_two max_three min_three max_four min_four
set_option linter.unusedVariables false
set_option linter.unusedSimpArgs false
namespace ShRStepC

end ShRStepC
open ShRStepC
end Go.Proofs.Ytfjhlcbpogihmaa.Pr
end
section
namespace Go.Proofs.Ytfjhlcbpogihmaa.Pr
open Go.RowKit Go.Proofs.YtfjhlcbpogihmaaW.PrintWords Go.Proofs.YtfjhlcbpogihmaaW.PrintLast Go.Proofs.YtfjhlcbpogihmaaW.PrintMore
attribute [local go_sem] max2_int min2_int max_two min_two max_three min_three max_four min_four
set_option linter.unusedVariables false
set_option linter.unusedSimpArgs false
/-! ### ferruleref04_Fold: function 17 -/
def ferruleref04_Fold.l0 : Nat → List (S39) → Int → Int → Int → Int → Int → ByteArray → List (S75) → Option (Int × Int × Int × Int × ByteArray × (List (S75)))
  | 0, _, _, _, _, _, _, _, _ => none
  | k + 1, x0, x4, x159000, x159001, x159002, x159003, x159004, x159005 => if x4 < (x0.length : Int) then (if 0 ≤ x4 then ((ferruleref04_Step.f k x159000 x159001 x159002 x159003 x159004 x159005 ((rd_T39 x0 x4).f0) ((rd_T39 x0 x4).f1) ((rd_T39 x0 x4).f2) ((rd_T39 x0 x4).f3) ((rd_T39 x0 x4).f4)).bind fun bt160 => (ferruleref04_Fold.l0 k x0 (wrap64 (x4 + 1)) bt160.1 bt160.2.1 bt160.2.2.1 bt160.2.2.2.1 bt160.2.2.2.2.1 bt160.2.2.2.2.2)) else (none)) else (some (x159000, x159001, x159002, x159003, x159004, x159005))
def ferruleref04_Fold.f (k : Nat) (l0 : List (S39)) : Option (Int × Int × Int × Int × ByteArray × (List (S75))) := ferruleref04_Fold.l0 k l0 0 0 0 0 0 (⟨#[]⟩ : ByteArray) ([] : List (S75))
end Go.Proofs.Ytfjhlcbpogihmaa.Pr
end
section
namespace Go.Proofs.Ytfjhlcbpogihmaa.Pr
open Go.RowKit Go.Proofs.YtfjhlcbpogihmaaW.PrintWords Go.Proofs.YtfjhlcbpogihmaaW.PrintLast Go.Proofs.YtfjhlcbpogihmaaW.PrintMore
theorem u8_join64 {x t : Int} (h0 : 0 ≤ x) (h1 : x < 64) (ht : t = 0 ∨ t = 64 ∨ t = 128 ∨ t = 192) : Go.bits .or .u8 x t = x + t := by
  obtain ⟨n, rfl⟩ := Int.eq_ofNat_of_zero_le h0
  have hn : n < 64 := by omega
  rcases ht with rfl | rfl | rfl | rfl
  · exact (by decide +kernel : ∀ n : Fin 64, Go.bits .or .u8 (n.val : Int) 0 = (n.val : Int) + 0) ⟨n, hn⟩
  · exact (by decide +kernel : ∀ n : Fin 64, Go.bits .or .u8 (n.val : Int) 64 = (n.val : Int) + 64) ⟨n, hn⟩
  · exact (by decide +kernel : ∀ n : Fin 64, Go.bits .or .u8 (n.val : Int) 128 = (n.val : Int) + 128) ⟨n, hn⟩
  · exact (by decide +kernel : ∀ n : Fin 64, Go.bits .or .u8 (n.val : Int) 192 = (n.val : Int) + 192) ⟨n, hn⟩
theorem num1_eq {v : Int} (h0 : 0 ≤ v) (h1 : v < 64) : num1 v = [v] := by
  unfold num1
  rw [u8_join64 h0 h1 (by omega), Int.add_zero]
theorem num2_eq {v : Int} (h0 : 64 ≤ v) (h1 : v < 16384) : num2 v = [v / 256 + 64, v % 256] := by
  unfold num2
  rw [u8_join64 (by omega) (by omega) (by omega)]
theorem num4_eq {v : Int} (h0 : 16384 ≤ v) (h1 : v < 1073741824) : num4 v = [v / 16777216 + 128, v / 65536 % 256, v / 256 % 256, v % 256] := by
  unfold num4
  rw [u8_join64 (by omega) (by omega) (by omega)]
theorem num8_eq {v : Int} (h0 : 1073741824 ≤ v) (h1 : v < 4611686018427387904) : num8 v = [v / 72057594037927936 + 192, v / 281474976710656 % 256, v / 1099511627776 % 256, v / 4294967296 % 256, v / 16777216 % 256, v / 65536 % 256, v / 256 % 256, v % 256] := by
  unfold num8
  rw [u8_join64 (by omega) (by omega) (by omega)]
theorem numL_length {v : Int} : ((numL v).length : Int) = sizeI v := by
  unfold numL sizeI
  split
  · rfl
  · split
    · rfl
    · split
      · rfl
      · split <;> rfl
theorem size_num (v : Int) : ((strOfNums (numL v)).size : Int) = sizeI v := by rw [strOfNums_size]; exact numL_length
theorem num_f {v : Int} (h : inU64 v) : pack_Num.f v = some (strOfNums (numL v), numE v) := by unfold pack_Num.f; rw [if_pos h]
theorem size_f {v : Int} (h : inU64 v) : pack_Size.f v = some (sizeI v) := by unfold pack_Size.f; rw [if_pos h]
theorem sizeI_cases (v : Int) : (v < 64 ∧ sizeI v = 1) ∨ (64 ≤ v ∧ v < 16384 ∧ sizeI v = 2) ∨ (16384 ≤ v ∧ v < 1073741824 ∧ sizeI v = 4) ∨ (1073741824 ≤ v ∧ v < 4611686018427387904 ∧ sizeI v = 8) ∨ (4611686018427387904 ≤ v ∧ sizeI v = 0) := by
  unfold sizeI
  split
  · omega
  · split
    · omega
    · split
      · omega
      · split <;> omega
theorem ba_assoc (a b c : ByteArray) : a ++ b ++ c = a ++ (b ++ c) := by
  apply ByteArray.ext
  simp only [ByteArray.data_append, Array.append_assoc]
theorem ba_nil (a : ByteArray) : a ++ (⟨#[]⟩ : ByteArray) = a := by
  apply ByteArray.ext
  simp [ByteArray.data_append]
theorem nil_ba (a : ByteArray) : (⟨#[]⟩ : ByteArray) ++ a = a := by
  apply ByteArray.ext
  simp [ByteArray.data_append]
end Go.Proofs.Ytfjhlcbpogihmaa.Pr
end
section
namespace Go.Proofs.Ytfjhlcbpogihmaa.Pr
open Go.RowKit Go.Proofs.YtfjhlcbpogihmaaW.PrintWords Go.Proofs.YtfjhlcbpogihmaaW.PrintLast Go.Proofs.YtfjhlcbpogihmaaW.PrintMore
attribute [local go_sem] max2_int min2_int max_two min_two max_three min_three max_four min_four
set_option linter.unusedVariables false
set_option linter.unusedSimpArgs false
/-! ### post_headOf: function 57 -/
def post_headOf.f (a0_0 : Int) (a0_1 : Int) (a0_2 : Int) (a0_3 : Int) (a0_4 : Int) (a0_5 : Int) (a0_6 : Int) (a0_7 : Bool) (l0_8 : List (S75)) (a0_9 : ByteArray) : Option (Int × Int × Int × Int × Int × Int × Int × Bool × ByteArray) := some (IntKind.u64.wrap (a0_0), a0_1, a0_2, a0_3, a0_4, a0_5, a0_6, a0_7, a0_9)
/-! ### pack_Text: function 59 -/
def pack_Text.f (a0 : ByteArray) : Option (ByteArray × Int) := if (a0.size : Int) > 4096 then (some ((⟨#[]⟩ : ByteArray), 4)) else ((pack_Num.f (a0.size : Int)).bind fun bt394 => (if bt394.1.size + a0.size ≤ 9223372036854775807 then (some (bt394.1 ++ a0, bt394.2)) else (none)))
end Go.Proofs.Ytfjhlcbpogihmaa.Pr
end
section
namespace Go.Proofs.Ytfjhlcbpogihmaa.Pr
open Go.RowKit Go.Proofs.YtfjhlcbpogihmaaW.PrintWords Go.Proofs.YtfjhlcbpogihmaaW.PrintLast Go.Proofs.YtfjhlcbpogihmaaW.PrintMore
attribute [local go_sem] max2_int min2_int max_two min_two max_three min_three max_four min_four
set_option linter.unusedVariables false
set_option linter.unusedSimpArgs false
/-! ### pack_TakeText: function 93 -/
def pack_TakeText.f (k : Nat) (a0 : ByteArray) : Option (ByteArray × ByteArray × Int) := (pack_TakeNum.f k a0).bind fun bt535 => (if bt535.2.2 = 0 then (if bt535.1 > 4096 then (some ((⟨#[]⟩ : ByteArray), (⟨#[]⟩ : ByteArray), 4)) else (if bt535.1 > (IntKind.u64.wrap ((bt535.2.1.size : Int))) then (some ((⟨#[]⟩ : ByteArray), (⟨#[]⟩ : ByteArray), 2)) else (if 0 ≤ bt535.1 then (if bt535.1 ≤ (bt535.2.1.size : Int) then (some (bt535.2.1.extract 0 (bt535.1 : Int).toNat, bt535.2.1.extract (bt535.1 : Int).toNat bt535.2.1.size, 0)) else (none)) else (none)))) else (some ((⟨#[]⟩ : ByteArray), (⟨#[]⟩ : ByteArray), bt535.2.2)))
end Go.Proofs.Ytfjhlcbpogihmaa.Pr
end
section
namespace Go.Proofs.Ytfjhlcbpogihmaa.Pr
open Go.RowKit Go.Proofs.YtfjhlcbpogihmaaW.PrintWords Go.Proofs.YtfjhlcbpogihmaaW.PrintLast Go.Proofs.YtfjhlcbpogihmaaW.PrintMore
set_option linter.unusedVariables false
set_option linter.unusedSimpArgs false
end Go.Proofs.Ytfjhlcbpogihmaa.Pr
end
