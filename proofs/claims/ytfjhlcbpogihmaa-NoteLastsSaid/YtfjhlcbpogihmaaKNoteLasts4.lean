/- Several texts of one depth, laid together. Conditions: none. -/
import Derived.Test.YtfjhlcbpogihmaaGNoteLastsHandNum
import Derived.Laws.BitsLemmas
import Derived.Laws.Bits64
import Derived.Test.YtfjhlcbpogihmaaKNoteLasts2
import Derived.Test.YtfjhlcbpogihmaaGNoteLastsPr16
import Derived.Test.YtfjhlcbpogihmaaGNoteLastsPr8
import Derived.Test.YtfjhlcbpogihmaaGNoteLastsPr22
section
namespace Go.Proofs.Ytfjhlcbpogihmaa.Pr
open Go.RowKit Go.Proofs.YtfjhlcbpogihmaaW.PrintWords Go.Proofs.YtfjhlcbpogihmaaW.PrintLast Go.Proofs.YtfjhlcbpogihmaaW.PrintMore
theorem u8_join64 {x t : Int} (h0 : 0 ≤ x) (h1 : x < 64) (ht : t = 0 ∨ t = 64 ∨ t = 128 ∨ t = 192) : Go.bits .or .u8 x t = x + t := by
  obtain ⟨n, rfl⟩ := Int.eq_ofNat_of_zero_le h0
  have hn : n < 64 := by omega
  rcases ht with rfl | rfl | rfl | rfl
  · exact (by decide +kernel : ∀ n : Fin 64, Go.bits .or .u8 (n.val : Int) 0 = (n.val : Int) + 0) ⟨n, hn⟩
  · exact (by decide +kernel : ∀ n : Fin 64, Go.bits .or .u8 (n.val : Int) 64 = (n.val : Int) + 64) ⟨n, hn⟩
  · exact (by decide +kernel : ∀ n : Fin 64, Go.bits .or .u8 (n.val : Int) 128 = (n.val : Int) + 128) ⟨n, hn⟩
  · exact (by decide +kernel : ∀ n : Fin 64, Go.bits .or .u8 (n.val : Int) 192 = (n.val : Int) + 192) ⟨n, hn⟩
theorem num1_eq {v : Int} (h0 : 0 ≤ v) (h1 : v < 64) : num1 v = [v] := by
  unfold num1
  rw [u8_join64 h0 h1 (by omega), Int.add_zero]
theorem num2_eq {v : Int} (h0 : 64 ≤ v) (h1 : v < 16384) : num2 v = [v / 256 + 64, v % 256] := by
  unfold num2
  rw [u8_join64 (by omega) (by omega) (by omega)]
theorem num4_eq {v : Int} (h0 : 16384 ≤ v) (h1 : v < 1073741824) : num4 v = [v / 16777216 + 128, v / 65536 % 256, v / 256 % 256, v % 256] := by
  unfold num4
  rw [u8_join64 (by omega) (by omega) (by omega)]
theorem num8_eq {v : Int} (h0 : 1073741824 ≤ v) (h1 : v < 4611686018427387904) : num8 v = [v / 72057594037927936 + 192, v / 281474976710656 % 256, v / 1099511627776 % 256, v / 4294967296 % 256, v / 16777216 % 256, v / 65536 % 256, v / 256 % 256, v % 256] := by
  unfold num8
  rw [u8_join64 (by omega) (by omega) (by omega)]
theorem numL_length {v : Int} : ((numL v).length : Int) = sizeI v := by
  unfold numL sizeI
  split
  · rfl
  · split
    · rfl
    · split
      · rfl
      · split <;> rfl
theorem size_num (v : Int) : ((strOfNums (numL v)).size : Int) = sizeI v := by rw [strOfNums_size]; exact numL_length
theorem num_f {v : Int} (h : inU64 v) : pack_Num.f v = some (strOfNums (numL v), numE v) := by unfold pack_Num.f; rw [if_pos h]
theorem size_f {v : Int} (h : inU64 v) : pack_Size.f v = some (sizeI v) := by unfold pack_Size.f; rw [if_pos h]
theorem sizeI_cases (v : Int) : (v < 64 ∧ sizeI v = 1) ∨ (64 ≤ v ∧ v < 16384 ∧ sizeI v = 2) ∨ (16384 ≤ v ∧ v < 1073741824 ∧ sizeI v = 4) ∨ (1073741824 ≤ v ∧ v < 4611686018427387904 ∧ sizeI v = 8) ∨ (4611686018427387904 ≤ v ∧ sizeI v = 0) := by
  unfold sizeI
  split
  · omega
  · split
    · omega
    · split
      · omega
      · split <;> omega
theorem ba_assoc (a b c : ByteArray) : a ++ b ++ c = a ++ (b ++ c) := by
  apply ByteArray.ext
  simp only [ByteArray.data_append, Array.append_assoc]
theorem ba_nil (a : ByteArray) : a ++ (⟨#[]⟩ : ByteArray) = a := by
  apply ByteArray.ext
  simp [ByteArray.data_append]
theorem nil_ba (a : ByteArray) : (⟨#[]⟩ : ByteArray) ++ a = a := by
  apply ByteArray.ext
  simp [ByteArray.data_append]
end Go.Proofs.Ytfjhlcbpogihmaa.Pr
end
section
namespace Go.Proofs.Ytfjhlcbpogihmaa.Pr
open Go.RowKit Go.Proofs.YtfjhlcbpogihmaaW.PrintWords Go.Proofs.YtfjhlcbpogihmaaW.PrintLast Go.Proofs.YtfjhlcbpogihmaaW.PrintMore
attribute [local go_sem] max2_int min2_int max_two min_two max_three min_three max_four min_four
set_option linter.unusedVariables false
set_option linter.unusedSimpArgs false
/-! ### post_headOf: function 57 -/
def post_headOf.f (a0_0 : Int) (a0_1 : Int) (a0_2 : Int) (a0_3 : Int) (a0_4 : Int) (a0_5 : Int) (a0_6 : Int) (a0_7 : Bool) (l0_8 : List (S75)) (a0_9 : ByteArray) : Option (Int × Int × Int × Int × Int × Int × Int × Bool × ByteArray) := some (IntKind.u64.wrap (a0_0), a0_1, a0_2, a0_3, a0_4, a0_5, a0_6, a0_7, a0_9)
/-! ### pack_Text: function 59 -/
def pack_Text.f (a0 : ByteArray) : Option (ByteArray × Int) := if (a0.size : Int) > 4096 then (some ((⟨#[]⟩ : ByteArray), 4)) else ((pack_Num.f (a0.size : Int)).bind fun bt394 => (if bt394.1.size + a0.size ≤ 9223372036854775807 then (some (bt394.1 ++ a0, bt394.2)) else (none)))
end Go.Proofs.Ytfjhlcbpogihmaa.Pr
end
section
namespace Go.Proofs.Ytfjhlcbpogihmaa.Pr
open Go.RowKit Go.Proofs.YtfjhlcbpogihmaaW.PrintWords Go.Proofs.YtfjhlcbpogihmaaW.PrintLast Go.Proofs.YtfjhlcbpogihmaaW.PrintMore
attribute [local go_sem] max2_int min2_int max_two min_two max_three min_three max_four min_four
set_option linter.unusedVariables false
set_option linter.unusedSimpArgs false
/-! ### pack_TakeText: function 93 -/
def pack_TakeText.f (k : Nat) (a0 : ByteArray) : Option (ByteArray × ByteArray × Int) := (pack_TakeNum.f k a0).bind fun bt535 => (if bt535.2.2 = 0 then (if bt535.1 > 4096 then (some ((⟨#[]⟩ : ByteArray), (⟨#[]⟩ : ByteArray), 4)) else (if bt535.1 > (IntKind.u64.wrap ((bt535.2.1.size : Int))) then (some ((⟨#[]⟩ : ByteArray), (⟨#[]⟩ : ByteArray), 2)) else (if 0 ≤ bt535.1 then (if bt535.1 ≤ (bt535.2.1.size : Int) then (some (bt535.2.1.extract 0 (bt535.1 : Int).toNat, bt535.2.1.extract (bt535.1 : Int).toNat bt535.2.1.size, 0)) else (none)) else (none)))) else (some ((⟨#[]⟩ : ByteArray), (⟨#[]⟩ : ByteArray), bt535.2.2)))
end Go.Proofs.Ytfjhlcbpogihmaa.Pr
end
section
namespace Go.Proofs.Ytfjhlcbpogihmaa.Pr
open Go.RowKit Go.Proofs.YtfjhlcbpogihmaaW.PrintWords Go.Proofs.YtfjhlcbpogihmaaW.PrintLast Go.Proofs.YtfjhlcbpogihmaaW.PrintMore
attribute [local go_sem] max2_int min2_int max_two min_two max_three min_three max_four min_four
set_option linter.unusedVariables false
set_option linter.unusedSimpArgs false
/-! ### ferruleref04_May: function 25 -/
mutual
def ferruleref04_May.j0 : Nat → Bool → Int → Int → Int → Int → ByteArray → List (S75) → Int → Int → ByteArray → List (S75) → Option (Bool)
  | 0, _, _, _, _, _, _, _, _, _, _, _ => none
  | k + 1, x44, x305000, x305001, x305002, x305003, x305004, x305005, x306000, x306001, x306002, x306003 => if x44 = true then (some false) else (if x306000 = 0 then (if x306001 > 0 then (ferruleref04_May.j1 k true x305000 x305001 x305002 x305003 x305004 x305005 x306000 x306001 x306002 x306003) else (ferruleref04_May.j1 k (decide ((x306002.size : Int) > 0)) x305000 x305001 x305002 x305003 x305004 x305005 x306000 x306001 x306002 x306003)) else (ferruleref04_May.j1 k false x305000 x305001 x305002 x305003 x305004 x305005 x306000 x306001 x306002 x306003))
def ferruleref04_May.j1 : Nat → Bool → Int → Int → Int → Int → ByteArray → List (S75) → Int → Int → ByteArray → List (S75) → Option (Bool)
  | 0, _, _, _, _, _, _, _, _, _, _, _ => none
  | k + 1, x63, x305000, x305001, x305002, x305003, x305004, x305005, x306000, x306001, x306002, x306003 => if x63 = true then (some false) else (ferruleref04_May.l0 k 0 x305000 x305001 x305002 x305003 x305004 x305005 x306000 x306001 x306002 x306003)
def ferruleref04_May.l0 : Nat → Int → Int → Int → Int → Int → ByteArray → List (S75) → Int → Int → ByteArray → List (S75) → Option (Bool)
  | 0, _, _, _, _, _, _, _, _, _, _, _ => none
  | k + 1, x4, x305000, x305001, x305002, x305003, x305004, x305005, x306000, x306001, x306002, x306003 => if x4 < (x306003.length : Int) then (if 0 ≤ x4 then (if ((rd_T75 x306003 x4).f0) > x305000 then (some false) else (if ((rd_T75 x306003 x4).f0) < x306001 then (some false) else (if x4 > 0 then (if 0 ≤ (wrap64 (x4 - 1)) then (if (wrap64 (x4 - 1)) < (x306003.length : Int) then (if ((rd_T75 x306003 x4).f0) < ((rd_T75 x306003 (wrap64 (x4 - 1))).f0) then (some false) else (if (((rd_T75 x306003 x4).f1).size : Int) > 4096 then (some false) else (ferruleref04_May.l0 k (wrap64 (x4 + 1)) x305000 x305001 x305002 x305003 x305004 x305005 x306000 x306001 x306002 x306003))) else (none)) else (none)) else (if (((rd_T75 x306003 x4).f1).size : Int) > 4096 then (some false) else (ferruleref04_May.l0 k (wrap64 (x4 + 1)) x305000 x305001 x305002 x305003 x305004 x305005 x306000 x306001 x306002 x306003))))) else (none)) else (some true)
end
def ferruleref04_May.f (k : Nat) (a0_0 : Int) (a0_1 : Int) (a0_2 : Int) (a0_3 : Int) (a0_4 : ByteArray) (l0_5 : List (S75)) : Option (Bool) := if a0_0 > 4611686018427387903 then (ferruleref04_May.j0 k true a0_0 a0_1 a0_2 a0_3 a0_4 l0_5 a0_2 a0_3 a0_4 l0_5) else (if a0_1 > 4611686018427387903 then (ferruleref04_May.j0 k true a0_0 a0_1 a0_2 a0_3 a0_4 l0_5 a0_2 a0_3 a0_4 l0_5) else (if a0_2 > 1099511627776 then (ferruleref04_May.j0 k true a0_0 a0_1 a0_2 a0_3 a0_4 l0_5 a0_2 a0_3 a0_4 l0_5) else (if (l0_5.length : Int) > 1024 then (ferruleref04_May.j0 k true a0_0 a0_1 a0_2 a0_3 a0_4 l0_5 a0_2 a0_3 a0_4 l0_5) else ((ferruleref04_Last.f a0_2 a0_3 a0_4 l0_5).bind fun t306 => (if t306 > 1099511627776 then (ferruleref04_May.j0 k true a0_0 a0_1 a0_2 a0_3 a0_4 l0_5 a0_2 a0_3 a0_4 l0_5) else (if (a0_4.size : Int) > 4096 then (ferruleref04_May.j0 k true a0_0 a0_1 a0_2 a0_3 a0_4 l0_5 a0_2 a0_3 a0_4 l0_5) else (ferruleref04_May.j0 k (decide (a0_3 > a0_0)) a0_0 a0_1 a0_2 a0_3 a0_4 l0_5 a0_2 a0_3 a0_4 l0_5)))))))
namespace Sh24
end Sh24
open Sh24
end Go.Proofs.Ytfjhlcbpogihmaa.Pr
end
section
namespace Go.Proofs.Ytfjhlcbpogihmaa.Pr
open Go.RowKit Go.Proofs.YtfjhlcbpogihmaaW.PrintWords Go.Proofs.YtfjhlcbpogihmaaW.PrintLast Go.Proofs.YtfjhlcbpogihmaaW.PrintMore
attribute [local go_sem] max2_int min2_int max_two min_two max_three min_three max_four min_four
set_option linter.unusedVariables false
set_option linter.unusedSimpArgs false
/-! ### ferruleref04_Least: function 28 -/
mutual
def ferruleref04_Least.j0 : Nat → List (S39) → Int → Int → Int → Int → ByteArray → List (S75) → Option ((List (S39)) × Int)
  | 0, _, _, _, _, _, _, _ => none
  | k + 1, x5, x367000, x367001, x367002, x367003, x367004, x367005 => ferruleref04_Least.l0 k x5 0 x367000 x367001 x367002 x367003 x367004 x367005
def ferruleref04_Least.l0 : Nat → List (S39) → Int → Int → Int → Int → Int → ByteArray → List (S75) → Option ((List (S39)) × Int)
  | 0, _, _, _, _, _, _, _, _ => none
  | k + 1, x5, x6, x367000, x367001, x367002, x367003, x367004, x367005 => if x6 < (x367005.length : Int) then (if 0 ≤ x6 then (if x5.length < 2932031007402 then (ferruleref04_Least.l0 k (x5 ++ [(⟨2, IntKind.u64.wrap ((IntKind.u64.wrap (x367002 + (IntKind.u64.wrap (x6)))) + 1), (rd_T75 x367005 x6).f0, 0, (rd_T75 x367005 x6).f1⟩ : S39)]) (wrap64 (x6 + 1)) x367000 x367001 x367002 x367003 x367004 x367005) else (none)) else (none)) else (some (x5, 0))
end
def ferruleref04_Least.f (k : Nat) (a0_0 : Int) (a0_1 : Int) (a0_2 : Int) (a0_3 : Int) (a0_4 : ByteArray) (l0_5 : List (S75)) : Option ((List (S39)) × Int) := (ferruleref04_May.f k a0_0 a0_1 a0_2 a0_3 a0_4 l0_5).bind fun t367 => (if t367 = true then ((some (([(⟨1, 0, a0_0, a0_1, (⟨#[]⟩ : ByteArray)⟩ : S39)] : List (S39)) : List (S39))).bind fun y368 => (if a0_2 > 0 then (if y368.length < 2932031007402 then (ferruleref04_Least.j0 k (y368 ++ [(⟨4, a0_2, a0_3, 0, a0_4⟩ : S39)]) a0_0 a0_1 a0_2 a0_3 a0_4 l0_5) else (none)) else (ferruleref04_Least.j0 k y368 a0_0 a0_1 a0_2 a0_3 a0_4 l0_5))) else (some (([] : List (S39)), 1)))
namespace Sh28
end Sh28
open Sh28
end Go.Proofs.Ytfjhlcbpogihmaa.Pr
end
section
namespace Go.Proofs.Ytfjhlcbpogihmaa.Pr
open Go.RowKit Go.Proofs.YtfjhlcbpogihmaaW.PrintWords Go.Proofs.YtfjhlcbpogihmaaW.PrintLast Go.Proofs.YtfjhlcbpogihmaaW.PrintMore
set_option linter.unusedVariables false
set_option linter.unusedSimpArgs false
theorem wi3 {x : Int} (h0 : -9223372036854775808 ≤ x) (h1 : x < 9223372036854775808) : wrap64 x = x := by
  simp [wrap64]
  omega
theorem notes_l (l : List S39) (hl : l.length ≤ 4611686018427387904) : ∀ (d i k : Nat), l.length - i = d → i ≤ l.length → d < k → ferruleref04_Notes.l0 k l l (i : Int) = some true
  | 0, i, k, hd, hi, hk => by
    obtain ⟨k, rfl⟩ : ∃ j, k = j + 1 := ⟨k - 1, by omega⟩
    simp only [ferruleref04_Notes.l0]
    rw [if_neg (by omega)]
  | d + 1, i, k, hd, hi, hk => by
    obtain ⟨k, rfl⟩ : ∃ j, k = j + 1 := ⟨k - 1, by omega⟩
    simp only [ferruleref04_Notes.l0]
    rw [if_pos (by omega), if_pos (by omega), if_pos (by omega)]
    simp only [BEq.rfl, Bool.not_true, Bool.or_self]
    rw [if_neg (by decide), wi3 (x := (i : Int) + 1) (by omega) (by omega), show ((i : Int) + 1) = ((i + 1 : Nat) : Int) by omega]
    exact notes_l l hl d (i + 1) k (by omega) (by omega) (by omega)
theorem notes_self (l : List S39) (hl : l.length ≤ 4611686018427387904) (k : Nat) (hk : l.length < k) : ferruleref04_Notes.f k l l = some true := by
  unfold ferruleref04_Notes.f
  rw [if_pos rfl, show (0 : Int) = ((0 : Nat) : Int) from rfl]
  exact notes_l l hl l.length 0 k (by omega) (by omega) hk
end Go.Proofs.Ytfjhlcbpogihmaa.Pr
end
