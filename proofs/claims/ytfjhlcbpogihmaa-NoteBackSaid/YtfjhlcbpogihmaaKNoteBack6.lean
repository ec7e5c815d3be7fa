/- Several texts of one depth, laid together. Conditions: none. -/
import Derived.Test.YtfjhlcbpogihmaaGNoteBackPackT
import Derived.Test.YtfjhlcbpogihmaaKNoteBack3
import Derived.Test.YtfjhlcbpogihmaaGNoteBackPr0
import Derived.Test.YtfjhlcbpogihmaaGNoteBackPr24
import Derived.Test.YtfjhlcbpogihmaaGNoteBackHandFold
import Derived.Test.YtfjhlcbpogihmaaGNoteBackPr6
import Derived.Test.YtfjhlcbpogihmaaGNoteBackPr8
section
namespace Go.Proofs.Ytfjhlcbpogihmaa.Pr
open Go.RowKit Go.Proofs.YtfjhlcbpogihmaaW.PrintWords Go.Proofs.YtfjhlcbpogihmaaW.PrintLast Go.Proofs.YtfjhlcbpogihmaaW.PrintMore
end Go.Proofs.Ytfjhlcbpogihmaa.Pr
end
section
namespace Go.Proofs.Ytfjhlcbpogihmaa.Pr
open Go.RowKit Go.Proofs.YtfjhlcbpogihmaaW.PrintWords Go.Proofs.YtfjhlcbpogihmaaW.PrintLast Go.Proofs.YtfjhlcbpogihmaaW.PrintMore
attribute [local go_sem] max2_int min2_int max_two min_two max_three min_three max_four min_four
set_option linter.unusedVariables false
set_option linter.unusedSimpArgs false
/-! ### ferruleref04_Least: function 28 -/
mutual
def ferruleref04_Least.j0 : Nat → List (S39) → Int → Int → Int → Int → ByteArray → List (S75) → Option ((List (S39)) × Int)
  | 0, _, _, _, _, _, _, _ => none
  | k + 1, x5, x367000, x367001, x367002, x367003, x367004, x367005 => ferruleref04_Least.l0 k x5 0 x367000 x367001 x367002 x367003 x367004 x367005
def ferruleref04_Least.l0 : Nat → List (S39) → Int → Int → Int → Int → Int → ByteArray → List (S75) → Option ((List (S39)) × Int)
  | 0, _, _, _, _, _, _, _, _ => none
  | k + 1, x5, x6, x367000, x367001, x367002, x367003, x367004, x367005 => if x6 < (x367005.length : Int) then (if 0 ≤ x6 then (if x5.length < 2932031007402 then (ferruleref04_Least.l0 k (x5 ++ [(⟨2, IntKind.u64.wrap ((IntKind.u64.wrap (x367002 + (IntKind.u64.wrap (x6)))) + 1), (rd_T75 x367005 x6).f0, 0, (rd_T75 x367005 x6).f1⟩ : S39)]) (wrap64 (x6 + 1)) x367000 x367001 x367002 x367003 x367004 x367005) else (none)) else (none)) else (some (x5, 0))
end
def ferruleref04_Least.f (k : Nat) (a0_0 : Int) (a0_1 : Int) (a0_2 : Int) (a0_3 : Int) (a0_4 : ByteArray) (l0_5 : List (S75)) : Option ((List (S39)) × Int) := (ferruleref04_May.f k a0_0 a0_1 a0_2 a0_3 a0_4 l0_5).bind fun t367 => (if t367 = true then ((some (([(⟨1, 0, a0_0, a0_1, (⟨#[]⟩ : ByteArray)⟩ : S39)] : List (S39)) : List (S39))).bind fun y368 => (if a0_2 > 0 then (if y368.length < 2932031007402 then (ferruleref04_Least.j0 k (y368 ++ [(⟨4, a0_2, a0_3, 0, a0_4⟩ : S39)]) a0_0 a0_1 a0_2 a0_3 a0_4 l0_5) else (none)) else (ferruleref04_Least.j0 k y368 a0_0 a0_1 a0_2 a0_3 a0_4 l0_5))) else (some (([] : List (S39)), 1)))
namespace Sh28
end Sh28
open Sh28
end Go.Proofs.Ytfjhlcbpogihmaa.Pr
end
section
namespace Go.Proofs.Ytfjhlcbpogihmaa.Pr
open Go.RowKit Go.Proofs.YtfjhlcbpogihmaaW.PrintWords Go.Proofs.YtfjhlcbpogihmaaW.PrintLast Go.Proofs.YtfjhlcbpogihmaaW.PrintMore
set_option linter.unusedVariables false
set_option linter.unusedSimpArgs false
theorem shown_true : ferrulelaw04_shown.f = some true := by decide +kernel
theorem wi2 {x : Int} (h0 : -9223372036854775808 ≤ x) (h1 : x < 9223372036854775808) : wrap64 x = x := by
  simp [wrap64]
  omega
theorem sameLog_l (b t : Int) (s : ByteArray) (l : List S75) (hl : l.length ≤ 4611686018427387904) : ∀ (d i k : Nat), l.length - i = d → i ≤ l.length → d < k → ferruleref04_SameLog.l0 k (i : Int) b t s l b t s l = some true
  | 0, i, k, hd, hi, hk => by
    obtain ⟨k, rfl⟩ : ∃ j, k = j + 1 := ⟨k - 1, by omega⟩
    simp only [ferruleref04_SameLog.l0]
    rw [if_neg (by omega)]
  | d + 1, i, k, hd, hi, hk => by
    obtain ⟨k, rfl⟩ : ∃ j, k = j + 1 := ⟨k - 1, by omega⟩
    simp only [ferruleref04_SameLog.l0]
    rw [if_pos (by omega), if_pos (by omega), if_pos (by omega)]
    simp only [BEq.rfl, Bool.not_true, Bool.or_self]
    rw [if_neg (by decide), wi2 (x := (i : Int) + 1) (by omega) (by omega), show ((i : Int) + 1) = ((i + 1 : Nat) : Int) by omega]
    exact sameLog_l b t s l hl d (i + 1) k (by omega) (by omega) (by omega)
theorem same_self (x0 x1 x2 x3 : Int) (x4 : ByteArray) (l : List S75) (hl : l.length ≤ 4611686018427387904) (k : Nat) (hk : l.length + 2 < k) : ferruleref04_Same.f k x0 x1 x2 x3 x4 l x0 x1 x2 x3 x4 l = some true := by
  obtain ⟨k, rfl⟩ : ∃ j, k = j + 1 := ⟨k - 1, by omega⟩
  unfold ferruleref04_Same.f ferruleref04_SameLog.f
  rw [if_pos rfl, if_pos rfl, if_pos rfl]
  simp only [ferruleref04_SameLog.j0]
  rw [if_neg (by simp), show (0 : Int) = ((0 : Nat) : Int) from rfl, sameLog_l x2 x3 x4 l hl l.length 0 k (by omega) (by omega) (by omega)]
  simp
end Go.Proofs.Ytfjhlcbpogihmaa.Pr
end
