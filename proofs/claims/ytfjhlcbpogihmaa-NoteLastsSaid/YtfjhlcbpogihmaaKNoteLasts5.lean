/- Several texts of one depth, laid together. Conditions: none. -/
import Derived.Test.YtfjhlcbpogihmaaGNoteLastsPackT
import Derived.Test.YtfjhlcbpogihmaaKNoteLasts2
import Derived.Test.YtfjhlcbpogihmaaGNoteLastsHandFold
import Derived.Test.YtfjhlcbpogihmaaGNoteLastsPr6
import Derived.Test.YtfjhlcbpogihmaaGNoteLastsPr8
section
namespace Go.Proofs.Ytfjhlcbpogihmaa.Pr
open Go.RowKit Go.Proofs.YtfjhlcbpogihmaaW.PrintWords Go.Proofs.YtfjhlcbpogihmaaW.PrintLast Go.Proofs.YtfjhlcbpogihmaaW.PrintMore
end Go.Proofs.Ytfjhlcbpogihmaa.Pr
end
section
namespace Go.Proofs.Ytfjhlcbpogihmaa.Pr
open Go.RowKit Go.Proofs.YtfjhlcbpogihmaaW.PrintWords Go.Proofs.YtfjhlcbpogihmaaW.PrintLast Go.Proofs.YtfjhlcbpogihmaaW.PrintMore
set_option linter.unusedVariables false
set_option linter.unusedSimpArgs false
theorem shown_true : ferrulelaw04_shown.f = some true := by decide +kernel
theorem wi2 {x : Int} (h0 : -9223372036854775808 ≤ x) (h1 : x < 9223372036854775808) : wrap64 x = x := by
  simp [wrap64]
  omega
theorem sameLog_l (b t : Int) (s : ByteArray) (l : List S75) (hl : l.length ≤ 4611686018427387904) : ∀ (d i k : Nat), l.length - i = d → i ≤ l.length → d < k → ferruleref04_SameLog.l0 k (i : Int) b t s l b t s l = some true
  | 0, i, k, hd, hi, hk => by
    obtain ⟨k, rfl⟩ : ∃ j, k = j + 1 := ⟨k - 1, by omega⟩
    simp only [ferruleref04_SameLog.l0]
    rw [if_neg (by omega)]
  | d + 1, i, k, hd, hi, hk => by
    obtain ⟨k, rfl⟩ : ∃ j, k = j + 1 := ⟨k - 1, by omega⟩
    simp only [ferruleref04_SameLog.l0]
    rw [if_pos (by omega), if_pos (by omega), if_pos (by omega)]
    simp only [BEq.rfl, Bool.not_true, Bool.or_self]
    rw [if_neg (by decide), wi2 (x := (i : Int) + 1) (by omega) (by omega), show ((i : Int) + 1) = ((i + 1 : Nat) : Int) by omega]
    exact sameLog_l b t s l hl d (i + 1) k (by omega) (by omega) (by omega)
theorem same_self (x0 x1 x2 x3 : Int) (x4 : ByteArray) (l : List S75) (hl : l.length ≤ 4611686018427387904) (k : Nat) (hk : l.length + 2 < k) : ferruleref04_Same.f k x0 x1 x2 x3 x4 l x0 x1 x2 x3 x4 l = some true := by
  obtain ⟨k, rfl⟩ : ∃ j, k = j + 1 := ⟨k - 1, by omega⟩
  unfold ferruleref04_Same.f ferruleref04_SameLog.f
  rw [if_pos rfl, if_pos rfl, if_pos rfl]
  simp only [ferruleref04_SameLog.j0]
  rw [if_neg (by simp), show (0 : Int) = ((0 : Nat) : Int) from rfl, sameLog_l x2 x3 x4 l hl l.length 0 k (by omega) (by omega) (by omega)]
  simp
end Go.Proofs.Ytfjhlcbpogihmaa.Pr
end
