/- Several texts of one depth, laid together. Conditions: none. -/
import Derived.Test.YtfjhlcbpogihmaaGNoteBackPr0
import Derived.Test.YtfjhlcbpogihmaaGNoteBackPr6
import Derived.Test.YtfjhlcbpogihmaaGNoteBackPr8
import Derived.Test.YtfjhlcbpogihmaaGNoteBackPr12
import Derived.Test.YtfjhlcbpogihmaaKNoteBack3
import Derived.Test.YtfjhlcbpogihmaaGNoteBackPr20
import Derived.Test.YtfjhlcbpogihmaaKNoteBack5
import Derived.Test.YtfjhlcbpogihmaaGNoteBackHandRead
import Derived.Test.YtfjhlcbpogihmaaGNoteBackNoteW
import Derived.Test.YtfjhlcbpogihmaaKNoteBack6
section
namespace Go.Proofs.Ytfjhlcbpogihmaa.Pr
open Go.RowKit Go.Proofs.YtfjhlcbpogihmaaW.PrintWords Go.Proofs.YtfjhlcbpogihmaaW.PrintLast Go.Proofs.YtfjhlcbpogihmaaW.PrintMore
attribute [local go_sem] max2_int min2_int max_two min_two max_three min_three max_four min_four
set_option linter.unusedVariables false
set_option linter.unusedSimpArgs false
/-! ### ferrulelaw04_NoteLasts: function 4 -/
mutual
def ferrulelaw04_NoteLasts.l0 : Nat → List (S39) → Int → Int → Bool → List (S39) → Int → Int → ByteArray → ByteArray → Int → Bool → Option (Bool)
  | 0, _, _, _, _, _, _, _, _, _, _, _ => none
  | k + 1, x0, x1, x2, x7, x9, x10, x11, x245000, x245001, x245002, x245003 => if x11 < (x0.length : Int) then (if 0 ≤ x11 then ((note_Bytes.f k ((rd_T39 x0 x11).f0) ((rd_T39 x0 x11).f1) ((rd_T39 x0 x11).f2) ((rd_T39 x0 x11).f3) ((rd_T39 x0 x11).f4)).bind fun bt246 => (if bt246.2 = 0 then ((ferruleref03_Write.f x245000 x245001 x245002 x245003 bt246.1).bind fun bt248 => (if bt248.2.2.2.2 = 0 then (if x9.length < 2932031007402 then ((some (x9 ++ [(⟨(rd_T39 x0 x11).f0, (rd_T39 x0 x11).f1, (rd_T39 x0 x11).f2, (rd_T39 x0 x11).f3, (rd_T39 x0 x11).f4⟩ : S39)] : List (S39))).bind fun y255 => (if x11 = x1 then ((ferruleref03_Sync.f bt248.1 bt248.2.1 bt248.2.2.1 bt248.2.2.2.1).bind fun bt258 => (ferrulelaw04_NoteLasts.l0 k x0 x1 x2 x7 y255 (y255.length : Int) (wrap64 (x11 + 1)) bt258.1 bt258.2.1 bt258.2.2.1 bt258.2.2.2.1)) else (ferrulelaw04_NoteLasts.l0 k x0 x1 x2 x7 y255 x10 (wrap64 (x11 + 1)) bt248.1 bt248.2.1 bt248.2.2.1 bt248.2.2.2.1))) else (none)) else (some x7))) else (ferrulelaw04_NoteLasts.l0 k x0 x1 x2 x7 x9 x10 (wrap64 (x11 + 1)) x245000 x245001 x245002 x245003))) else (none)) else ((ferruleref03_Crash.f x245000 x245001 x245002 x245003 x2).bind fun bt263 => ((note_Recover.f k bt263.1 bt263.2.1 bt263.2.2.1 bt263.2.2.2).bind fun bt267 => (if bt267.2.2.2.2.2.2.2.2.2.2 = 0 then (if bt267.2.2.2.2.2.2.1.size + bt267.2.2.2.2.2.2.2.1.size ≤ 9223372036854775807 then ((note_Read.f k (bt267.2.2.2.2.2.2.1 ++ bt267.2.2.2.2.2.2.2.1)).bind fun bt282 => (if (bt282.1.length : Int) < x10 then (ferrulelaw04_NoteLasts.j1 k x7 x9 bt282.1 true bt267.1 bt267.2.1 bt267.2.2.1 bt267.2.2.2.1 bt267.2.2.2.2.1 bt267.2.2.2.2.2.1) else (ferrulelaw04_NoteLasts.j1 k x7 x9 bt282.1 (decide ((bt282.1.length : Int) > (x9.length : Int))) bt267.1 bt267.2.1 bt267.2.2.1 bt267.2.2.2.1 bt267.2.2.2.2.1 bt267.2.2.2.2.2.1))) else (none)) else (none))))
def ferrulelaw04_NoteLasts.j1 : Nat → Bool → List (S39) → List (S39) → Bool → Int → Int → Int → Int → ByteArray → List (S75) → Option (Bool)
  | 0, _, _, _, _, _, _, _, _, _, _ => none
  | k + 1, x7, x9, x19, x97, x281000, x281001, x281002, x281003, x281004, x281005 => if x97 = true then (none) else (if 0 ≤ (x19.length : Int) then (if (x19.length : Int) ≤ (x9.length : Int) then ((ferruleref04_Notes.f k x19 (x9.take ((x19.length : Int) : Int).toNat)).bind fun t290 => ((ferruleref04_Fold.f k (x9.take ((x19.length : Int) : Int).toNat)).bind fun bt295 => ((ferruleref04_Same.f k x281000 x281001 x281002 x281003 x281004 x281005 bt295.1 bt295.2.1 bt295.2.2.1 bt295.2.2.2.1 bt295.2.2.2.2.1 bt295.2.2.2.2.2).bind fun t303 => (if x7 = true then (if t290 = true then (some t303) else (none)) else (none))))) else (none)) else (none))
end
def ferrulelaw04_NoteLasts.f (k : Nat) (l0 : List (S39)) (a1 : Int) (a2 : Int) : Option (Bool) := (ferrulelaw04_shown.f).bind fun t243 => (ferrulelaw04_NoteLasts.l0 k l0 a1 a2 t243 ([] : List (S39)) 0 0 (⟨#[]⟩ : ByteArray) (⟨#[]⟩ : ByteArray) (-1) false)
end Go.Proofs.Ytfjhlcbpogihmaa.Pr
end
section
namespace Go.Proofs.Ytfjhlcbpogihmaa.Pr
open Go.RowKit Go.Proofs.YtfjhlcbpogihmaaW.PrintWords Go.Proofs.YtfjhlcbpogihmaaW.PrintLast Go.Proofs.YtfjhlcbpogihmaaW.PrintMore
set_option linter.unusedVariables false
set_option linter.unusedSimpArgs false
theorem okNote_all {ns : List S39} (h : ∀ n ∈ ns, okNote n) : ns.all okN = true := List.all_eq_true.2 fun n hn => by
  obtain ⟨h1, h2, _⟩ := h n hn
  have := (nm_facts h1).2.1
  rw [okN_iff]
  omega
theorem fold_1 {ns : List S39} (h : ∀ n ∈ ns, okNote n) (hl : ns.length ≤ 1000000) : note_Fold.f ns = some (foldN ns).tup := if_pos ⟨okNote_all h, by omega⟩
theorem joinN_len : ∀ ns : List S39, (∀ n ∈ ns, okNote n) → 5 * ns.length ≤ (joinN ns).size
  | [], _ => Nat.zero_le _
  | n :: r, h => by
    have := joinN_len r (fun x hx => h x (List.mem_cons_of_mem _ hx))
    have := sealB_pos (nA n) (nA_le (h n (List.mem_cons_self ..)))
    rw [joinN, ByteArray.size_append, List.length_cons]
    omega
/-- What holds of the tape and the notes on it. -/
structure LInv (acc : List S39) (sq : Nat) (S R : ByteArray) : Prop where
  ok : ∀ n ∈ acc, okNote n
  safe : S = joinN (acc.take sq)
  all : S ++ R = joinN acc
  sq : sq ≤ acc.length
  le : (joinN acc).size ≤ 262144
end Go.Proofs.Ytfjhlcbpogihmaa.Pr
end
