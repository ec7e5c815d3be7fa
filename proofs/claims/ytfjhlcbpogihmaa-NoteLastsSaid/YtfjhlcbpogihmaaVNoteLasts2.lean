/- Several texts of one depth, laid together. Conditions: none. -/
/- Some of these laws stood in the print's words; a program of this session's (shake.py) has left out what this claim does not use. -/
import Derived.Test.YtfjhlcbpogihmaaGNoteLastsWTab
import Derived.Test.YtfjhlcbpogihmaaVNoteLasts1
section
/-! ### 56. Four, five, six operations that may come up next, in any order -/
namespace Go.Proofs.YtfjhlcbpogihmaaW.PrintLast
section
variable {P : Program} {ops : Array Oper} {Q : Exit → Act → World → Prop} {md : Region.Mode} {S : World → Prop} {ds : List Nat} {T : Bool × List (List Nat × List Nat)}
end
end Go.Proofs.YtfjhlcbpogihmaaW.PrintLast
end
section
/-! ### 57. A region of open order by ONE relation over what is listed so far: each operation is shown once, whatever came up before it -/
namespace Go.Proofs.YtfjhlcbpogihmaaW.PrintLast
section
variable {P : Program} {ops : Array Oper} {Q : Exit → Act → World → Prop} {md : Region.Mode} {T : Bool × List (List Nat × List Nat)} {B : List Nat} {O : List Nat} {b : Nat → Bool} {i j n : Nat}
/-! The frame: what is listed has its destination filled. -/
end
end Go.Proofs.YtfjhlcbpogihmaaW.PrintLast
end
section
namespace Go.Proofs.YtfjhlcbpogihmaaW.PrintWords
open Go.RowKit
end Go.Proofs.YtfjhlcbpogihmaaW.PrintWords
namespace Go.Proofs.YtfjhlcbpogihmaaW.PrintLast
section
variable {ops : Array Oper} {a : Act} {o og : Oper} {g : Nat} {t : Tmp} {u : Bool}
end
end Go.Proofs.YtfjhlcbpogihmaaW.PrintLast
end
