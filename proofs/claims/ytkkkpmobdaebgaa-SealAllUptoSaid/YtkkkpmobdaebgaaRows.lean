/-
  No cell of these rows narrows 'for every input' (looked for: loops, veiled, ifaces, maps, wideKeys, modest, calm, conditions, laid).
  DERIVED. THE GIVEN ROWS OF THIS SEAT. 8 by the template 'for every input the law returns true; each argument reads behind the call as it read before'; 0 by the template 'total and deterministic' (their statements: YtkkkpmobdaebgaaTotals.lean).
  GIVEN WITH THE SEED: the statements are not yours to turn. If you find one false, say at which input.
  Laid BY PROGRAM, IN A SANDBOX (cutbox-rows.mjs): the forced cells as the released guide's own fill.sh prints them over the translation 92d0578fceb6ef23… (all of the seat's roots in one cut). By AI agents, Wed Nov 11 2026. No macro, syntax, notation, axiom, sorry.
-/
import Derived.Test.YtkkkpmobdaebgaaChecked
import GoSem.Claim
import GoSem.ClaimJoined
import GoSem.ClaimMapViews
import Derived.JoinedTies
import Derived.KernelRfl
namespace Go.Proofs.Ytkkkpmobdaebgaa
/- THE CELL 'sum', in the pinned program and in every row, IS THE sha256 OF THE DUMP (.gsa) THAT YtkkkpmobdaebgaaProg.lean LOADS. Nothing in Lean hashes anything: it is a label: what it is worth is what the hold of that sum in a sandbox is worth. -/
noncomputable def Try.pinned : Pinned := { name := "ytkkkpmobdaebgaa", sum := "92d0578fceb6ef2314f6e1046ca232759ba9616c59ac91f4baefb82ff452d9cc", checked := Try.checked }
namespace Rows
def none {H : Type} : Left H := { results := [], args := [] }

/-- 'ferrulelaw02.SealSums': WHATEVER THE INPUT: true; the input reads as it did. -/
def sealSumsSpec : ChangeSpec := { name := "sealSums", fn := fun _ => fun
  | [d] => { results := [.lit (.bool true)], args := [d] }
  | _ => none }
def sealSumsRow : OpenClaim := { program := "ytkkkpmobdaebgaa", sum := "92d0578fceb6ef2314f6e1046ca232759ba9616c59ac91f4baefb82ff452d9cc", func := "ferrule/ferrulelaw02.SealSums", spec := "sealSums", apart := false }
def SealSumsSaid : Prop := sealSumsRow.holds Try.pinned (OpenSpec.ofChange sealSumsSpec)

/-- ITS FALSE NEIGHBOUR: 'it returns false'. Refute it at one input. -/
def sealSumsWrong : ChangeSpec := { name := "sealSums", fn := fun _ => fun
  | [d] => { results := [.lit (.bool false)], args := [d] }
  | _ => none }
def SealSumsWrongFalsely : Prop := sealSumsRow.holds Try.pinned (OpenSpec.ofChange sealSumsWrong)

/-- 'ferrulelaw02.SealPuts': WHATEVER THE INPUT: true; the input reads as it did. -/
def sealPutsSpec : ChangeSpec := { name := "sealPuts", fn := fun _ => fun
  | [d] => { results := [.lit (.bool true)], args := [d] }
  | _ => none }
def sealPutsRow : OpenClaim := { program := "ytkkkpmobdaebgaa", sum := "92d0578fceb6ef2314f6e1046ca232759ba9616c59ac91f4baefb82ff452d9cc", func := "ferrule/ferrulelaw02.SealPuts", spec := "sealPuts", apart := false }
def SealPutsSaid : Prop := sealPutsRow.holds Try.pinned (OpenSpec.ofChange sealPutsSpec)

/-- ITS FALSE NEIGHBOUR: 'it returns false'. Refute it at one input. -/
def sealPutsWrong : ChangeSpec := { name := "sealPuts", fn := fun _ => fun
  | [d] => { results := [.lit (.bool false)], args := [d] }
  | _ => none }
def SealPutsWrongFalsely : Prop := sealPutsRow.holds Try.pinned (OpenSpec.ofChange sealPutsWrong)

/-- 'ferrulelaw02.SealSizes': WHATEVER THE INPUT: true; the input reads as it did. -/
def sealSizesSpec : ChangeSpec := { name := "sealSizes", fn := fun _ => fun
  | [d] => { results := [.lit (.bool true)], args := [d] }
  | _ => none }
def sealSizesRow : OpenClaim := { program := "ytkkkpmobdaebgaa", sum := "92d0578fceb6ef2314f6e1046ca232759ba9616c59ac91f4baefb82ff452d9cc", func := "ferrule/ferrulelaw02.SealSizes", spec := "sealSizes", apart := false }
def SealSizesSaid : Prop := sealSizesRow.holds Try.pinned (OpenSpec.ofChange sealSizesSpec)

/-- ITS FALSE NEIGHBOUR: 'it returns false'. Refute it at one input. -/
def sealSizesWrong : ChangeSpec := { name := "sealSizes", fn := fun _ => fun
  | [d] => { results := [.lit (.bool false)], args := [d] }
  | _ => none }
def SealSizesWrongFalsely : Prop := sealSizesRow.holds Try.pinned (OpenSpec.ofChange sealSizesWrong)

/-- 'ferrulelaw02.SealTakes': WHATEVER THE INPUT: true; the input reads as it did. -/
def sealTakesSpec : ChangeSpec := { name := "sealTakes", fn := fun _ => fun
  | [d] => { results := [.lit (.bool true)], args := [d] }
  | _ => none }
def sealTakesRow : OpenClaim := { program := "ytkkkpmobdaebgaa", sum := "92d0578fceb6ef2314f6e1046ca232759ba9616c59ac91f4baefb82ff452d9cc", func := "ferrule/ferrulelaw02.SealTakes", spec := "sealTakes", apart := false }
def SealTakesSaid : Prop := sealTakesRow.holds Try.pinned (OpenSpec.ofChange sealTakesSpec)

/-- ITS FALSE NEIGHBOUR: 'it returns false'. Refute it at one input. -/
def sealTakesWrong : ChangeSpec := { name := "sealTakes", fn := fun _ => fun
  | [d] => { results := [.lit (.bool false)], args := [d] }
  | _ => none }
def SealTakesWrongFalsely : Prop := sealTakesRow.holds Try.pinned (OpenSpec.ofChange sealTakesWrong)

/-- 'ferrulelaw02.SealTurned': WHATEVER THE INPUT: true; the input reads as it did. -/
def sealTurnedSpec : ChangeSpec := { name := "sealTurned", fn := fun _ => fun
  | [d1, d2, d3] => { results := [.lit (.bool true)], args := [d1, d2, d3] }
  | _ => none }
def sealTurnedRow : OpenClaim := { program := "ytkkkpmobdaebgaa", sum := "92d0578fceb6ef2314f6e1046ca232759ba9616c59ac91f4baefb82ff452d9cc", func := "ferrule/ferrulelaw02.SealTurned", spec := "sealTurned", apart := false }
def SealTurnedSaid : Prop := sealTurnedRow.holds Try.pinned (OpenSpec.ofChange sealTurnedSpec)

/-- ITS FALSE NEIGHBOUR: 'it returns false'. Refute it at one input. -/
def sealTurnedWrong : ChangeSpec := { name := "sealTurned", fn := fun _ => fun
  | [d1, d2, d3] => { results := [.lit (.bool false)], args := [d1, d2, d3] }
  | _ => none }
def SealTurnedWrongFalsely : Prop := sealTurnedRow.holds Try.pinned (OpenSpec.ofChange sealTurnedWrong)

/-- 'ferrulelaw02.SealAll': WHATEVER THE INPUT: true; the input reads as it did. -/
def sealAllSpec : ChangeSpec := { name := "sealAll", fn := fun _ => fun
  | [d1, d2] => { results := [.lit (.bool true)], args := [d1, d2] }
  | _ => none }
def sealAllRow : OpenClaim := { program := "ytkkkpmobdaebgaa", sum := "92d0578fceb6ef2314f6e1046ca232759ba9616c59ac91f4baefb82ff452d9cc", func := "ferrule/ferrulelaw02.SealAll", spec := "sealAll", unfollowed := true, recurses := true, apart := false }
def SealAllSaid : Prop := sealAllRow.holds Try.pinned (OpenSpec.ofChange sealAllSpec)

/-- ITS FALSE NEIGHBOUR: 'it returns false'. Refute it at one input. -/
def sealAllWrong : ChangeSpec := { name := "sealAll", fn := fun _ => fun
  | [d1, d2] => { results := [.lit (.bool false)], args := [d1, d2] }
  | _ => none }
def SealAllWrongFalsely : Prop := sealAllRow.holds Try.pinned (OpenSpec.ofChange sealAllWrong)

/-- 'ferrulelaw02.SealBack': WHATEVER THE INPUT: true; the input reads as it did. -/
def sealBackSpec : ChangeSpec := { name := "sealBack", fn := fun _ => fun
  | [d1, d2, d3] => { results := [.lit (.bool true)], args := [d1, d2, d3] }
  | _ => none }
def sealBackRow : OpenClaim := { program := "ytkkkpmobdaebgaa", sum := "92d0578fceb6ef2314f6e1046ca232759ba9616c59ac91f4baefb82ff452d9cc", func := "ferrule/ferrulelaw02.SealBack", spec := "sealBack", unfollowed := true, recurses := true, apart := false }
def SealBackSaid : Prop := sealBackRow.holds Try.pinned (OpenSpec.ofChange sealBackSpec)

/-- ITS FALSE NEIGHBOUR: 'it returns false'. Refute it at one input. -/
def sealBackWrong : ChangeSpec := { name := "sealBack", fn := fun _ => fun
  | [d1, d2, d3] => { results := [.lit (.bool false)], args := [d1, d2, d3] }
  | _ => none }
def SealBackWrongFalsely : Prop := sealBackRow.holds Try.pinned (OpenSpec.ofChange sealBackWrong)

/-- 'ferrulelaw02.SealJoins': WHATEVER THE INPUT: true; the input reads as it did. -/
def sealJoinsSpec : ChangeSpec := { name := "sealJoins", fn := fun _ => fun
  | [d1, d2] => { results := [.lit (.bool true)], args := [d1, d2] }
  | _ => none }
def sealJoinsRow : OpenClaim := { program := "ytkkkpmobdaebgaa", sum := "92d0578fceb6ef2314f6e1046ca232759ba9616c59ac91f4baefb82ff452d9cc", func := "ferrule/ferrulelaw02.SealJoins", spec := "sealJoins", unfollowed := true, recurses := true, apart := false }
def SealJoinsSaid : Prop := sealJoinsRow.holds Try.pinned (OpenSpec.ofChange sealJoinsSpec)

/-- ITS FALSE NEIGHBOUR: 'it returns false'. Refute it at one input. -/
def sealJoinsWrong : ChangeSpec := { name := "sealJoins", fn := fun _ => fun
  | [d1, d2] => { results := [.lit (.bool false)], args := [d1, d2] }
  | _ => none }
def SealJoinsWrongFalsely : Prop := sealJoinsRow.holds Try.pinned (OpenSpec.ofChange sealJoinsWrong)

/- THE SECOND FORM. 'bulk': how many values and letters a reading holds, each counted each time it is reached (what is shared counts as often as it is met; a slice's spare places count too). A statement '..UptoSaid' is the law's where the arguments, and the package variables that the reading takes, are together of bulk at most 1048576: NARROWER than '..Said'. Prove '..Said' where nothing that the law and all that it calls make is longer than what came in: it says more and counts as full. Else prove '..UptoSaid'. A law counts once. -/
mutual
def uptoBulk {H : Type} : DataW H → Nat
  | .lit (.string bytes) => bytes.length + 1
  | .lit _ => 1
  | .nil => 1
  | .ptr d => uptoBulk d + 1
  | .slice elems spare => uptoBulkAll elems + uptoBulkAll spare + 1
  | .agg parts => uptoBulkAll parts + 1
  | .iface _ d => uptoBulk d + 1
  | .map entries => uptoBulkEntries entries + 1
  | .held _ => 1
def uptoBulkAll {H : Type} : List (DataW H) → Nat
  | [] => 0
  | d :: r => uptoBulk d + uptoBulkAll r
def uptoBulkEntries {H : Type} : List (Lit × DataW H) → Nat
  | [] => 0
  | x :: r => uptoBulkEntry x + uptoBulkEntries r
def uptoBulkEntry {H : Type} : Lit × DataW H → Nat
  | (.string bytes, d) => bytes.length + uptoBulk d + 1
  | (_, d) => uptoBulk d + 1
 end
def uptoSmall : (H : Type) → List (DataW H) → Bool := fun _ ds => decide (uptoBulkAll ds ≤ 1048576)
def OpenSpec.upto (s : _root_.Go.ChangeSpec) : _root_.Go.OpenSpec := { _root_.Go.OpenSpec.ofChange s with cond := some uptoSmall }

/-- 'ferrulelaw02.SealSums', WHERE WHAT IT READS IS OF BULK AT MOST 1048576: true; the input reads as it did. -/
def sealSumsUptoRow : OpenClaim := { program := "ytkkkpmobdaebgaa", sum := "92d0578fceb6ef2314f6e1046ca232759ba9616c59ac91f4baefb82ff452d9cc", func := "ferrule/ferrulelaw02.SealSums", spec := "sealSums", apart := false, narrowed := true }
def SealSumsUptoSaid : Prop := sealSumsUptoRow.holds Try.pinned (OpenSpec.upto sealSumsSpec)

/-- 'ferrulelaw02.SealPuts', WHERE WHAT IT READS IS OF BULK AT MOST 1048576: true; the input reads as it did. -/
def sealPutsUptoRow : OpenClaim := { program := "ytkkkpmobdaebgaa", sum := "92d0578fceb6ef2314f6e1046ca232759ba9616c59ac91f4baefb82ff452d9cc", func := "ferrule/ferrulelaw02.SealPuts", spec := "sealPuts", apart := false, narrowed := true }
def SealPutsUptoSaid : Prop := sealPutsUptoRow.holds Try.pinned (OpenSpec.upto sealPutsSpec)

/-- 'ferrulelaw02.SealSizes', WHERE WHAT IT READS IS OF BULK AT MOST 1048576: true; the input reads as it did. -/
def sealSizesUptoRow : OpenClaim := { program := "ytkkkpmobdaebgaa", sum := "92d0578fceb6ef2314f6e1046ca232759ba9616c59ac91f4baefb82ff452d9cc", func := "ferrule/ferrulelaw02.SealSizes", spec := "sealSizes", apart := false, narrowed := true }
def SealSizesUptoSaid : Prop := sealSizesUptoRow.holds Try.pinned (OpenSpec.upto sealSizesSpec)

/-- 'ferrulelaw02.SealTakes', WHERE WHAT IT READS IS OF BULK AT MOST 1048576: true; the input reads as it did. -/
def sealTakesUptoRow : OpenClaim := { program := "ytkkkpmobdaebgaa", sum := "92d0578fceb6ef2314f6e1046ca232759ba9616c59ac91f4baefb82ff452d9cc", func := "ferrule/ferrulelaw02.SealTakes", spec := "sealTakes", apart := false, narrowed := true }
def SealTakesUptoSaid : Prop := sealTakesUptoRow.holds Try.pinned (OpenSpec.upto sealTakesSpec)

/-- 'ferrulelaw02.SealTurned', WHERE WHAT IT READS IS OF BULK AT MOST 1048576: true; the input reads as it did. -/
def sealTurnedUptoRow : OpenClaim := { program := "ytkkkpmobdaebgaa", sum := "92d0578fceb6ef2314f6e1046ca232759ba9616c59ac91f4baefb82ff452d9cc", func := "ferrule/ferrulelaw02.SealTurned", spec := "sealTurned", apart := false, narrowed := true }
def SealTurnedUptoSaid : Prop := sealTurnedUptoRow.holds Try.pinned (OpenSpec.upto sealTurnedSpec)

/-- 'ferrulelaw02.SealAll', WHERE WHAT IT READS IS OF BULK AT MOST 1048576: true; the input reads as it did. -/
def sealAllUptoRow : OpenClaim := { program := "ytkkkpmobdaebgaa", sum := "92d0578fceb6ef2314f6e1046ca232759ba9616c59ac91f4baefb82ff452d9cc", func := "ferrule/ferrulelaw02.SealAll", spec := "sealAll", unfollowed := true, recurses := true, apart := false, narrowed := true }
def SealAllUptoSaid : Prop := sealAllUptoRow.holds Try.pinned (OpenSpec.upto sealAllSpec)

/-- 'ferrulelaw02.SealBack', WHERE WHAT IT READS IS OF BULK AT MOST 1048576: true; the input reads as it did. -/
def sealBackUptoRow : OpenClaim := { program := "ytkkkpmobdaebgaa", sum := "92d0578fceb6ef2314f6e1046ca232759ba9616c59ac91f4baefb82ff452d9cc", func := "ferrule/ferrulelaw02.SealBack", spec := "sealBack", unfollowed := true, recurses := true, apart := false, narrowed := true }
def SealBackUptoSaid : Prop := sealBackUptoRow.holds Try.pinned (OpenSpec.upto sealBackSpec)

/-- 'ferrulelaw02.SealJoins', WHERE WHAT IT READS IS OF BULK AT MOST 1048576: true; the input reads as it did. -/
def sealJoinsUptoRow : OpenClaim := { program := "ytkkkpmobdaebgaa", sum := "92d0578fceb6ef2314f6e1046ca232759ba9616c59ac91f4baefb82ff452d9cc", func := "ferrule/ferrulelaw02.SealJoins", spec := "sealJoins", unfollowed := true, recurses := true, apart := false, narrowed := true }
def SealJoinsUptoSaid : Prop := sealJoinsUptoRow.holds Try.pinned (OpenSpec.upto sealJoinsSpec)

end Rows
end Go.Proofs.Ytkkkpmobdaebgaa
