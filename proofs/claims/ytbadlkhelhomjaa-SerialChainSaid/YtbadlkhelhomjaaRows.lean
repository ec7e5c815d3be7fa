/-
  No cell of these rows narrows 'for every input' (looked for: loops, veiled, ifaces, maps, wideKeys, modest, calm, conditions, laid).
  DERIVED. THE GIVEN ROWS OF THIS SEAT. 6 by the template 'for every input the law returns true; each argument reads behind the call as it read before'; 0 by the template 'total and deterministic' (their statements: YtbadlkhelhomjaaTotals.lean).
  GIVEN WITH THE SEED: the statements are not yours to turn. If you find one false, say at which input.
  Laid BY PROGRAM, IN A SANDBOX (cutbox-rows.mjs): the forced cells as the released guide's own fill.sh prints them over the translation d4ef4fe20c8ad8f5… (all of the seat's roots in one cut). By AI agents, Wed Nov 11 2026. No macro, syntax, notation, axiom, sorry.
-/
import Derived.Test.YtbadlkhelhomjaaChecked
import GoSem.Claim
import GoSem.ClaimJoined
import GoSem.ClaimMapViews
import Derived.JoinedTies
import Derived.KernelRfl
namespace Go.Proofs.Ytbadlkhelhomjaa
/- THE CELL 'sum', in the pinned program and in every row, IS THE sha256 OF THE DUMP (.gsa) THAT YtbadlkhelhomjaaProg.lean LOADS. Nothing in Lean hashes anything: it is a label: what it is worth is what the hold of that sum in a sandbox is worth. -/
noncomputable def Try.pinned : Pinned := { name := "ytbadlkhelhomjaa", sum := "d4ef4fe20c8ad8f593f9a245994785c05dab47b62019ef951ecc73b72c79635c", checked := Try.checked }
namespace Rows
def none {H : Type} : Left H := { results := [], args := [] }

/-- 'ferrulelaw21.SerialAhead': WHATEVER THE INPUT: true; the input reads as it did. -/
def serialAheadSpec : ChangeSpec := { name := "serialAhead", fn := fun _ => fun
  | [d1, d2] => { results := [.lit (.bool true)], args := [d1, d2] }
  | _ => none }
def serialAheadRow : OpenClaim := { program := "ytbadlkhelhomjaa", sum := "d4ef4fe20c8ad8f593f9a245994785c05dab47b62019ef951ecc73b72c79635c", func := "ferrule/ferrulelaw21.SerialAhead", spec := "serialAhead", unfollowed := true, recurses := true, apart := false }
def SerialAheadSaid : Prop := serialAheadRow.holds Try.pinned (OpenSpec.ofChange serialAheadSpec)

/-- ITS FALSE NEIGHBOUR: 'it returns false'. Refute it at one input. -/
def serialAheadWrong : ChangeSpec := { name := "serialAhead", fn := fun _ => fun
  | [d1, d2] => { results := [.lit (.bool false)], args := [d1, d2] }
  | _ => none }
def SerialAheadWrongFalsely : Prop := serialAheadRow.holds Try.pinned (OpenSpec.ofChange serialAheadWrong)

/-- 'ferrulelaw21.SerialOrders': WHATEVER THE INPUT: true; the input reads as it did. -/
def serialOrdersSpec : ChangeSpec := { name := "serialOrders", fn := fun _ => fun
  | [d] => { results := [.lit (.bool true)], args := [d] }
  | _ => none }
def serialOrdersRow : OpenClaim := { program := "ytbadlkhelhomjaa", sum := "d4ef4fe20c8ad8f593f9a245994785c05dab47b62019ef951ecc73b72c79635c", func := "ferrule/ferrulelaw21.SerialOrders", spec := "serialOrders", unfollowed := true, recurses := true, apart := false }
def SerialOrdersSaid : Prop := serialOrdersRow.holds Try.pinned (OpenSpec.ofChange serialOrdersSpec)

/-- ITS FALSE NEIGHBOUR: 'it returns false'. Refute it at one input. -/
def serialOrdersWrong : ChangeSpec := { name := "serialOrders", fn := fun _ => fun
  | [d] => { results := [.lit (.bool false)], args := [d] }
  | _ => none }
def SerialOrdersWrongFalsely : Prop := serialOrdersRow.holds Try.pinned (OpenSpec.ofChange serialOrdersWrong)

/-- 'ferrulelaw21.SerialTime': WHATEVER THE INPUT: true; the input reads as it did. -/
def serialTimeSpec : ChangeSpec := { name := "serialTime", fn := fun _ => fun
  | [d] => { results := [.lit (.bool true)], args := [d] }
  | _ => none }
def serialTimeRow : OpenClaim := { program := "ytbadlkhelhomjaa", sum := "d4ef4fe20c8ad8f593f9a245994785c05dab47b62019ef951ecc73b72c79635c", func := "ferrule/ferrulelaw21.SerialTime", spec := "serialTime", unfollowed := true, recurses := true, apart := false }
def SerialTimeSaid : Prop := serialTimeRow.holds Try.pinned (OpenSpec.ofChange serialTimeSpec)

/-- ITS FALSE NEIGHBOUR: 'it returns false'. Refute it at one input. -/
def serialTimeWrong : ChangeSpec := { name := "serialTime", fn := fun _ => fun
  | [d] => { results := [.lit (.bool false)], args := [d] }
  | _ => none }
def SerialTimeWrongFalsely : Prop := serialTimeRow.holds Try.pinned (OpenSpec.ofChange serialTimeWrong)

/-- 'ferrulelaw21.SerialChain': WHATEVER THE INPUT: true; the input reads as it did. -/
def serialChainSpec : ChangeSpec := { name := "serialChain", fn := fun _ => fun
  | [d1, d2, d3] => { results := [.lit (.bool true)], args := [d1, d2, d3] }
  | _ => none }
def serialChainRow : OpenClaim := { program := "ytbadlkhelhomjaa", sum := "d4ef4fe20c8ad8f593f9a245994785c05dab47b62019ef951ecc73b72c79635c", func := "ferrule/ferrulelaw21.SerialChain", spec := "serialChain", unfollowed := true, recurses := true, apart := false }
def SerialChainSaid : Prop := serialChainRow.holds Try.pinned (OpenSpec.ofChange serialChainSpec)

/-- ITS FALSE NEIGHBOUR: 'it returns false'. Refute it at one input. -/
def serialChainWrong : ChangeSpec := { name := "serialChain", fn := fun _ => fun
  | [d1, d2, d3] => { results := [.lit (.bool false)], args := [d1, d2, d3] }
  | _ => none }
def SerialChainWrongFalsely : Prop := serialChainRow.holds Try.pinned (OpenSpec.ofChange serialChainWrong)

/-- 'ferrulelaw21.SerialChecks': WHATEVER THE INPUT: true; the input reads as it did. -/
def serialChecksSpec : ChangeSpec := { name := "serialChecks", fn := fun _ => fun
  | [d1, d2] => { results := [.lit (.bool true)], args := [d1, d2] }
  | _ => none }
def serialChecksRow : OpenClaim := { program := "ytbadlkhelhomjaa", sum := "d4ef4fe20c8ad8f593f9a245994785c05dab47b62019ef951ecc73b72c79635c", func := "ferrule/ferrulelaw21.SerialChecks", spec := "serialChecks", unfollowed := true, recurses := true, apart := false }
def SerialChecksSaid : Prop := serialChecksRow.holds Try.pinned (OpenSpec.ofChange serialChecksSpec)

/-- ITS FALSE NEIGHBOUR: 'it returns false'. Refute it at one input. -/
def serialChecksWrong : ChangeSpec := { name := "serialChecks", fn := fun _ => fun
  | [d1, d2] => { results := [.lit (.bool false)], args := [d1, d2] }
  | _ => none }
def SerialChecksWrongFalsely : Prop := serialChecksRow.holds Try.pinned (OpenSpec.ofChange serialChecksWrong)

/-- 'ferrulelaw21.SerialFinds': WHATEVER THE INPUT: true; the input reads as it did. -/
def serialFindsSpec : ChangeSpec := { name := "serialFinds", fn := fun _ => fun
  | [d1, d2] => { results := [.lit (.bool true)], args := [d1, d2] }
  | _ => none }
def serialFindsRow : OpenClaim := { program := "ytbadlkhelhomjaa", sum := "d4ef4fe20c8ad8f593f9a245994785c05dab47b62019ef951ecc73b72c79635c", func := "ferrule/ferrulelaw21.SerialFinds", spec := "serialFinds", unfollowed := true, recurses := true, apart := false }
def SerialFindsSaid : Prop := serialFindsRow.holds Try.pinned (OpenSpec.ofChange serialFindsSpec)

/-- ITS FALSE NEIGHBOUR: 'it returns false'. Refute it at one input. -/
def serialFindsWrong : ChangeSpec := { name := "serialFinds", fn := fun _ => fun
  | [d1, d2] => { results := [.lit (.bool false)], args := [d1, d2] }
  | _ => none }
def SerialFindsWrongFalsely : Prop := serialFindsRow.holds Try.pinned (OpenSpec.ofChange serialFindsWrong)

/- THE SECOND FORM. 'bulk': how many values and letters a reading holds, each counted each time it is reached (what is shared counts as often as it is met; a slice's spare places count too). A statement '..UptoSaid' is the law's where the arguments, and the package variables that the reading takes, are together of bulk at most 1048576: NARROWER than '..Said'. Prove '..Said' where nothing that the law and all that it calls make is longer than what came in: it says more and counts as full. Else prove '..UptoSaid'. A law counts once. -/
mutual
def uptoBulk {H : Type} : DataW H → Nat
  | .lit (.string bytes) => bytes.length + 1
  | .lit _ => 1
  | .nil => 1
  | .ptr d => uptoBulk d + 1
  | .slice elems spare => uptoBulkAll elems + uptoBulkAll spare + 1
  | .agg parts => uptoBulkAll parts + 1
  | .iface _ d => uptoBulk d + 1
  | .map entries => uptoBulkEntries entries + 1
  | .held _ => 1
def uptoBulkAll {H : Type} : List (DataW H) → Nat
  | [] => 0
  | d :: r => uptoBulk d + uptoBulkAll r
def uptoBulkEntries {H : Type} : List (Lit × DataW H) → Nat
  | [] => 0
  | x :: r => uptoBulkEntry x + uptoBulkEntries r
def uptoBulkEntry {H : Type} : Lit × DataW H → Nat
  | (.string bytes, d) => bytes.length + uptoBulk d + 1
  | (_, d) => uptoBulk d + 1
 end
def uptoSmall : (H : Type) → List (DataW H) → Bool := fun _ ds => decide (uptoBulkAll ds ≤ 1048576)
def OpenSpec.upto (s : _root_.Go.ChangeSpec) : _root_.Go.OpenSpec := { _root_.Go.OpenSpec.ofChange s with cond := some uptoSmall }

/-- 'ferrulelaw21.SerialAhead', WHERE WHAT IT READS IS OF BULK AT MOST 1048576: true; the input reads as it did. -/
def serialAheadUptoRow : OpenClaim := { program := "ytbadlkhelhomjaa", sum := "d4ef4fe20c8ad8f593f9a245994785c05dab47b62019ef951ecc73b72c79635c", func := "ferrule/ferrulelaw21.SerialAhead", spec := "serialAhead", unfollowed := true, recurses := true, apart := false, narrowed := true }
def SerialAheadUptoSaid : Prop := serialAheadUptoRow.holds Try.pinned (OpenSpec.upto serialAheadSpec)

/-- 'ferrulelaw21.SerialOrders', WHERE WHAT IT READS IS OF BULK AT MOST 1048576: true; the input reads as it did. -/
def serialOrdersUptoRow : OpenClaim := { program := "ytbadlkhelhomjaa", sum := "d4ef4fe20c8ad8f593f9a245994785c05dab47b62019ef951ecc73b72c79635c", func := "ferrule/ferrulelaw21.SerialOrders", spec := "serialOrders", unfollowed := true, recurses := true, apart := false, narrowed := true }
def SerialOrdersUptoSaid : Prop := serialOrdersUptoRow.holds Try.pinned (OpenSpec.upto serialOrdersSpec)

/-- 'ferrulelaw21.SerialTime', WHERE WHAT IT READS IS OF BULK AT MOST 1048576: true; the input reads as it did. -/
def serialTimeUptoRow : OpenClaim := { program := "ytbadlkhelhomjaa", sum := "d4ef4fe20c8ad8f593f9a245994785c05dab47b62019ef951ecc73b72c79635c", func := "ferrule/ferrulelaw21.SerialTime", spec := "serialTime", unfollowed := true, recurses := true, apart := false, narrowed := true }
def SerialTimeUptoSaid : Prop := serialTimeUptoRow.holds Try.pinned (OpenSpec.upto serialTimeSpec)

/-- 'ferrulelaw21.SerialChain', WHERE WHAT IT READS IS OF BULK AT MOST 1048576: true; the input reads as it did. -/
def serialChainUptoRow : OpenClaim := { program := "ytbadlkhelhomjaa", sum := "d4ef4fe20c8ad8f593f9a245994785c05dab47b62019ef951ecc73b72c79635c", func := "ferrule/ferrulelaw21.SerialChain", spec := "serialChain", unfollowed := true, recurses := true, apart := false, narrowed := true }
def SerialChainUptoSaid : Prop := serialChainUptoRow.holds Try.pinned (OpenSpec.upto serialChainSpec)

/-- 'ferrulelaw21.SerialChecks', WHERE WHAT IT READS IS OF BULK AT MOST 1048576: true; the input reads as it did. -/
def serialChecksUptoRow : OpenClaim := { program := "ytbadlkhelhomjaa", sum := "d4ef4fe20c8ad8f593f9a245994785c05dab47b62019ef951ecc73b72c79635c", func := "ferrule/ferrulelaw21.SerialChecks", spec := "serialChecks", unfollowed := true, recurses := true, apart := false, narrowed := true }
def SerialChecksUptoSaid : Prop := serialChecksUptoRow.holds Try.pinned (OpenSpec.upto serialChecksSpec)

/-- 'ferrulelaw21.SerialFinds', WHERE WHAT IT READS IS OF BULK AT MOST 1048576: true; the input reads as it did. -/
def serialFindsUptoRow : OpenClaim := { program := "ytbadlkhelhomjaa", sum := "d4ef4fe20c8ad8f593f9a245994785c05dab47b62019ef951ecc73b72c79635c", func := "ferrule/ferrulelaw21.SerialFinds", spec := "serialFinds", unfollowed := true, recurses := true, apart := false, narrowed := true }
def SerialFindsUptoSaid : Prop := serialFindsUptoRow.holds Try.pinned (OpenSpec.upto serialFindsSpec)

end Rows
end Go.Proofs.Ytbadlkhelhomjaa
