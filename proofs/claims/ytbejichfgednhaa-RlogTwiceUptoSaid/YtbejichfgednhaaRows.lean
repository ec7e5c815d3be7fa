/-
  No cell of these rows narrows 'for every input' (looked for: loops, veiled, ifaces, maps, wideKeys, modest, calm, conditions, laid).
  DERIVED. THE GIVEN ROWS OF THIS SEAT. 6 by the template 'for every input the law returns true; each argument reads behind the call as it read before'; 0 by the template 'total and deterministic' (their statements: YtbejichfgednhaaTotals.lean).
  GIVEN WITH THE SEED: the statements are not yours to turn. If you find one false, say at which input.
  Laid BY PROGRAM, IN A SANDBOX (cutbox-rows.mjs): the forced cells as the released guide's own fill.sh prints them over the translation e82ec70c1f562208… (all of the seat's roots in one cut). By AI agents, Wed Nov 11 2026. No macro, syntax, notation, axiom, sorry.
-/
import Derived.Test.YtbejichfgednhaaChecked
import GoSem.Claim
import GoSem.ClaimJoined
import GoSem.ClaimMapViews
import Derived.JoinedTies
import Derived.KernelRfl
namespace Go.Proofs.Ytbejichfgednhaa
/- THE CELL 'sum', in the pinned program and in every row, IS THE sha256 OF THE DUMP (.gsa) THAT YtbejichfgednhaaProg.lean LOADS. Nothing in Lean hashes anything: it is a label: what it is worth is what the hold of that sum in a sandbox is worth. -/
noncomputable def Try.pinned : Pinned := { name := "ytbejichfgednhaa", sum := "e82ec70c1f562208036dd07484daa987e443468f4cbcf8f10d989cac6028505f", checked := Try.checked }
namespace Rows
def none {H : Type} : Left H := { results := [], args := [] }

/-- 'ferrulelaw05.RlogTwice': WHATEVER THE INPUT: true; the input reads as it did. -/
def rlogTwiceSpec : ChangeSpec := { name := "rlogTwice", fn := fun _ => fun
  | [d] => { results := [.lit (.bool true)], args := [d] }
  | _ => none }
def rlogTwiceRow : OpenClaim := { program := "ytbejichfgednhaa", sum := "e82ec70c1f562208036dd07484daa987e443468f4cbcf8f10d989cac6028505f", func := "ferrule/ferrulelaw05.RlogTwice", spec := "rlogTwice", apart := false }
def RlogTwiceSaid : Prop := rlogTwiceRow.holds Try.pinned (OpenSpec.ofChange rlogTwiceSpec)

/-- ITS FALSE NEIGHBOUR: 'it returns false'. Refute it at one input. -/
def rlogTwiceWrong : ChangeSpec := { name := "rlogTwice", fn := fun _ => fun
  | [d] => { results := [.lit (.bool false)], args := [d] }
  | _ => none }
def RlogTwiceWrongFalsely : Prop := rlogTwiceRow.holds Try.pinned (OpenSpec.ofChange rlogTwiceWrong)

/-- 'ferrulelaw05.RlogAdds': WHATEVER THE INPUT: true; the input reads as it did. -/
def rlogAddsSpec : ChangeSpec := { name := "rlogAdds", fn := fun _ => fun
  | [d1, d2] => { results := [.lit (.bool true)], args := [d1, d2] }
  | _ => none }
def rlogAddsRow : OpenClaim := { program := "ytbejichfgednhaa", sum := "e82ec70c1f562208036dd07484daa987e443468f4cbcf8f10d989cac6028505f", func := "ferrule/ferrulelaw05.RlogAdds", spec := "rlogAdds", apart := false }
def RlogAddsSaid : Prop := rlogAddsRow.holds Try.pinned (OpenSpec.ofChange rlogAddsSpec)

/-- ITS FALSE NEIGHBOUR: 'it returns false'. Refute it at one input. -/
def rlogAddsWrong : ChangeSpec := { name := "rlogAdds", fn := fun _ => fun
  | [d1, d2] => { results := [.lit (.bool false)], args := [d1, d2] }
  | _ => none }
def RlogAddsWrongFalsely : Prop := rlogAddsRow.holds Try.pinned (OpenSpec.ofChange rlogAddsWrong)

/-- 'ferrulelaw05.RlogFrom': WHATEVER THE INPUT: true; the input reads as it did. -/
def rlogFromSpec : ChangeSpec := { name := "rlogFrom", fn := fun _ => fun
  | [d1, d2, d3] => { results := [.lit (.bool true)], args := [d1, d2, d3] }
  | _ => none }
def rlogFromRow : OpenClaim := { program := "ytbejichfgednhaa", sum := "e82ec70c1f562208036dd07484daa987e443468f4cbcf8f10d989cac6028505f", func := "ferrule/ferrulelaw05.RlogFrom", spec := "rlogFrom", apart := false }
def RlogFromSaid : Prop := rlogFromRow.holds Try.pinned (OpenSpec.ofChange rlogFromSpec)

/-- ITS FALSE NEIGHBOUR: 'it returns false'. Refute it at one input. -/
def rlogFromWrong : ChangeSpec := { name := "rlogFrom", fn := fun _ => fun
  | [d1, d2, d3] => { results := [.lit (.bool false)], args := [d1, d2, d3] }
  | _ => none }
def RlogFromWrongFalsely : Prop := rlogFromRow.holds Try.pinned (OpenSpec.ofChange rlogFromWrong)

/-- 'ferrulelaw05.RlogInstalls': WHATEVER THE INPUT: true; the input reads as it did. -/
def rlogInstallsSpec : ChangeSpec := { name := "rlogInstalls", fn := fun _ => fun
  | [d] => { results := [.lit (.bool true)], args := [d] }
  | _ => none }
def rlogInstallsRow : OpenClaim := { program := "ytbejichfgednhaa", sum := "e82ec70c1f562208036dd07484daa987e443468f4cbcf8f10d989cac6028505f", func := "ferrule/ferrulelaw05.RlogInstalls", spec := "rlogInstalls", apart := false }
def RlogInstallsSaid : Prop := rlogInstallsRow.holds Try.pinned (OpenSpec.ofChange rlogInstallsSpec)

/-- ITS FALSE NEIGHBOUR: 'it returns false'. Refute it at one input. -/
def rlogInstallsWrong : ChangeSpec := { name := "rlogInstalls", fn := fun _ => fun
  | [d] => { results := [.lit (.bool false)], args := [d] }
  | _ => none }
def RlogInstallsWrongFalsely : Prop := rlogInstallsRow.holds Try.pinned (OpenSpec.ofChange rlogInstallsWrong)

/-- 'ferrulelaw05.RlogShared': WHATEVER THE INPUT: true; the input reads as it did. -/
def rlogSharedSpec : ChangeSpec := { name := "rlogShared", fn := fun _ => fun
  | [d1, d2] => { results := [.lit (.bool true)], args := [d1, d2] }
  | _ => none }
def rlogSharedRow : OpenClaim := { program := "ytbejichfgednhaa", sum := "e82ec70c1f562208036dd07484daa987e443468f4cbcf8f10d989cac6028505f", func := "ferrule/ferrulelaw05.RlogShared", spec := "rlogShared", apart := false }
def RlogSharedSaid : Prop := rlogSharedRow.holds Try.pinned (OpenSpec.ofChange rlogSharedSpec)

/-- ITS FALSE NEIGHBOUR: 'it returns false'. Refute it at one input. -/
def rlogSharedWrong : ChangeSpec := { name := "rlogShared", fn := fun _ => fun
  | [d1, d2] => { results := [.lit (.bool false)], args := [d1, d2] }
  | _ => none }
def RlogSharedWrongFalsely : Prop := rlogSharedRow.holds Try.pinned (OpenSpec.ofChange rlogSharedWrong)

/-- 'ferrulelaw05.RlogAsks': WHATEVER THE INPUT: true; the input reads as it did. -/
def rlogAsksSpec : ChangeSpec := { name := "rlogAsks", fn := fun _ => fun
  | [d1, d2, d3] => { results := [.lit (.bool true)], args := [d1, d2, d3] }
  | _ => none }
def rlogAsksRow : OpenClaim := { program := "ytbejichfgednhaa", sum := "e82ec70c1f562208036dd07484daa987e443468f4cbcf8f10d989cac6028505f", func := "ferrule/ferrulelaw05.RlogAsks", spec := "rlogAsks", unfollowed := true, recurses := true, apart := false }
def RlogAsksSaid : Prop := rlogAsksRow.holds Try.pinned (OpenSpec.ofChange rlogAsksSpec)

/-- ITS FALSE NEIGHBOUR: 'it returns false'. Refute it at one input. -/
def rlogAsksWrong : ChangeSpec := { name := "rlogAsks", fn := fun _ => fun
  | [d1, d2, d3] => { results := [.lit (.bool false)], args := [d1, d2, d3] }
  | _ => none }
def RlogAsksWrongFalsely : Prop := rlogAsksRow.holds Try.pinned (OpenSpec.ofChange rlogAsksWrong)

/- THE SECOND FORM. 'bulk': how many values and letters a reading holds, each counted each time it is reached (what is shared counts as often as it is met; a slice's spare places count too). A statement '..UptoSaid' is the law's where the arguments, and the package variables that the reading takes, are together of bulk at most 1048576: NARROWER than '..Said'. Prove '..Said' where nothing that the law and all that it calls make is longer than what came in: it says more and counts as full. Else prove '..UptoSaid'. A law counts once. -/
mutual
def uptoBulk {H : Type} : DataW H → Nat
  | .lit (.string bytes) => bytes.length + 1
  | .lit _ => 1
  | .nil => 1
  | .ptr d => uptoBulk d + 1
  | .slice elems spare => uptoBulkAll elems + uptoBulkAll spare + 1
  | .agg parts => uptoBulkAll parts + 1
  | .iface _ d => uptoBulk d + 1
  | .map entries => uptoBulkEntries entries + 1
  | .held _ => 1
def uptoBulkAll {H : Type} : List (DataW H) → Nat
  | [] => 0
  | d :: r => uptoBulk d + uptoBulkAll r
def uptoBulkEntries {H : Type} : List (Lit × DataW H) → Nat
  | [] => 0
  | x :: r => uptoBulkEntry x + uptoBulkEntries r
def uptoBulkEntry {H : Type} : Lit × DataW H → Nat
  | (.string bytes, d) => bytes.length + uptoBulk d + 1
  | (_, d) => uptoBulk d + 1
 end
def uptoSmall : (H : Type) → List (DataW H) → Bool := fun _ ds => decide (uptoBulkAll ds ≤ 1048576)
def OpenSpec.upto (s : _root_.Go.ChangeSpec) : _root_.Go.OpenSpec := { _root_.Go.OpenSpec.ofChange s with cond := some uptoSmall }

/-- 'ferrulelaw05.RlogTwice', WHERE WHAT IT READS IS OF BULK AT MOST 1048576: true; the input reads as it did. -/
def rlogTwiceUptoRow : OpenClaim := { program := "ytbejichfgednhaa", sum := "e82ec70c1f562208036dd07484daa987e443468f4cbcf8f10d989cac6028505f", func := "ferrule/ferrulelaw05.RlogTwice", spec := "rlogTwice", apart := false, narrowed := true }
def RlogTwiceUptoSaid : Prop := rlogTwiceUptoRow.holds Try.pinned (OpenSpec.upto rlogTwiceSpec)

/-- 'ferrulelaw05.RlogAdds', WHERE WHAT IT READS IS OF BULK AT MOST 1048576: true; the input reads as it did. -/
def rlogAddsUptoRow : OpenClaim := { program := "ytbejichfgednhaa", sum := "e82ec70c1f562208036dd07484daa987e443468f4cbcf8f10d989cac6028505f", func := "ferrule/ferrulelaw05.RlogAdds", spec := "rlogAdds", apart := false, narrowed := true }
def RlogAddsUptoSaid : Prop := rlogAddsUptoRow.holds Try.pinned (OpenSpec.upto rlogAddsSpec)

/-- 'ferrulelaw05.RlogFrom', WHERE WHAT IT READS IS OF BULK AT MOST 1048576: true; the input reads as it did. -/
def rlogFromUptoRow : OpenClaim := { program := "ytbejichfgednhaa", sum := "e82ec70c1f562208036dd07484daa987e443468f4cbcf8f10d989cac6028505f", func := "ferrule/ferrulelaw05.RlogFrom", spec := "rlogFrom", apart := false, narrowed := true }
def RlogFromUptoSaid : Prop := rlogFromUptoRow.holds Try.pinned (OpenSpec.upto rlogFromSpec)

/-- 'ferrulelaw05.RlogInstalls', WHERE WHAT IT READS IS OF BULK AT MOST 1048576: true; the input reads as it did. -/
def rlogInstallsUptoRow : OpenClaim := { program := "ytbejichfgednhaa", sum := "e82ec70c1f562208036dd07484daa987e443468f4cbcf8f10d989cac6028505f", func := "ferrule/ferrulelaw05.RlogInstalls", spec := "rlogInstalls", apart := false, narrowed := true }
def RlogInstallsUptoSaid : Prop := rlogInstallsUptoRow.holds Try.pinned (OpenSpec.upto rlogInstallsSpec)

/-- 'ferrulelaw05.RlogShared', WHERE WHAT IT READS IS OF BULK AT MOST 1048576: true; the input reads as it did. -/
def rlogSharedUptoRow : OpenClaim := { program := "ytbejichfgednhaa", sum := "e82ec70c1f562208036dd07484daa987e443468f4cbcf8f10d989cac6028505f", func := "ferrule/ferrulelaw05.RlogShared", spec := "rlogShared", apart := false, narrowed := true }
def RlogSharedUptoSaid : Prop := rlogSharedUptoRow.holds Try.pinned (OpenSpec.upto rlogSharedSpec)

/-- 'ferrulelaw05.RlogAsks', WHERE WHAT IT READS IS OF BULK AT MOST 1048576: true; the input reads as it did. -/
def rlogAsksUptoRow : OpenClaim := { program := "ytbejichfgednhaa", sum := "e82ec70c1f562208036dd07484daa987e443468f4cbcf8f10d989cac6028505f", func := "ferrule/ferrulelaw05.RlogAsks", spec := "rlogAsks", unfollowed := true, recurses := true, apart := false, narrowed := true }
def RlogAsksUptoSaid : Prop := rlogAsksUptoRow.holds Try.pinned (OpenSpec.upto rlogAsksSpec)

end Rows
end Go.Proofs.Ytbejichfgednhaa
