/-
  No cell of these rows narrows 'for every input' (looked for: loops, veiled, ifaces, maps, wideKeys, modest, calm, conditions, laid).
  DERIVED. THE GIVEN ROWS OF THIS SEAT. 6 by the template 'for every input the law returns true; each argument reads behind the call as it read before'; 0 by the template 'total and deterministic' (their statements: YtofdgkcaimifkaaTotals.lean).
  GIVEN WITH THE SEED: the statements are not yours to turn. If you find one false, say at which input.
  Laid BY PROGRAM, IN A SANDBOX (cutbox-rows.mjs): the forced cells as the released guide's own fill.sh prints them over the translation 41134843ec17cd2e… (all of the seat's roots in one cut). By AI agents, Wed Nov 11 2026. No macro, syntax, notation, axiom, sorry.
-/
import Derived.Test.YtofdgkcaimifkaaChecked
import GoSem.Claim
import GoSem.ClaimJoined
import GoSem.ClaimMapViews
import Derived.JoinedTies
import Derived.KernelRfl
namespace Go.Proofs.Ytofdgkcaimifkaa
/- THE CELL 'sum', in the pinned program and in every row, IS THE sha256 OF THE DUMP (.gsa) THAT YtofdgkcaimifkaaProg.lean LOADS. Nothing in Lean hashes anything: it is a label: what it is worth is what the hold of that sum in a sandbox is worth. -/
noncomputable def Try.pinned : Pinned := { name := "ytofdgkcaimifkaa", sum := "41134843ec17cd2ef098fa7792f9515d9e1b95f8d196e0d9949d92ace9e8de3e", checked := Try.checked }
namespace Rows
def none {H : Type} : Left H := { results := [], args := [] }

/-- 'ferrulelaw03.TapeWrites': WHATEVER THE INPUT: true; the input reads as it did. -/
def tapeWritesSpec : ChangeSpec := { name := "tapeWrites", fn := fun _ => fun
  | [d1, d2] => { results := [.lit (.bool true)], args := [d1, d2] }
  | _ => none }
def tapeWritesRow : OpenClaim := { program := "ytofdgkcaimifkaa", sum := "41134843ec17cd2ef098fa7792f9515d9e1b95f8d196e0d9949d92ace9e8de3e", func := "ferrule/ferrulelaw03.TapeWrites", spec := "tapeWrites", unfollowed := true, recurses := true, apart := false }
def TapeWritesSaid : Prop := tapeWritesRow.holds Try.pinned (OpenSpec.ofChange tapeWritesSpec)

/-- ITS FALSE NEIGHBOUR: 'it returns false'. Refute it at one input. -/
def tapeWritesWrong : ChangeSpec := { name := "tapeWrites", fn := fun _ => fun
  | [d1, d2] => { results := [.lit (.bool false)], args := [d1, d2] }
  | _ => none }
def TapeWritesWrongFalsely : Prop := tapeWritesRow.holds Try.pinned (OpenSpec.ofChange tapeWritesWrong)

/-- 'ferrulelaw03.TapeCrashes': WHATEVER THE INPUT: true; the input reads as it did. -/
def tapeCrashesSpec : ChangeSpec := { name := "tapeCrashes", fn := fun _ => fun
  | [d1, d2, d3] => { results := [.lit (.bool true)], args := [d1, d2, d3] }
  | _ => none }
def tapeCrashesRow : OpenClaim := { program := "ytofdgkcaimifkaa", sum := "41134843ec17cd2ef098fa7792f9515d9e1b95f8d196e0d9949d92ace9e8de3e", func := "ferrule/ferrulelaw03.TapeCrashes", spec := "tapeCrashes", unfollowed := true, recurses := true, apart := false }
def TapeCrashesSaid : Prop := tapeCrashesRow.holds Try.pinned (OpenSpec.ofChange tapeCrashesSpec)

/-- ITS FALSE NEIGHBOUR: 'it returns false'. Refute it at one input. -/
def tapeCrashesWrong : ChangeSpec := { name := "tapeCrashes", fn := fun _ => fun
  | [d1, d2, d3] => { results := [.lit (.bool false)], args := [d1, d2, d3] }
  | _ => none }
def TapeCrashesWrongFalsely : Prop := tapeCrashesRow.holds Try.pinned (OpenSpec.ofChange tapeCrashesWrong)

/-- 'ferrulelaw03.TapeSyncs': WHATEVER THE INPUT: true; the input reads as it did. -/
def tapeSyncsSpec : ChangeSpec := { name := "tapeSyncs", fn := fun _ => fun
  | [d1, d2] => { results := [.lit (.bool true)], args := [d1, d2] }
  | _ => none }
def tapeSyncsRow : OpenClaim := { program := "ytofdgkcaimifkaa", sum := "41134843ec17cd2ef098fa7792f9515d9e1b95f8d196e0d9949d92ace9e8de3e", func := "ferrule/ferrulelaw03.TapeSyncs", spec := "tapeSyncs", unfollowed := true, recurses := true, apart := false }
def TapeSyncsSaid : Prop := tapeSyncsRow.holds Try.pinned (OpenSpec.ofChange tapeSyncsSpec)

/-- ITS FALSE NEIGHBOUR: 'it returns false'. Refute it at one input. -/
def tapeSyncsWrong : ChangeSpec := { name := "tapeSyncs", fn := fun _ => fun
  | [d1, d2] => { results := [.lit (.bool false)], args := [d1, d2] }
  | _ => none }
def TapeSyncsWrongFalsely : Prop := tapeSyncsRow.holds Try.pinned (OpenSpec.ofChange tapeSyncsWrong)

/-- 'ferrulelaw03.TapeReads': WHATEVER THE INPUT: true; the input reads as it did. -/
def tapeReadsSpec : ChangeSpec := { name := "tapeReads", fn := fun _ => fun
  | [d] => { results := [.lit (.bool true)], args := [d] }
  | _ => none }
def tapeReadsRow : OpenClaim := { program := "ytofdgkcaimifkaa", sum := "41134843ec17cd2ef098fa7792f9515d9e1b95f8d196e0d9949d92ace9e8de3e", func := "ferrule/ferrulelaw03.TapeReads", spec := "tapeReads", unfollowed := true, recurses := true, apart := false }
def TapeReadsSaid : Prop := tapeReadsRow.holds Try.pinned (OpenSpec.ofChange tapeReadsSpec)

/-- ITS FALSE NEIGHBOUR: 'it returns false'. Refute it at one input. -/
def tapeReadsWrong : ChangeSpec := { name := "tapeReads", fn := fun _ => fun
  | [d] => { results := [.lit (.bool false)], args := [d] }
  | _ => none }
def TapeReadsWrongFalsely : Prop := tapeReadsRow.holds Try.pinned (OpenSpec.ofChange tapeReadsWrong)

/-- 'ferrulelaw03.TapePower': WHATEVER THE INPUT: true; the input reads as it did. -/
def tapePowerSpec : ChangeSpec := { name := "tapePower", fn := fun _ => fun
  | [d1, d2] => { results := [.lit (.bool true)], args := [d1, d2] }
  | _ => none }
def tapePowerRow : OpenClaim := { program := "ytofdgkcaimifkaa", sum := "41134843ec17cd2ef098fa7792f9515d9e1b95f8d196e0d9949d92ace9e8de3e", func := "ferrule/ferrulelaw03.TapePower", spec := "tapePower", unfollowed := true, recurses := true, apart := false }
def TapePowerSaid : Prop := tapePowerRow.holds Try.pinned (OpenSpec.ofChange tapePowerSpec)

/-- ITS FALSE NEIGHBOUR: 'it returns false'. Refute it at one input. -/
def tapePowerWrong : ChangeSpec := { name := "tapePower", fn := fun _ => fun
  | [d1, d2] => { results := [.lit (.bool false)], args := [d1, d2] }
  | _ => none }
def TapePowerWrongFalsely : Prop := tapePowerRow.holds Try.pinned (OpenSpec.ofChange tapePowerWrong)

/-- 'ferrulelaw03.TapeLasts': WHATEVER THE INPUT: true; the input reads as it did. -/
def tapeLastsSpec : ChangeSpec := { name := "tapeLasts", fn := fun _ => fun
  | [d] => { results := [.lit (.bool true)], args := [d] }
  | _ => none }
def tapeLastsRow : OpenClaim := { program := "ytofdgkcaimifkaa", sum := "41134843ec17cd2ef098fa7792f9515d9e1b95f8d196e0d9949d92ace9e8de3e", func := "ferrule/ferrulelaw03.TapeLasts", spec := "tapeLasts", unfollowed := true, recurses := true, apart := false }
def TapeLastsSaid : Prop := tapeLastsRow.holds Try.pinned (OpenSpec.ofChange tapeLastsSpec)

/-- ITS FALSE NEIGHBOUR: 'it returns false'. Refute it at one input. -/
def tapeLastsWrong : ChangeSpec := { name := "tapeLasts", fn := fun _ => fun
  | [d] => { results := [.lit (.bool false)], args := [d] }
  | _ => none }
def TapeLastsWrongFalsely : Prop := tapeLastsRow.holds Try.pinned (OpenSpec.ofChange tapeLastsWrong)

/- THE SECOND FORM. 'bulk': how many values and letters a reading holds, each counted each time it is reached (what is shared counts as often as it is met; a slice's spare places count too). A statement '..UptoSaid' is the law's where the arguments, and the package variables that the reading takes, are together of bulk at most 1048576: NARROWER than '..Said'. Prove '..Said' where nothing that the law and all that it calls make is longer than what came in: it says more and counts as full. Else prove '..UptoSaid'. A law counts once. -/
mutual
def uptoBulk {H : Type} : DataW H → Nat
  | .lit (.string bytes) => bytes.length + 1
  | .lit _ => 1
  | .nil => 1
  | .ptr d => uptoBulk d + 1
  | .slice elems spare => uptoBulkAll elems + uptoBulkAll spare + 1
  | .agg parts => uptoBulkAll parts + 1
  | .iface _ d => uptoBulk d + 1
  | .map entries => uptoBulkEntries entries + 1
  | .held _ => 1
def uptoBulkAll {H : Type} : List (DataW H) → Nat
  | [] => 0
  | d :: r => uptoBulk d + uptoBulkAll r
def uptoBulkEntries {H : Type} : List (Lit × DataW H) → Nat
  | [] => 0
  | x :: r => uptoBulkEntry x + uptoBulkEntries r
def uptoBulkEntry {H : Type} : Lit × DataW H → Nat
  | (.string bytes, d) => bytes.length + uptoBulk d + 1
  | (_, d) => uptoBulk d + 1
 end
def uptoSmall : (H : Type) → List (DataW H) → Bool := fun _ ds => decide (uptoBulkAll ds ≤ 1048576)
def OpenSpec.upto (s : _root_.Go.ChangeSpec) : _root_.Go.OpenSpec := { _root_.Go.OpenSpec.ofChange s with cond := some uptoSmall }

/-- 'ferrulelaw03.TapeWrites', WHERE WHAT IT READS IS OF BULK AT MOST 1048576: true; the input reads as it did. -/
def tapeWritesUptoRow : OpenClaim := { program := "ytofdgkcaimifkaa", sum := "41134843ec17cd2ef098fa7792f9515d9e1b95f8d196e0d9949d92ace9e8de3e", func := "ferrule/ferrulelaw03.TapeWrites", spec := "tapeWrites", unfollowed := true, recurses := true, apart := false, narrowed := true }
def TapeWritesUptoSaid : Prop := tapeWritesUptoRow.holds Try.pinned (OpenSpec.upto tapeWritesSpec)

/-- 'ferrulelaw03.TapeCrashes', WHERE WHAT IT READS IS OF BULK AT MOST 1048576: true; the input reads as it did. -/
def tapeCrashesUptoRow : OpenClaim := { program := "ytofdgkcaimifkaa", sum := "41134843ec17cd2ef098fa7792f9515d9e1b95f8d196e0d9949d92ace9e8de3e", func := "ferrule/ferrulelaw03.TapeCrashes", spec := "tapeCrashes", unfollowed := true, recurses := true, apart := false, narrowed := true }
def TapeCrashesUptoSaid : Prop := tapeCrashesUptoRow.holds Try.pinned (OpenSpec.upto tapeCrashesSpec)

/-- 'ferrulelaw03.TapeSyncs', WHERE WHAT IT READS IS OF BULK AT MOST 1048576: true; the input reads as it did. -/
def tapeSyncsUptoRow : OpenClaim := { program := "ytofdgkcaimifkaa", sum := "41134843ec17cd2ef098fa7792f9515d9e1b95f8d196e0d9949d92ace9e8de3e", func := "ferrule/ferrulelaw03.TapeSyncs", spec := "tapeSyncs", unfollowed := true, recurses := true, apart := false, narrowed := true }
def TapeSyncsUptoSaid : Prop := tapeSyncsUptoRow.holds Try.pinned (OpenSpec.upto tapeSyncsSpec)

/-- 'ferrulelaw03.TapeReads', WHERE WHAT IT READS IS OF BULK AT MOST 1048576: true; the input reads as it did. -/
def tapeReadsUptoRow : OpenClaim := { program := "ytofdgkcaimifkaa", sum := "41134843ec17cd2ef098fa7792f9515d9e1b95f8d196e0d9949d92ace9e8de3e", func := "ferrule/ferrulelaw03.TapeReads", spec := "tapeReads", unfollowed := true, recurses := true, apart := false, narrowed := true }
def TapeReadsUptoSaid : Prop := tapeReadsUptoRow.holds Try.pinned (OpenSpec.upto tapeReadsSpec)

/-- 'ferrulelaw03.TapePower', WHERE WHAT IT READS IS OF BULK AT MOST 1048576: true; the input reads as it did. -/
def tapePowerUptoRow : OpenClaim := { program := "ytofdgkcaimifkaa", sum := "41134843ec17cd2ef098fa7792f9515d9e1b95f8d196e0d9949d92ace9e8de3e", func := "ferrule/ferrulelaw03.TapePower", spec := "tapePower", unfollowed := true, recurses := true, apart := false, narrowed := true }
def TapePowerUptoSaid : Prop := tapePowerUptoRow.holds Try.pinned (OpenSpec.upto tapePowerSpec)

/-- 'ferrulelaw03.TapeLasts', WHERE WHAT IT READS IS OF BULK AT MOST 1048576: true; the input reads as it did. -/
def tapeLastsUptoRow : OpenClaim := { program := "ytofdgkcaimifkaa", sum := "41134843ec17cd2ef098fa7792f9515d9e1b95f8d196e0d9949d92ace9e8de3e", func := "ferrule/ferrulelaw03.TapeLasts", spec := "tapeLasts", unfollowed := true, recurses := true, apart := false, narrowed := true }
def TapeLastsUptoSaid : Prop := tapeLastsUptoRow.holds Try.pinned (OpenSpec.upto tapeLastsSpec)

end Rows
end Go.Proofs.Ytofdgkcaimifkaa
