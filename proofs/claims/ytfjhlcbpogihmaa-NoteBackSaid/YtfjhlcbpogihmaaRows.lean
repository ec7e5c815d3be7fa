/-
  No cell of these rows narrows 'for every input' (looked for: loops, veiled, ifaces, maps, wideKeys, modest, calm, conditions, laid).
  DERIVED. THE GIVEN ROWS OF THIS SEAT. 11 by the template 'for every input the law returns true; each argument reads behind the call as it read before'; 0 by the template 'total and deterministic' (their statements: YtfjhlcbpogihmaaTotals.lean).
  GIVEN WITH THE SEED: the statements are not yours to turn. If you find one false, say at which input.
  Laid BY PROGRAM, IN A SANDBOX (cutbox-rows.mjs): the forced cells as the released guide's own fill.sh prints them over the translation 390be179036a4c91… (all of the seat's roots in one cut). By AI agents, Wed Nov 11 2026. No macro, syntax, notation, axiom, sorry.
-/
import Derived.Test.YtfjhlcbpogihmaaChecked
import GoSem.Claim
import GoSem.ClaimJoined
import GoSem.ClaimMapViews
import Derived.JoinedTies
import Derived.KernelRfl
namespace Go.Proofs.Ytfjhlcbpogihmaa
/- THE CELL 'sum', in the pinned program and in every row, IS THE sha256 OF THE DUMP (.gsa) THAT YtfjhlcbpogihmaaProg.lean LOADS. Nothing in Lean hashes anything: it is a label: what it is worth is what the hold of that sum in a sandbox is worth. -/
noncomputable def Try.pinned : Pinned := { name := "ytfjhlcbpogihmaa", sum := "390be179036a4c91d6e58180806e727ec6629e7e8fd22160e87b4095f5a64df6", checked := Try.checked }
namespace Rows
def none {H : Type} : Left H := { results := [], args := [] }

/-- 'ferrulelaw04.NoteFolds': WHATEVER THE INPUT: true; the input reads as it did. -/
def noteFoldsSpec : ChangeSpec := { name := "noteFolds", fn := fun _ => fun
  | [d] => { results := [.lit (.bool true)], args := [d] }
  | _ => none }
def noteFoldsRow : OpenClaim := { program := "ytfjhlcbpogihmaa", sum := "390be179036a4c91d6e58180806e727ec6629e7e8fd22160e87b4095f5a64df6", func := "ferrule/ferrulelaw04.NoteFolds", spec := "noteFolds", apart := false }
def NoteFoldsSaid : Prop := noteFoldsRow.holds Try.pinned (OpenSpec.ofChange noteFoldsSpec)

/-- ITS FALSE NEIGHBOUR: 'it returns false'. Refute it at one input. -/
def noteFoldsWrong : ChangeSpec := { name := "noteFolds", fn := fun _ => fun
  | [d] => { results := [.lit (.bool false)], args := [d] }
  | _ => none }
def NoteFoldsWrongFalsely : Prop := noteFoldsRow.holds Try.pinned (OpenSpec.ofChange noteFoldsWrong)

/-- 'ferrulelaw04.NoteLasts': WHATEVER THE INPUT: true; the input reads as it did. -/
def noteLastsSpec : ChangeSpec := { name := "noteLasts", fn := fun _ => fun
  | [d1, d2, d3] => { results := [.lit (.bool true)], args := [d1, d2, d3] }
  | _ => none }
def noteLastsRow : OpenClaim := { program := "ytfjhlcbpogihmaa", sum := "390be179036a4c91d6e58180806e727ec6629e7e8fd22160e87b4095f5a64df6", func := "ferrule/ferrulelaw04.NoteLasts", spec := "noteLasts", inPlace := ["internal/abi.NoEscape"], unfollowed := true, recurses := true, apart := false }
def NoteLastsSaid : Prop := noteLastsRow.holds Try.pinned (OpenSpec.ofChange noteLastsSpec)

/-- ITS FALSE NEIGHBOUR: 'it returns false'. Refute it at one input. -/
def noteLastsWrong : ChangeSpec := { name := "noteLasts", fn := fun _ => fun
  | [d1, d2, d3] => { results := [.lit (.bool false)], args := [d1, d2, d3] }
  | _ => none }
def NoteLastsWrongFalsely : Prop := noteLastsRow.holds Try.pinned (OpenSpec.ofChange noteLastsWrong)

/-- 'ferrulelaw04.NoteBack': WHATEVER THE INPUT: true; the input reads as it did. -/
def noteBackSpec : ChangeSpec := { name := "noteBack", fn := fun _ => fun
  | [d] => { results := [.lit (.bool true)], args := [d] }
  | _ => none }
def noteBackRow : OpenClaim := { program := "ytfjhlcbpogihmaa", sum := "390be179036a4c91d6e58180806e727ec6629e7e8fd22160e87b4095f5a64df6", func := "ferrule/ferrulelaw04.NoteBack", spec := "noteBack", inPlace := ["internal/abi.NoEscape"], unfollowed := true, recurses := true, apart := false }
def NoteBackSaid : Prop := noteBackRow.holds Try.pinned (OpenSpec.ofChange noteBackSpec)

/-- ITS FALSE NEIGHBOUR: 'it returns false'. Refute it at one input. -/
def noteBackWrong : ChangeSpec := { name := "noteBack", fn := fun _ => fun
  | [d] => { results := [.lit (.bool false)], args := [d] }
  | _ => none }
def NoteBackWrongFalsely : Prop := noteBackRow.holds Try.pinned (OpenSpec.ofChange noteBackWrong)

/-- 'ferrulelaw04.NoteLeast': WHATEVER THE INPUT: true; the input reads as it did. -/
def noteLeastSpec : ChangeSpec := { name := "noteLeast", fn := fun _ => fun
  | [d] => { results := [.lit (.bool true)], args := [d] }
  | _ => none }
def noteLeastRow : OpenClaim := { program := "ytfjhlcbpogihmaa", sum := "390be179036a4c91d6e58180806e727ec6629e7e8fd22160e87b4095f5a64df6", func := "ferrule/ferrulelaw04.NoteLeast", spec := "noteLeast", apart := false }
def NoteLeastSaid : Prop := noteLeastRow.holds Try.pinned (OpenSpec.ofChange noteLeastSpec)

/-- ITS FALSE NEIGHBOUR: 'it returns false'. Refute it at one input. -/
def noteLeastWrong : ChangeSpec := { name := "noteLeast", fn := fun _ => fun
  | [d] => { results := [.lit (.bool false)], args := [d] }
  | _ => none }
def NoteLeastWrongFalsely : Prop := noteLeastRow.holds Try.pinned (OpenSpec.ofChange noteLeastWrong)

/-- 'ferrulelaw17.PostBytes': WHATEVER THE INPUT: true; the input reads as it did. -/
def postBytesSpec : ChangeSpec := { name := "postBytes", fn := fun _ => fun
  | [d] => { results := [.lit (.bool true)], args := [d] }
  | _ => none }
def postBytesRow : OpenClaim := { program := "ytfjhlcbpogihmaa", sum := "390be179036a4c91d6e58180806e727ec6629e7e8fd22160e87b4095f5a64df6", func := "ferrule/ferrulelaw17.PostBytes", spec := "postBytes", inPlace := ["internal/abi.NoEscape"], unfollowed := true, recurses := true, apart := false }
def PostBytesSaid : Prop := postBytesRow.holds Try.pinned (OpenSpec.ofChange postBytesSpec)

/-- ITS FALSE NEIGHBOUR: 'it returns false'. Refute it at one input. -/
def postBytesWrong : ChangeSpec := { name := "postBytes", fn := fun _ => fun
  | [d] => { results := [.lit (.bool false)], args := [d] }
  | _ => none }
def PostBytesWrongFalsely : Prop := postBytesRow.holds Try.pinned (OpenSpec.ofChange postBytesWrong)

/-- 'ferrulelaw17.PostApart': WHATEVER THE INPUT: true; the input reads as it did. -/
def postApartSpec : ChangeSpec := { name := "postApart", fn := fun _ => fun
  | [d1, d2] => { results := [.lit (.bool true)], args := [d1, d2] }
  | _ => none }
def postApartRow : OpenClaim := { program := "ytfjhlcbpogihmaa", sum := "390be179036a4c91d6e58180806e727ec6629e7e8fd22160e87b4095f5a64df6", func := "ferrule/ferrulelaw17.PostApart", spec := "postApart", inPlace := ["internal/abi.NoEscape"], unfollowed := true, recurses := true, apart := false }
def PostApartSaid : Prop := postApartRow.holds Try.pinned (OpenSpec.ofChange postApartSpec)

/-- ITS FALSE NEIGHBOUR: 'it returns false'. Refute it at one input. -/
def postApartWrong : ChangeSpec := { name := "postApart", fn := fun _ => fun
  | [d1, d2] => { results := [.lit (.bool false)], args := [d1, d2] }
  | _ => none }
def PostApartWrongFalsely : Prop := postApartRow.holds Try.pinned (OpenSpec.ofChange postApartWrong)

/-- 'ferrulelaw04.NoteBytes': WHATEVER THE INPUT: true; the input reads as it did. -/
def noteBytesSpec : ChangeSpec := { name := "noteBytes", fn := fun _ => fun
  | [d] => { results := [.lit (.bool true)], args := [d] }
  | _ => none }
def noteBytesRow : OpenClaim := { program := "ytfjhlcbpogihmaa", sum := "390be179036a4c91d6e58180806e727ec6629e7e8fd22160e87b4095f5a64df6", func := "ferrule/ferrulelaw04.NoteBytes", spec := "noteBytes", inPlace := ["internal/abi.NoEscape"], apart := false }
def NoteBytesSaid : Prop := noteBytesRow.holds Try.pinned (OpenSpec.ofChange noteBytesSpec)

/-- ITS FALSE NEIGHBOUR: 'it returns false'. Refute it at one input. -/
def noteBytesWrong : ChangeSpec := { name := "noteBytes", fn := fun _ => fun
  | [d] => { results := [.lit (.bool false)], args := [d] }
  | _ => none }
def NoteBytesWrongFalsely : Prop := noteBytesRow.holds Try.pinned (OpenSpec.ofChange noteBytesWrong)

/-- 'ferrulelaw17.PostSame': WHATEVER THE INPUT: true; the input reads as it did. -/
def postSameSpec : ChangeSpec := { name := "postSame", fn := fun _ => fun
  | [d1, d2] => { results := [.lit (.bool true)], args := [d1, d2] }
  | _ => none }
def postSameRow : OpenClaim := { program := "ytfjhlcbpogihmaa", sum := "390be179036a4c91d6e58180806e727ec6629e7e8fd22160e87b4095f5a64df6", func := "ferrule/ferrulelaw17.PostSame", spec := "postSame", inPlace := ["internal/abi.NoEscape"], unfollowed := true, recurses := true, apart := false }
def PostSameSaid : Prop := postSameRow.holds Try.pinned (OpenSpec.ofChange postSameSpec)

/-- ITS FALSE NEIGHBOUR: 'it returns false'. Refute it at one input. -/
def postSameWrong : ChangeSpec := { name := "postSame", fn := fun _ => fun
  | [d1, d2] => { results := [.lit (.bool false)], args := [d1, d2] }
  | _ => none }
def PostSameWrongFalsely : Prop := postSameRow.holds Try.pinned (OpenSpec.ofChange postSameWrong)

/-- 'ferrulelaw04.NoteReads': WHATEVER THE INPUT: true; the input reads as it did. -/
def noteReadsSpec : ChangeSpec := { name := "noteReads", fn := fun _ => fun
  | [d] => { results := [.lit (.bool true)], args := [d] }
  | _ => none }
def noteReadsRow : OpenClaim := { program := "ytfjhlcbpogihmaa", sum := "390be179036a4c91d6e58180806e727ec6629e7e8fd22160e87b4095f5a64df6", func := "ferrule/ferrulelaw04.NoteReads", spec := "noteReads", unfollowed := true, recurses := true, apart := false }
def NoteReadsSaid : Prop := noteReadsRow.holds Try.pinned (OpenSpec.ofChange noteReadsSpec)

/-- ITS FALSE NEIGHBOUR: 'it returns false'. Refute it at one input. -/
def noteReadsWrong : ChangeSpec := { name := "noteReads", fn := fun _ => fun
  | [d] => { results := [.lit (.bool false)], args := [d] }
  | _ => none }
def NoteReadsWrongFalsely : Prop := noteReadsRow.holds Try.pinned (OpenSpec.ofChange noteReadsWrong)

/-- 'ferrulelaw17.PostTakes': WHATEVER THE INPUT: true; the input reads as it did. -/
def postTakesSpec : ChangeSpec := { name := "postTakes", fn := fun _ => fun
  | [d] => { results := [.lit (.bool true)], args := [d] }
  | _ => none }
def postTakesRow : OpenClaim := { program := "ytfjhlcbpogihmaa", sum := "390be179036a4c91d6e58180806e727ec6629e7e8fd22160e87b4095f5a64df6", func := "ferrule/ferrulelaw17.PostTakes", spec := "postTakes", inPlace := ["internal/abi.NoEscape"], unfollowed := true, recurses := true, apart := false }
def PostTakesSaid : Prop := postTakesRow.holds Try.pinned (OpenSpec.ofChange postTakesSpec)

/-- ITS FALSE NEIGHBOUR: 'it returns false'. Refute it at one input. -/
def postTakesWrong : ChangeSpec := { name := "postTakes", fn := fun _ => fun
  | [d] => { results := [.lit (.bool false)], args := [d] }
  | _ => none }
def PostTakesWrongFalsely : Prop := postTakesRow.holds Try.pinned (OpenSpec.ofChange postTakesWrong)

/-- 'ferrulelaw17.PostBack': WHATEVER THE INPUT: true; the input reads as it did. -/
def postBackSpec : ChangeSpec := { name := "postBack", fn := fun _ => fun
  | [d1, d2] => { results := [.lit (.bool true)], args := [d1, d2] }
  | _ => none }
def postBackRow : OpenClaim := { program := "ytfjhlcbpogihmaa", sum := "390be179036a4c91d6e58180806e727ec6629e7e8fd22160e87b4095f5a64df6", func := "ferrule/ferrulelaw17.PostBack", spec := "postBack", inPlace := ["internal/abi.NoEscape"], unfollowed := true, recurses := true, apart := false }
def PostBackSaid : Prop := postBackRow.holds Try.pinned (OpenSpec.ofChange postBackSpec)

/-- ITS FALSE NEIGHBOUR: 'it returns false'. Refute it at one input. -/
def postBackWrong : ChangeSpec := { name := "postBack", fn := fun _ => fun
  | [d1, d2] => { results := [.lit (.bool false)], args := [d1, d2] }
  | _ => none }
def PostBackWrongFalsely : Prop := postBackRow.holds Try.pinned (OpenSpec.ofChange postBackWrong)

/- THE SECOND FORM. 'bulk': how many values and letters a reading holds, each counted each time it is reached (what is shared counts as often as it is met; a slice's spare places count too). A statement '..UptoSaid' is the law's where the arguments, and the package variables that the reading takes, are together of bulk at most 1048576: NARROWER than '..Said'. Prove '..Said' where nothing that the law and all that it calls make is longer than what came in: it says more and counts as full. Else prove '..UptoSaid'. A law counts once. -/
mutual
def uptoBulk {H : Type} : DataW H → Nat
  | .lit (.string bytes) => bytes.length + 1
  | .lit _ => 1
  | .nil => 1
  | .ptr d => uptoBulk d + 1
  | .slice elems spare => uptoBulkAll elems + uptoBulkAll spare + 1
  | .agg parts => uptoBulkAll parts + 1
  | .iface _ d => uptoBulk d + 1
  | .map entries => uptoBulkEntries entries + 1
  | .held _ => 1
def uptoBulkAll {H : Type} : List (DataW H) → Nat
  | [] => 0
  | d :: r => uptoBulk d + uptoBulkAll r
def uptoBulkEntries {H : Type} : List (Lit × DataW H) → Nat
  | [] => 0
  | x :: r => uptoBulkEntry x + uptoBulkEntries r
def uptoBulkEntry {H : Type} : Lit × DataW H → Nat
  | (.string bytes, d) => bytes.length + uptoBulk d + 1
  | (_, d) => uptoBulk d + 1
 end
def uptoSmall : (H : Type) → List (DataW H) → Bool := fun _ ds => decide (uptoBulkAll ds ≤ 1048576)
def OpenSpec.upto (s : _root_.Go.ChangeSpec) : _root_.Go.OpenSpec := { _root_.Go.OpenSpec.ofChange s with cond := some uptoSmall }

/-- 'ferrulelaw04.NoteFolds', WHERE WHAT IT READS IS OF BULK AT MOST 1048576: true; the input reads as it did. -/
def noteFoldsUptoRow : OpenClaim := { program := "ytfjhlcbpogihmaa", sum := "390be179036a4c91d6e58180806e727ec6629e7e8fd22160e87b4095f5a64df6", func := "ferrule/ferrulelaw04.NoteFolds", spec := "noteFolds", apart := false, narrowed := true }
def NoteFoldsUptoSaid : Prop := noteFoldsUptoRow.holds Try.pinned (OpenSpec.upto noteFoldsSpec)

/-- 'ferrulelaw04.NoteLasts', WHERE WHAT IT READS IS OF BULK AT MOST 1048576: true; the input reads as it did. -/
def noteLastsUptoRow : OpenClaim := { program := "ytfjhlcbpogihmaa", sum := "390be179036a4c91d6e58180806e727ec6629e7e8fd22160e87b4095f5a64df6", func := "ferrule/ferrulelaw04.NoteLasts", spec := "noteLasts", inPlace := ["internal/abi.NoEscape"], unfollowed := true, recurses := true, apart := false, narrowed := true }
def NoteLastsUptoSaid : Prop := noteLastsUptoRow.holds Try.pinned (OpenSpec.upto noteLastsSpec)

/-- 'ferrulelaw04.NoteBack', WHERE WHAT IT READS IS OF BULK AT MOST 1048576: true; the input reads as it did. -/
def noteBackUptoRow : OpenClaim := { program := "ytfjhlcbpogihmaa", sum := "390be179036a4c91d6e58180806e727ec6629e7e8fd22160e87b4095f5a64df6", func := "ferrule/ferrulelaw04.NoteBack", spec := "noteBack", inPlace := ["internal/abi.NoEscape"], unfollowed := true, recurses := true, apart := false, narrowed := true }
def NoteBackUptoSaid : Prop := noteBackUptoRow.holds Try.pinned (OpenSpec.upto noteBackSpec)

/-- 'ferrulelaw04.NoteLeast', WHERE WHAT IT READS IS OF BULK AT MOST 1048576: true; the input reads as it did. -/
def noteLeastUptoRow : OpenClaim := { program := "ytfjhlcbpogihmaa", sum := "390be179036a4c91d6e58180806e727ec6629e7e8fd22160e87b4095f5a64df6", func := "ferrule/ferrulelaw04.NoteLeast", spec := "noteLeast", apart := false, narrowed := true }
def NoteLeastUptoSaid : Prop := noteLeastUptoRow.holds Try.pinned (OpenSpec.upto noteLeastSpec)

/-- 'ferrulelaw17.PostBytes', WHERE WHAT IT READS IS OF BULK AT MOST 1048576: true; the input reads as it did. -/
def postBytesUptoRow : OpenClaim := { program := "ytfjhlcbpogihmaa", sum := "390be179036a4c91d6e58180806e727ec6629e7e8fd22160e87b4095f5a64df6", func := "ferrule/ferrulelaw17.PostBytes", spec := "postBytes", inPlace := ["internal/abi.NoEscape"], unfollowed := true, recurses := true, apart := false, narrowed := true }
def PostBytesUptoSaid : Prop := postBytesUptoRow.holds Try.pinned (OpenSpec.upto postBytesSpec)

/-- 'ferrulelaw17.PostApart', WHERE WHAT IT READS IS OF BULK AT MOST 1048576: true; the input reads as it did. -/
def postApartUptoRow : OpenClaim := { program := "ytfjhlcbpogihmaa", sum := "390be179036a4c91d6e58180806e727ec6629e7e8fd22160e87b4095f5a64df6", func := "ferrule/ferrulelaw17.PostApart", spec := "postApart", inPlace := ["internal/abi.NoEscape"], unfollowed := true, recurses := true, apart := false, narrowed := true }
def PostApartUptoSaid : Prop := postApartUptoRow.holds Try.pinned (OpenSpec.upto postApartSpec)

/-- 'ferrulelaw04.NoteBytes', WHERE WHAT IT READS IS OF BULK AT MOST 1048576: true; the input reads as it did. -/
def noteBytesUptoRow : OpenClaim := { program := "ytfjhlcbpogihmaa", sum := "390be179036a4c91d6e58180806e727ec6629e7e8fd22160e87b4095f5a64df6", func := "ferrule/ferrulelaw04.NoteBytes", spec := "noteBytes", inPlace := ["internal/abi.NoEscape"], apart := false, narrowed := true }
def NoteBytesUptoSaid : Prop := noteBytesUptoRow.holds Try.pinned (OpenSpec.upto noteBytesSpec)

/-- 'ferrulelaw17.PostSame', WHERE WHAT IT READS IS OF BULK AT MOST 1048576: true; the input reads as it did. -/
def postSameUptoRow : OpenClaim := { program := "ytfjhlcbpogihmaa", sum := "390be179036a4c91d6e58180806e727ec6629e7e8fd22160e87b4095f5a64df6", func := "ferrule/ferrulelaw17.PostSame", spec := "postSame", inPlace := ["internal/abi.NoEscape"], unfollowed := true, recurses := true, apart := false, narrowed := true }
def PostSameUptoSaid : Prop := postSameUptoRow.holds Try.pinned (OpenSpec.upto postSameSpec)

/-- 'ferrulelaw04.NoteReads', WHERE WHAT IT READS IS OF BULK AT MOST 1048576: true; the input reads as it did. -/
def noteReadsUptoRow : OpenClaim := { program := "ytfjhlcbpogihmaa", sum := "390be179036a4c91d6e58180806e727ec6629e7e8fd22160e87b4095f5a64df6", func := "ferrule/ferrulelaw04.NoteReads", spec := "noteReads", unfollowed := true, recurses := true, apart := false, narrowed := true }
def NoteReadsUptoSaid : Prop := noteReadsUptoRow.holds Try.pinned (OpenSpec.upto noteReadsSpec)

/-- 'ferrulelaw17.PostTakes', WHERE WHAT IT READS IS OF BULK AT MOST 1048576: true; the input reads as it did. -/
def postTakesUptoRow : OpenClaim := { program := "ytfjhlcbpogihmaa", sum := "390be179036a4c91d6e58180806e727ec6629e7e8fd22160e87b4095f5a64df6", func := "ferrule/ferrulelaw17.PostTakes", spec := "postTakes", inPlace := ["internal/abi.NoEscape"], unfollowed := true, recurses := true, apart := false, narrowed := true }
def PostTakesUptoSaid : Prop := postTakesUptoRow.holds Try.pinned (OpenSpec.upto postTakesSpec)

/-- 'ferrulelaw17.PostBack', WHERE WHAT IT READS IS OF BULK AT MOST 1048576: true; the input reads as it did. -/
def postBackUptoRow : OpenClaim := { program := "ytfjhlcbpogihmaa", sum := "390be179036a4c91d6e58180806e727ec6629e7e8fd22160e87b4095f5a64df6", func := "ferrule/ferrulelaw17.PostBack", spec := "postBack", inPlace := ["internal/abi.NoEscape"], unfollowed := true, recurses := true, apart := false, narrowed := true }
def PostBackUptoSaid : Prop := postBackUptoRow.holds Try.pinned (OpenSpec.upto postBackSpec)

end Rows
end Go.Proofs.Ytfjhlcbpogihmaa
