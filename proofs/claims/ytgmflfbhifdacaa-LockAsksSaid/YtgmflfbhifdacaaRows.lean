/-
  No cell of these rows narrows 'for every input' (looked for: loops, veiled, ifaces, maps, wideKeys, modest, calm, conditions, laid).
  DERIVED. THE GIVEN ROWS OF THIS SEAT. 6 by the template 'for every input the law returns true; each argument reads behind the call as it read before'; 0 by the template 'total and deterministic' (their statements: YtgmflfbhifdacaaTotals.lean).
  GIVEN WITH THE SEED: the statements are not yours to turn. If you find one false, say at which input.
  Laid BY PROGRAM, IN A SANDBOX (cutbox-rows.mjs): the forced cells as the released guide's own fill.sh prints them over the translation 2da7ee39d73ca6a9… (all of the seat's roots in one cut). By AI agents, Wed Nov 11 2026. No macro, syntax, notation, axiom, sorry.
-/
import Derived.Test.YtgmflfbhifdacaaChecked
import GoSem.Claim
import GoSem.ClaimJoined
import GoSem.ClaimMapViews
import Derived.JoinedTies
import Derived.KernelRfl
namespace Go.Proofs.Ytgmflfbhifdacaa
/- THE CELL 'sum', in the pinned program and in every row, IS THE sha256 OF THE DUMP (.gsa) THAT YtgmflfbhifdacaaProg.lean LOADS. Nothing in Lean hashes anything: it is a label: what it is worth is what the hold of that sum in a sandbox is worth. -/
noncomputable def Try.pinned : Pinned := { name := "ytgmflfbhifdacaa", sum := "2da7ee39d73ca6a9a235683e9dc041435f92c3b38d3b09a86f784a7c5c3044cf", checked := Try.checked }
namespace Rows
def none {H : Type} : Left H := { results := [], args := [] }

/-- 'ferrulelaw12.LockAsks': WHATEVER THE INPUT: true; the input reads as it did. -/
def lockAsksSpec : ChangeSpec := { name := "lockAsks", fn := fun _ => fun
  | [d1, d2, d3] => { results := [.lit (.bool true)], args := [d1, d2, d3] }
  | _ => none }
def lockAsksRow : OpenClaim := { program := "ytgmflfbhifdacaa", sum := "2da7ee39d73ca6a9a235683e9dc041435f92c3b38d3b09a86f784a7c5c3044cf", func := "ferrule/ferrulelaw12.LockAsks", spec := "lockAsks", unfollowed := true, recurses := true, plainKeys := false, apart := false }
def LockAsksSaid : Prop := lockAsksRow.holds Try.pinned (OpenSpec.ofChange lockAsksSpec)

/-- ITS FALSE NEIGHBOUR: 'it returns false'. Refute it at one input. -/
def lockAsksWrong : ChangeSpec := { name := "lockAsks", fn := fun _ => fun
  | [d1, d2, d3] => { results := [.lit (.bool false)], args := [d1, d2, d3] }
  | _ => none }
def LockAsksWrongFalsely : Prop := lockAsksRow.holds Try.pinned (OpenSpec.ofChange lockAsksWrong)

/-- 'ferrulelaw12.LockEldest': WHATEVER THE INPUT: true; the input reads as it did. -/
def lockEldestSpec : ChangeSpec := { name := "lockEldest", fn := fun _ => fun
  | [d1, d2, d3] => { results := [.lit (.bool true)], args := [d1, d2, d3] }
  | _ => none }
def lockEldestRow : OpenClaim := { program := "ytgmflfbhifdacaa", sum := "2da7ee39d73ca6a9a235683e9dc041435f92c3b38d3b09a86f784a7c5c3044cf", func := "ferrule/ferrulelaw12.LockEldest", spec := "lockEldest", unfollowed := true, recurses := true, plainKeys := false, apart := false }
def LockEldestSaid : Prop := lockEldestRow.holds Try.pinned (OpenSpec.ofChange lockEldestSpec)

/-- ITS FALSE NEIGHBOUR: 'it returns false'. Refute it at one input. -/
def lockEldestWrong : ChangeSpec := { name := "lockEldest", fn := fun _ => fun
  | [d1, d2, d3] => { results := [.lit (.bool false)], args := [d1, d2, d3] }
  | _ => none }
def LockEldestWrongFalsely : Prop := lockEldestRow.holds Try.pinned (OpenSpec.ofChange lockEldestWrong)

/-- 'ferrulelaw12.LockOrder': WHATEVER THE INPUT: true; the input reads as it did. -/
def lockOrderSpec : ChangeSpec := { name := "lockOrder", fn := fun _ => fun
  | [d1, d2, d3] => { results := [.lit (.bool true)], args := [d1, d2, d3] }
  | _ => none }
def lockOrderRow : OpenClaim := { program := "ytgmflfbhifdacaa", sum := "2da7ee39d73ca6a9a235683e9dc041435f92c3b38d3b09a86f784a7c5c3044cf", func := "ferrule/ferrulelaw12.LockOrder", spec := "lockOrder", unfollowed := true, recurses := true, plainKeys := false, apart := false }
def LockOrderSaid : Prop := lockOrderRow.holds Try.pinned (OpenSpec.ofChange lockOrderSpec)

/-- ITS FALSE NEIGHBOUR: 'it returns false'. Refute it at one input. -/
def lockOrderWrong : ChangeSpec := { name := "lockOrder", fn := fun _ => fun
  | [d1, d2, d3] => { results := [.lit (.bool false)], args := [d1, d2, d3] }
  | _ => none }
def LockOrderWrongFalsely : Prop := lockOrderRow.holds Try.pinned (OpenSpec.ofChange lockOrderWrong)

/-- 'ferrulelaw12.LockRight': WHATEVER THE INPUT: true; the input reads as it did. -/
def lockRightSpec : ChangeSpec := { name := "lockRight", fn := fun _ => fun
  | [d1, d2] => { results := [.lit (.bool true)], args := [d1, d2] }
  | _ => none }
def lockRightRow : OpenClaim := { program := "ytgmflfbhifdacaa", sum := "2da7ee39d73ca6a9a235683e9dc041435f92c3b38d3b09a86f784a7c5c3044cf", func := "ferrule/ferrulelaw12.LockRight", spec := "lockRight", unfollowed := true, recurses := true, plainKeys := false, apart := false }
def LockRightSaid : Prop := lockRightRow.holds Try.pinned (OpenSpec.ofChange lockRightSpec)

/-- ITS FALSE NEIGHBOUR: 'it returns false'. Refute it at one input. -/
def lockRightWrong : ChangeSpec := { name := "lockRight", fn := fun _ => fun
  | [d1, d2] => { results := [.lit (.bool false)], args := [d1, d2] }
  | _ => none }
def LockRightWrongFalsely : Prop := lockRightRow.holds Try.pinned (OpenSpec.ofChange lockRightWrong)

/-- 'ferrulelaw12.LockWounds': WHATEVER THE INPUT: true; the input reads as it did. -/
def lockWoundsSpec : ChangeSpec := { name := "lockWounds", fn := fun _ => fun
  | [d] => { results := [.lit (.bool true)], args := [d] }
  | _ => none }
def lockWoundsRow : OpenClaim := { program := "ytgmflfbhifdacaa", sum := "2da7ee39d73ca6a9a235683e9dc041435f92c3b38d3b09a86f784a7c5c3044cf", func := "ferrule/ferrulelaw12.LockWounds", spec := "lockWounds", unfollowed := true, recurses := true, plainKeys := false, apart := false }
def LockWoundsSaid : Prop := lockWoundsRow.holds Try.pinned (OpenSpec.ofChange lockWoundsSpec)

/-- ITS FALSE NEIGHBOUR: 'it returns false'. Refute it at one input. -/
def lockWoundsWrong : ChangeSpec := { name := "lockWounds", fn := fun _ => fun
  | [d] => { results := [.lit (.bool false)], args := [d] }
  | _ => none }
def LockWoundsWrongFalsely : Prop := lockWoundsRow.holds Try.pinned (OpenSpec.ofChange lockWoundsWrong)

/-- 'ferrulelaw12.LockTells': WHATEVER THE INPUT: true; the input reads as it did. -/
def lockTellsSpec : ChangeSpec := { name := "lockTells", fn := fun _ => fun
  | [d1, d2, d3] => { results := [.lit (.bool true)], args := [d1, d2, d3] }
  | _ => none }
def lockTellsRow : OpenClaim := { program := "ytgmflfbhifdacaa", sum := "2da7ee39d73ca6a9a235683e9dc041435f92c3b38d3b09a86f784a7c5c3044cf", func := "ferrule/ferrulelaw12.LockTells", spec := "lockTells", unfollowed := true, recurses := true, plainKeys := false, apart := false }
def LockTellsSaid : Prop := lockTellsRow.holds Try.pinned (OpenSpec.ofChange lockTellsSpec)

/-- ITS FALSE NEIGHBOUR: 'it returns false'. Refute it at one input. -/
def lockTellsWrong : ChangeSpec := { name := "lockTells", fn := fun _ => fun
  | [d1, d2, d3] => { results := [.lit (.bool false)], args := [d1, d2, d3] }
  | _ => none }
def LockTellsWrongFalsely : Prop := lockTellsRow.holds Try.pinned (OpenSpec.ofChange lockTellsWrong)

/- THE SECOND FORM. 'bulk': how many values and letters a reading holds, each counted each time it is reached (what is shared counts as often as it is met; a slice's spare places count too). A statement '..UptoSaid' is the law's where the arguments, and the package variables that the reading takes, are together of bulk at most 1048576: NARROWER than '..Said'. Prove '..Said' where nothing that the law and all that it calls make is longer than what came in: it says more and counts as full. Else prove '..UptoSaid'. A law counts once. -/
mutual
def uptoBulk {H : Type} : DataW H → Nat
  | .lit (.string bytes) => bytes.length + 1
  | .lit _ => 1
  | .nil => 1
  | .ptr d => uptoBulk d + 1
  | .slice elems spare => uptoBulkAll elems + uptoBulkAll spare + 1
  | .agg parts => uptoBulkAll parts + 1
  | .iface _ d => uptoBulk d + 1
  | .map entries => uptoBulkEntries entries + 1
  | .held _ => 1
def uptoBulkAll {H : Type} : List (DataW H) → Nat
  | [] => 0
  | d :: r => uptoBulk d + uptoBulkAll r
def uptoBulkEntries {H : Type} : List (Lit × DataW H) → Nat
  | [] => 0
  | x :: r => uptoBulkEntry x + uptoBulkEntries r
def uptoBulkEntry {H : Type} : Lit × DataW H → Nat
  | (.string bytes, d) => bytes.length + uptoBulk d + 1
  | (_, d) => uptoBulk d + 1
 end
def uptoSmall : (H : Type) → List (DataW H) → Bool := fun _ ds => decide (uptoBulkAll ds ≤ 1048576)
def OpenSpec.upto (s : _root_.Go.ChangeSpec) : _root_.Go.OpenSpec := { _root_.Go.OpenSpec.ofChange s with cond := some uptoSmall }

/-- 'ferrulelaw12.LockAsks', WHERE WHAT IT READS IS OF BULK AT MOST 1048576: true; the input reads as it did. -/
def lockAsksUptoRow : OpenClaim := { program := "ytgmflfbhifdacaa", sum := "2da7ee39d73ca6a9a235683e9dc041435f92c3b38d3b09a86f784a7c5c3044cf", func := "ferrule/ferrulelaw12.LockAsks", spec := "lockAsks", unfollowed := true, recurses := true, plainKeys := false, apart := false, narrowed := true }
def LockAsksUptoSaid : Prop := lockAsksUptoRow.holds Try.pinned (OpenSpec.upto lockAsksSpec)

/-- 'ferrulelaw12.LockEldest', WHERE WHAT IT READS IS OF BULK AT MOST 1048576: true; the input reads as it did. -/
def lockEldestUptoRow : OpenClaim := { program := "ytgmflfbhifdacaa", sum := "2da7ee39d73ca6a9a235683e9dc041435f92c3b38d3b09a86f784a7c5c3044cf", func := "ferrule/ferrulelaw12.LockEldest", spec := "lockEldest", unfollowed := true, recurses := true, plainKeys := false, apart := false, narrowed := true }
def LockEldestUptoSaid : Prop := lockEldestUptoRow.holds Try.pinned (OpenSpec.upto lockEldestSpec)

/-- 'ferrulelaw12.LockOrder', WHERE WHAT IT READS IS OF BULK AT MOST 1048576: true; the input reads as it did. -/
def lockOrderUptoRow : OpenClaim := { program := "ytgmflfbhifdacaa", sum := "2da7ee39d73ca6a9a235683e9dc041435f92c3b38d3b09a86f784a7c5c3044cf", func := "ferrule/ferrulelaw12.LockOrder", spec := "lockOrder", unfollowed := true, recurses := true, plainKeys := false, apart := false, narrowed := true }
def LockOrderUptoSaid : Prop := lockOrderUptoRow.holds Try.pinned (OpenSpec.upto lockOrderSpec)

/-- 'ferrulelaw12.LockRight', WHERE WHAT IT READS IS OF BULK AT MOST 1048576: true; the input reads as it did. -/
def lockRightUptoRow : OpenClaim := { program := "ytgmflfbhifdacaa", sum := "2da7ee39d73ca6a9a235683e9dc041435f92c3b38d3b09a86f784a7c5c3044cf", func := "ferrule/ferrulelaw12.LockRight", spec := "lockRight", unfollowed := true, recurses := true, plainKeys := false, apart := false, narrowed := true }
def LockRightUptoSaid : Prop := lockRightUptoRow.holds Try.pinned (OpenSpec.upto lockRightSpec)

/-- 'ferrulelaw12.LockWounds', WHERE WHAT IT READS IS OF BULK AT MOST 1048576: true; the input reads as it did. -/
def lockWoundsUptoRow : OpenClaim := { program := "ytgmflfbhifdacaa", sum := "2da7ee39d73ca6a9a235683e9dc041435f92c3b38d3b09a86f784a7c5c3044cf", func := "ferrule/ferrulelaw12.LockWounds", spec := "lockWounds", unfollowed := true, recurses := true, plainKeys := false, apart := false, narrowed := true }
def LockWoundsUptoSaid : Prop := lockWoundsUptoRow.holds Try.pinned (OpenSpec.upto lockWoundsSpec)

/-- 'ferrulelaw12.LockTells', WHERE WHAT IT READS IS OF BULK AT MOST 1048576: true; the input reads as it did. -/
def lockTellsUptoRow : OpenClaim := { program := "ytgmflfbhifdacaa", sum := "2da7ee39d73ca6a9a235683e9dc041435f92c3b38d3b09a86f784a7c5c3044cf", func := "ferrule/ferrulelaw12.LockTells", spec := "lockTells", unfollowed := true, recurses := true, plainKeys := false, apart := false, narrowed := true }
def LockTellsUptoSaid : Prop := lockTellsUptoRow.holds Try.pinned (OpenSpec.upto lockTellsSpec)

end Rows
end Go.Proofs.Ytgmflfbhifdacaa
