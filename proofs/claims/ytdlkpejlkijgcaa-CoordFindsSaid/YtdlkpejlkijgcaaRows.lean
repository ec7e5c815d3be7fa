/-
  No cell of these rows narrows 'for every input' (looked for: loops, veiled, ifaces, maps, wideKeys, modest, calm, conditions, laid).
  DERIVED. THE GIVEN ROWS OF THIS SEAT. 5 by the template 'for every input the law returns true; each argument reads behind the call as it read before'; 0 by the template 'total and deterministic' (their statements: YtdlkpejlkijgcaaTotals.lean).
  GIVEN WITH THE SEED: the statements are not yours to turn. If you find one false, say at which input.
  Laid BY PROGRAM, IN A SANDBOX (cutbox-rows.mjs): the forced cells as the released guide's own fill.sh prints them over the translation 8be7002627081bb4… (all of the seat's roots in one cut). By AI agents, Wed Nov 11 2026. No macro, syntax, notation, axiom, sorry.
-/
import Derived.Test.YtdlkpejlkijgcaaChecked
import GoSem.Claim
import GoSem.ClaimJoined
import GoSem.ClaimMapViews
import Derived.JoinedTies
import Derived.KernelRfl
namespace Go.Proofs.Ytdlkpejlkijgcaa
/- THE CELL 'sum', in the pinned program and in every row, IS THE sha256 OF THE DUMP (.gsa) THAT YtdlkpejlkijgcaaProg.lean LOADS. Nothing in Lean hashes anything: it is a label: what it is worth is what the hold of that sum in a sandbox is worth. -/
noncomputable def Try.pinned : Pinned := { name := "ytdlkpejlkijgcaa", sum := "8be7002627081bb42070b1768a30159f54d9180a1ac4d1b4de9e29d484c6cda1", checked := Try.checked }
namespace Rows
def none {H : Type} : Left H := { results := [], args := [] }

/-- 'ferrulelaw14.CoordStays': WHATEVER THE INPUT: true; the input reads as it did. -/
def coordStaysSpec : ChangeSpec := { name := "coordStays", fn := fun _ => fun
  | [d] => { results := [.lit (.bool true)], args := [d] }
  | _ => none }
def coordStaysRow : OpenClaim := { program := "ytdlkpejlkijgcaa", sum := "8be7002627081bb42070b1768a30159f54d9180a1ac4d1b4de9e29d484c6cda1", func := "ferrule/ferrulelaw14.CoordStays", spec := "coordStays", unfollowed := true, recurses := true, plainKeys := false, apart := false }
def CoordStaysSaid : Prop := coordStaysRow.holds Try.pinned (OpenSpec.ofChange coordStaysSpec)

/-- ITS FALSE NEIGHBOUR: 'it returns false'. Refute it at one input. -/
def coordStaysWrong : ChangeSpec := { name := "coordStays", fn := fun _ => fun
  | [d] => { results := [.lit (.bool false)], args := [d] }
  | _ => none }
def CoordStaysWrongFalsely : Prop := coordStaysRow.holds Try.pinned (OpenSpec.ofChange coordStaysWrong)

/-- 'ferrulelaw14.CoordOnce': WHATEVER THE INPUT: true; the input reads as it did. -/
def coordOnceSpec : ChangeSpec := { name := "coordOnce", fn := fun _ => fun
  | [d1, d2] => { results := [.lit (.bool true)], args := [d1, d2] }
  | _ => none }
def coordOnceRow : OpenClaim := { program := "ytdlkpejlkijgcaa", sum := "8be7002627081bb42070b1768a30159f54d9180a1ac4d1b4de9e29d484c6cda1", func := "ferrule/ferrulelaw14.CoordOnce", spec := "coordOnce", unfollowed := true, recurses := true, plainKeys := false, apart := false }
def CoordOnceSaid : Prop := coordOnceRow.holds Try.pinned (OpenSpec.ofChange coordOnceSpec)

/-- ITS FALSE NEIGHBOUR: 'it returns false'. Refute it at one input. -/
def coordOnceWrong : ChangeSpec := { name := "coordOnce", fn := fun _ => fun
  | [d1, d2] => { results := [.lit (.bool false)], args := [d1, d2] }
  | _ => none }
def CoordOnceWrongFalsely : Prop := coordOnceRow.holds Try.pinned (OpenSpec.ofChange coordOnceWrong)

/-- 'ferrulelaw14.CoordCommits': WHATEVER THE INPUT: true; the input reads as it did. -/
def coordCommitsSpec : ChangeSpec := { name := "coordCommits", fn := fun _ => fun
  | [d1, d2] => { results := [.lit (.bool true)], args := [d1, d2] }
  | _ => none }
def coordCommitsRow : OpenClaim := { program := "ytdlkpejlkijgcaa", sum := "8be7002627081bb42070b1768a30159f54d9180a1ac4d1b4de9e29d484c6cda1", func := "ferrule/ferrulelaw14.CoordCommits", spec := "coordCommits", unfollowed := true, recurses := true, plainKeys := false, apart := false }
def CoordCommitsSaid : Prop := coordCommitsRow.holds Try.pinned (OpenSpec.ofChange coordCommitsSpec)

/-- ITS FALSE NEIGHBOUR: 'it returns false'. Refute it at one input. -/
def coordCommitsWrong : ChangeSpec := { name := "coordCommits", fn := fun _ => fun
  | [d1, d2] => { results := [.lit (.bool false)], args := [d1, d2] }
  | _ => none }
def CoordCommitsWrongFalsely : Prop := coordCommitsRow.holds Try.pinned (OpenSpec.ofChange coordCommitsWrong)

/-- 'ferrulelaw14.CoordApart': WHATEVER THE INPUT: true; the input reads as it did. -/
def coordApartSpec : ChangeSpec := { name := "coordApart", fn := fun _ => fun
  | [d1, d2, d3] => { results := [.lit (.bool true)], args := [d1, d2, d3] }
  | _ => none }
def coordApartRow : OpenClaim := { program := "ytdlkpejlkijgcaa", sum := "8be7002627081bb42070b1768a30159f54d9180a1ac4d1b4de9e29d484c6cda1", func := "ferrule/ferrulelaw14.CoordApart", spec := "coordApart", unfollowed := true, recurses := true, plainKeys := false, apart := false }
def CoordApartSaid : Prop := coordApartRow.holds Try.pinned (OpenSpec.ofChange coordApartSpec)

/-- ITS FALSE NEIGHBOUR: 'it returns false'. Refute it at one input. -/
def coordApartWrong : ChangeSpec := { name := "coordApart", fn := fun _ => fun
  | [d1, d2, d3] => { results := [.lit (.bool false)], args := [d1, d2, d3] }
  | _ => none }
def CoordApartWrongFalsely : Prop := coordApartRow.holds Try.pinned (OpenSpec.ofChange coordApartWrong)

/-- 'ferrulelaw14.CoordFinds': WHATEVER THE INPUT: true; the input reads as it did. -/
def coordFindsSpec : ChangeSpec := { name := "coordFinds", fn := fun _ => fun
  | [d1, d2, d3] => { results := [.lit (.bool true)], args := [d1, d2, d3] }
  | _ => none }
def coordFindsRow : OpenClaim := { program := "ytdlkpejlkijgcaa", sum := "8be7002627081bb42070b1768a30159f54d9180a1ac4d1b4de9e29d484c6cda1", func := "ferrule/ferrulelaw14.CoordFinds", spec := "coordFinds", unfollowed := true, recurses := true, plainKeys := false, apart := false }
def CoordFindsSaid : Prop := coordFindsRow.holds Try.pinned (OpenSpec.ofChange coordFindsSpec)

/-- ITS FALSE NEIGHBOUR: 'it returns false'. Refute it at one input. -/
def coordFindsWrong : ChangeSpec := { name := "coordFinds", fn := fun _ => fun
  | [d1, d2, d3] => { results := [.lit (.bool false)], args := [d1, d2, d3] }
  | _ => none }
def CoordFindsWrongFalsely : Prop := coordFindsRow.holds Try.pinned (OpenSpec.ofChange coordFindsWrong)

/- THE SECOND FORM. 'bulk': how many values and letters a reading holds, each counted each time it is reached (what is shared counts as often as it is met; a slice's spare places count too). A statement '..UptoSaid' is the law's where the arguments, and the package variables that the reading takes, are together of bulk at most 1048576: NARROWER than '..Said'. Prove '..Said' where nothing that the law and all that it calls make is longer than what came in: it says more and counts as full. Else prove '..UptoSaid'. A law counts once. -/
mutual
def uptoBulk {H : Type} : DataW H → Nat
  | .lit (.string bytes) => bytes.length + 1
  | .lit _ => 1
  | .nil => 1
  | .ptr d => uptoBulk d + 1
  | .slice elems spare => uptoBulkAll elems + uptoBulkAll spare + 1
  | .agg parts => uptoBulkAll parts + 1
  | .iface _ d => uptoBulk d + 1
  | .map entries => uptoBulkEntries entries + 1
  | .held _ => 1
def uptoBulkAll {H : Type} : List (DataW H) → Nat
  | [] => 0
  | d :: r => uptoBulk d + uptoBulkAll r
def uptoBulkEntries {H : Type} : List (Lit × DataW H) → Nat
  | [] => 0
  | x :: r => uptoBulkEntry x + uptoBulkEntries r
def uptoBulkEntry {H : Type} : Lit × DataW H → Nat
  | (.string bytes, d) => bytes.length + uptoBulk d + 1
  | (_, d) => uptoBulk d + 1
 end
def uptoSmall : (H : Type) → List (DataW H) → Bool := fun _ ds => decide (uptoBulkAll ds ≤ 1048576)
def OpenSpec.upto (s : _root_.Go.ChangeSpec) : _root_.Go.OpenSpec := { _root_.Go.OpenSpec.ofChange s with cond := some uptoSmall }

/-- 'ferrulelaw14.CoordStays', WHERE WHAT IT READS IS OF BULK AT MOST 1048576: true; the input reads as it did. -/
def coordStaysUptoRow : OpenClaim := { program := "ytdlkpejlkijgcaa", sum := "8be7002627081bb42070b1768a30159f54d9180a1ac4d1b4de9e29d484c6cda1", func := "ferrule/ferrulelaw14.CoordStays", spec := "coordStays", unfollowed := true, recurses := true, plainKeys := false, apart := false, narrowed := true }
def CoordStaysUptoSaid : Prop := coordStaysUptoRow.holds Try.pinned (OpenSpec.upto coordStaysSpec)

/-- 'ferrulelaw14.CoordOnce', WHERE WHAT IT READS IS OF BULK AT MOST 1048576: true; the input reads as it did. -/
def coordOnceUptoRow : OpenClaim := { program := "ytdlkpejlkijgcaa", sum := "8be7002627081bb42070b1768a30159f54d9180a1ac4d1b4de9e29d484c6cda1", func := "ferrule/ferrulelaw14.CoordOnce", spec := "coordOnce", unfollowed := true, recurses := true, plainKeys := false, apart := false, narrowed := true }
def CoordOnceUptoSaid : Prop := coordOnceUptoRow.holds Try.pinned (OpenSpec.upto coordOnceSpec)

/-- 'ferrulelaw14.CoordCommits', WHERE WHAT IT READS IS OF BULK AT MOST 1048576: true; the input reads as it did. -/
def coordCommitsUptoRow : OpenClaim := { program := "ytdlkpejlkijgcaa", sum := "8be7002627081bb42070b1768a30159f54d9180a1ac4d1b4de9e29d484c6cda1", func := "ferrule/ferrulelaw14.CoordCommits", spec := "coordCommits", unfollowed := true, recurses := true, plainKeys := false, apart := false, narrowed := true }
def CoordCommitsUptoSaid : Prop := coordCommitsUptoRow.holds Try.pinned (OpenSpec.upto coordCommitsSpec)

/-- 'ferrulelaw14.CoordApart', WHERE WHAT IT READS IS OF BULK AT MOST 1048576: true; the input reads as it did. -/
def coordApartUptoRow : OpenClaim := { program := "ytdlkpejlkijgcaa", sum := "8be7002627081bb42070b1768a30159f54d9180a1ac4d1b4de9e29d484c6cda1", func := "ferrule/ferrulelaw14.CoordApart", spec := "coordApart", unfollowed := true, recurses := true, plainKeys := false, apart := false, narrowed := true }
def CoordApartUptoSaid : Prop := coordApartUptoRow.holds Try.pinned (OpenSpec.upto coordApartSpec)

/-- 'ferrulelaw14.CoordFinds', WHERE WHAT IT READS IS OF BULK AT MOST 1048576: true; the input reads as it did. -/
def coordFindsUptoRow : OpenClaim := { program := "ytdlkpejlkijgcaa", sum := "8be7002627081bb42070b1768a30159f54d9180a1ac4d1b4de9e29d484c6cda1", func := "ferrule/ferrulelaw14.CoordFinds", spec := "coordFinds", unfollowed := true, recurses := true, plainKeys := false, apart := false, narrowed := true }
def CoordFindsUptoSaid : Prop := coordFindsUptoRow.holds Try.pinned (OpenSpec.upto coordFindsSpec)

end Rows
end Go.Proofs.Ytdlkpejlkijgcaa
