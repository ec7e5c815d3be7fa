/-
  No cell of these rows narrows 'for every input' (looked for: loops, veiled, ifaces, maps, wideKeys, modest, calm, conditions, laid).
  DERIVED. THE GIVEN ROWS OF THIS SEAT. 5 by the template 'for every input the law returns true; each argument reads behind the call as it read before'; 0 by the template 'total and deterministic' (their statements: YtbjeoaklpcbocaaTotals.lean).
  GIVEN WITH THE SEED: the statements are not yours to turn. If you find one false, say at which input.
  Laid BY PROGRAM, IN A SANDBOX (cutbox-rows.mjs): the forced cells as the released guide's own fill.sh prints them over the translation ef898eabe30e3835… (all of the seat's roots in one cut). By AI agents, Wed Nov 11 2026. No macro, syntax, notation, axiom, sorry.
-/
import Derived.Test.YtbjeoaklpcbocaaChecked
import GoSem.Claim
import GoSem.ClaimJoined
import GoSem.ClaimMapViews
import Derived.JoinedTies
import Derived.KernelRfl
namespace Go.Proofs.Ytbjeoaklpcbocaa
/- THE CELL 'sum', in the pinned program and in every row, IS THE sha256 OF THE DUMP (.gsa) THAT YtbjeoaklpcbocaaProg.lean LOADS. Nothing in Lean hashes anything: it is a label: what it is worth is what the hold of that sum in a sandbox is worth. -/
noncomputable def Try.pinned : Pinned := { name := "ytbjeoaklpcbocaa", sum := "ef898eabe30e38358ee6de57b8d5cb5e733da3c20a90e8d39cb554a4a92fc44f", checked := Try.checked }
namespace Rows
def none {H : Type} : Left H := { results := [], args := [] }

/-- 'ferrulelaw07.BallotAnswers': WHATEVER THE INPUT: true; the input reads as it did. -/
def ballotAnswersSpec : ChangeSpec := { name := "ballotAnswers", fn := fun _ => fun
  | [d1, d2] => { results := [.lit (.bool true)], args := [d1, d2] }
  | _ => none }
def ballotAnswersRow : OpenClaim := { program := "ytbjeoaklpcbocaa", sum := "ef898eabe30e38358ee6de57b8d5cb5e733da3c20a90e8d39cb554a4a92fc44f", func := "ferrule/ferrulelaw07.BallotAnswers", spec := "ballotAnswers", plainKeys := false, apart := false }
def BallotAnswersSaid : Prop := ballotAnswersRow.holds Try.pinned (OpenSpec.ofChange ballotAnswersSpec)

/-- ITS FALSE NEIGHBOUR: 'it returns false'. Refute it at one input. -/
def ballotAnswersWrong : ChangeSpec := { name := "ballotAnswers", fn := fun _ => fun
  | [d1, d2] => { results := [.lit (.bool false)], args := [d1, d2] }
  | _ => none }
def BallotAnswersWrongFalsely : Prop := ballotAnswersRow.holds Try.pinned (OpenSpec.ofChange ballotAnswersWrong)

/-- 'ferrulelaw07.BallotOnce': WHATEVER THE INPUT: true; the input reads as it did. -/
def ballotOnceSpec : ChangeSpec := { name := "ballotOnce", fn := fun _ => fun
  | [d1, d2] => { results := [.lit (.bool true)], args := [d1, d2] }
  | _ => none }
def ballotOnceRow : OpenClaim := { program := "ytbjeoaklpcbocaa", sum := "ef898eabe30e38358ee6de57b8d5cb5e733da3c20a90e8d39cb554a4a92fc44f", func := "ferrule/ferrulelaw07.BallotOnce", spec := "ballotOnce", plainKeys := false, apart := false }
def BallotOnceSaid : Prop := ballotOnceRow.holds Try.pinned (OpenSpec.ofChange ballotOnceSpec)

/-- ITS FALSE NEIGHBOUR: 'it returns false'. Refute it at one input. -/
def ballotOnceWrong : ChangeSpec := { name := "ballotOnce", fn := fun _ => fun
  | [d1, d2] => { results := [.lit (.bool false)], args := [d1, d2] }
  | _ => none }
def BallotOnceWrongFalsely : Prop := ballotOnceRow.holds Try.pinned (OpenSpec.ofChange ballotOnceWrong)

/-- 'ferrulelaw07.BallotOne': WHATEVER THE INPUT: true; the input reads as it did. -/
def ballotOneSpec : ChangeSpec := { name := "ballotOne", fn := fun _ => fun
  | [d] => { results := [.lit (.bool true)], args := [d] }
  | _ => none }
def ballotOneRow : OpenClaim := { program := "ytbjeoaklpcbocaa", sum := "ef898eabe30e38358ee6de57b8d5cb5e733da3c20a90e8d39cb554a4a92fc44f", func := "ferrule/ferrulelaw07.BallotOne", spec := "ballotOne", plainKeys := false, apart := false }
def BallotOneSaid : Prop := ballotOneRow.holds Try.pinned (OpenSpec.ofChange ballotOneSpec)

/-- ITS FALSE NEIGHBOUR: 'it returns false'. Refute it at one input. -/
def ballotOneWrong : ChangeSpec := { name := "ballotOne", fn := fun _ => fun
  | [d] => { results := [.lit (.bool false)], args := [d] }
  | _ => none }
def BallotOneWrongFalsely : Prop := ballotOneRow.holds Try.pinned (OpenSpec.ofChange ballotOneWrong)

/-- 'ferrulelaw07.BallotSays': WHATEVER THE INPUT: true; the input reads as it did. -/
def ballotSaysSpec : ChangeSpec := { name := "ballotSays", fn := fun _ => fun
  | [d1, d2] => { results := [.lit (.bool true)], args := [d1, d2] }
  | _ => none }
def ballotSaysRow : OpenClaim := { program := "ytbjeoaklpcbocaa", sum := "ef898eabe30e38358ee6de57b8d5cb5e733da3c20a90e8d39cb554a4a92fc44f", func := "ferrule/ferrulelaw07.BallotSays", spec := "ballotSays", unfollowed := true, recurses := true, plainKeys := false, apart := false }
def BallotSaysSaid : Prop := ballotSaysRow.holds Try.pinned (OpenSpec.ofChange ballotSaysSpec)

/-- ITS FALSE NEIGHBOUR: 'it returns false'. Refute it at one input. -/
def ballotSaysWrong : ChangeSpec := { name := "ballotSays", fn := fun _ => fun
  | [d1, d2] => { results := [.lit (.bool false)], args := [d1, d2] }
  | _ => none }
def BallotSaysWrongFalsely : Prop := ballotSaysRow.holds Try.pinned (OpenSpec.ofChange ballotSaysWrong)

/-- 'ferrulelaw07.BallotTurns': WHATEVER THE INPUT: true; the input reads as it did. -/
def ballotTurnsSpec : ChangeSpec := { name := "ballotTurns", fn := fun _ => fun
  | [d1, d2, d3] => { results := [.lit (.bool true)], args := [d1, d2, d3] }
  | _ => none }
def ballotTurnsRow : OpenClaim := { program := "ytbjeoaklpcbocaa", sum := "ef898eabe30e38358ee6de57b8d5cb5e733da3c20a90e8d39cb554a4a92fc44f", func := "ferrule/ferrulelaw07.BallotTurns", spec := "ballotTurns", unfollowed := true, recurses := true, plainKeys := false, apart := false }
def BallotTurnsSaid : Prop := ballotTurnsRow.holds Try.pinned (OpenSpec.ofChange ballotTurnsSpec)

/-- ITS FALSE NEIGHBOUR: 'it returns false'. Refute it at one input. -/
def ballotTurnsWrong : ChangeSpec := { name := "ballotTurns", fn := fun _ => fun
  | [d1, d2, d3] => { results := [.lit (.bool false)], args := [d1, d2, d3] }
  | _ => none }
def BallotTurnsWrongFalsely : Prop := ballotTurnsRow.holds Try.pinned (OpenSpec.ofChange ballotTurnsWrong)

/- THE SECOND FORM. 'bulk': how many values and letters a reading holds, each counted each time it is reached (what is shared counts as often as it is met; a slice's spare places count too). A statement '..UptoSaid' is the law's where the arguments, and the package variables that the reading takes, are together of bulk at most 1048576: NARROWER than '..Said'. Prove '..Said' where nothing that the law and all that it calls make is longer than what came in: it says more and counts as full. Else prove '..UptoSaid'. A law counts once. -/
mutual
def uptoBulk {H : Type} : DataW H → Nat
  | .lit (.string bytes) => bytes.length + 1
  | .lit _ => 1
  | .nil => 1
  | .ptr d => uptoBulk d + 1
  | .slice elems spare => uptoBulkAll elems + uptoBulkAll spare + 1
  | .agg parts => uptoBulkAll parts + 1
  | .iface _ d => uptoBulk d + 1
  | .map entries => uptoBulkEntries entries + 1
  | .held _ => 1
def uptoBulkAll {H : Type} : List (DataW H) → Nat
  | [] => 0
  | d :: r => uptoBulk d + uptoBulkAll r
def uptoBulkEntries {H : Type} : List (Lit × DataW H) → Nat
  | [] => 0
  | x :: r => uptoBulkEntry x + uptoBulkEntries r
def uptoBulkEntry {H : Type} : Lit × DataW H → Nat
  | (.string bytes, d) => bytes.length + uptoBulk d + 1
  | (_, d) => uptoBulk d + 1
 end
def uptoSmall : (H : Type) → List (DataW H) → Bool := fun _ ds => decide (uptoBulkAll ds ≤ 1048576)
def OpenSpec.upto (s : _root_.Go.ChangeSpec) : _root_.Go.OpenSpec := { _root_.Go.OpenSpec.ofChange s with cond := some uptoSmall }

/-- 'ferrulelaw07.BallotAnswers', WHERE WHAT IT READS IS OF BULK AT MOST 1048576: true; the input reads as it did. -/
def ballotAnswersUptoRow : OpenClaim := { program := "ytbjeoaklpcbocaa", sum := "ef898eabe30e38358ee6de57b8d5cb5e733da3c20a90e8d39cb554a4a92fc44f", func := "ferrule/ferrulelaw07.BallotAnswers", spec := "ballotAnswers", plainKeys := false, apart := false, narrowed := true }
def BallotAnswersUptoSaid : Prop := ballotAnswersUptoRow.holds Try.pinned (OpenSpec.upto ballotAnswersSpec)

/-- 'ferrulelaw07.BallotOnce', WHERE WHAT IT READS IS OF BULK AT MOST 1048576: true; the input reads as it did. -/
def ballotOnceUptoRow : OpenClaim := { program := "ytbjeoaklpcbocaa", sum := "ef898eabe30e38358ee6de57b8d5cb5e733da3c20a90e8d39cb554a4a92fc44f", func := "ferrule/ferrulelaw07.BallotOnce", spec := "ballotOnce", plainKeys := false, apart := false, narrowed := true }
def BallotOnceUptoSaid : Prop := ballotOnceUptoRow.holds Try.pinned (OpenSpec.upto ballotOnceSpec)

/-- 'ferrulelaw07.BallotOne', WHERE WHAT IT READS IS OF BULK AT MOST 1048576: true; the input reads as it did. -/
def ballotOneUptoRow : OpenClaim := { program := "ytbjeoaklpcbocaa", sum := "ef898eabe30e38358ee6de57b8d5cb5e733da3c20a90e8d39cb554a4a92fc44f", func := "ferrule/ferrulelaw07.BallotOne", spec := "ballotOne", plainKeys := false, apart := false, narrowed := true }
def BallotOneUptoSaid : Prop := ballotOneUptoRow.holds Try.pinned (OpenSpec.upto ballotOneSpec)

/-- 'ferrulelaw07.BallotSays', WHERE WHAT IT READS IS OF BULK AT MOST 1048576: true; the input reads as it did. -/
def ballotSaysUptoRow : OpenClaim := { program := "ytbjeoaklpcbocaa", sum := "ef898eabe30e38358ee6de57b8d5cb5e733da3c20a90e8d39cb554a4a92fc44f", func := "ferrule/ferrulelaw07.BallotSays", spec := "ballotSays", unfollowed := true, recurses := true, plainKeys := false, apart := false, narrowed := true }
def BallotSaysUptoSaid : Prop := ballotSaysUptoRow.holds Try.pinned (OpenSpec.upto ballotSaysSpec)

/-- 'ferrulelaw07.BallotTurns', WHERE WHAT IT READS IS OF BULK AT MOST 1048576: true; the input reads as it did. -/
def ballotTurnsUptoRow : OpenClaim := { program := "ytbjeoaklpcbocaa", sum := "ef898eabe30e38358ee6de57b8d5cb5e733da3c20a90e8d39cb554a4a92fc44f", func := "ferrule/ferrulelaw07.BallotTurns", spec := "ballotTurns", unfollowed := true, recurses := true, plainKeys := false, apart := false, narrowed := true }
def BallotTurnsUptoSaid : Prop := ballotTurnsUptoRow.holds Try.pinned (OpenSpec.upto ballotTurnsSpec)

end Rows
end Go.Proofs.Ytbjeoaklpcbocaa
