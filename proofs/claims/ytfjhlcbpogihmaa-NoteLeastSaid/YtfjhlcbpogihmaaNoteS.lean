/- What notes come to: plain states, plain lists. Conditions: none. -/
import Derived.Test.YtfjhlcbpogihmaaPr0
namespace Go.Proofs.Ytfjhlcbpogihmaa.Pr
open Go.RowKit Go.Proofs.YtfjhlcbpogihmaaW.PrintWords Go.Proofs.YtfjhlcbpogihmaaW.PrintLast Go.Proofs.YtfjhlcbpogihmaaW.PrintMore
set_option linter.unusedVariables false
/-- A stable state. -/
structure NSt where
  term : Int
  vote : Int
  base : Int
  bt : Int
  snap : ByteArray
  es : List S75
def nst0 : NSt := ⟨0, 0, 0, 0, ⟨#[]⟩, []⟩
def isNext (s : NSt) (n : S39) : Prop := n.f1 = s.base + s.es.length + 1 ∧ s.es.length < 1024 ∧ n.f1 ≤ 1099511627776
instance (s : NSt) (n : S39) : Decidable (isNext s n) := by unfold isNext; infer_instance
def hasAt (s : NSt) (n : S39) : Prop := n.f1 - s.base ≤ s.es.length ∧ (rd_T75 s.es (n.f1 - s.base - 1)).f0 = n.f2
instance (s : NSt) (n : S39) : Decidable (hasAt s n) := by unfold hasAt; infer_instance
def cutN (s : NSt) (n : S39) : Nat := if n.f1 > s.base then (n.f1 - s.base - 1).toNat else 0
/-- A state behind a snapshot. -/
def behindN (s : NSt) (n : S39) : NSt :=
  if n.f1 ≤ s.base ∨ n.f1 > 1099511627776 then s else { s with base := n.f1, bt := n.f2, snap := n.f4, es := if hasAt s n then s.es.drop (n.f1 - s.base).toNat else [] }
/-- A state behind one note more. -/
def stepN (s : NSt) (n : S39) : NSt :=
  if n.f0 = 1 then { s with term := n.f2, vote := n.f3 }
  else if n.f0 = 2 then (if isNext s n then { s with es := s.es ++ [⟨n.f2, n.f4⟩] } else s)
  else if n.f0 = 3 then { s with es := s.es.take (cutN s n) }
  else if n.f0 = 4 then behindN s n
  else s
def foldN (l : List S39) : NSt := l.foldl stepN nst0
def NSt.tup (s : NSt) : Int × Int × Int × Int × ByteArray × List S75 := (s.term, s.vote, s.base, s.bt, s.snap, s.es)
def okN (n : S39) : Bool := decide (0 ≤ n.f1) && decide (n.f1 < 18446744073709551616)
structure okS (s : NSt) : Prop where
  b0 : 0 ≤ s.base
  b1 : s.base ≤ 1099511627776
  l1 : s.es.length ≤ 1024
theorem okN_iff (n : S39) : okN n = true ↔ 0 ≤ n.f1 ∧ n.f1 < 18446744073709551616 := by
  unfold okN
  rw [Bool.and_eq_true, decide_eq_true_iff, decide_eq_true_iff]
theorem okS_step {s : NSt} {n : S39} (h : okS s) (hn : okN n = true) : okS (stepN s n) := by
  obtain ⟨h0, h1⟩ := (okN_iff n).1 hn
  obtain ⟨b0, b1, l1⟩ := h
  unfold stepN
  split
  · exact ⟨b0, b1, l1⟩
  split
  · split
    · rename_i h
      exact ⟨b0, b1, by rw [List.length_append, List.length_singleton]; have := h.2.1; omega⟩
    · exact ⟨b0, b1, l1⟩
  split
  · exact ⟨b0, b1, by rw [List.length_take]; omega⟩
  split
  · unfold behindN
    split
    · exact ⟨b0, b1, l1⟩
    · rename_i h
      refine ⟨by dsimp only; omega, by dsimp only; omega, ?_⟩
      dsimp only
      split
      · rw [List.length_drop]; omega
      · simp
  · exact ⟨b0, b1, l1⟩
theorem okS_foldl : ∀ (l : List S39) (s : NSt), okS s → l.all okN = true → okS (l.foldl stepN s)
  | [], s, h, _ => h
  | x :: r, s, h, ha => by
    rw [List.all_cons, Bool.and_eq_true] at ha
    exact okS_foldl r _ (okS_step h ha.1) ha.2
theorem okS_0 : okS nst0 := ⟨by decide, by decide, by decide⟩
end Go.Proofs.Ytfjhlcbpogihmaa.Pr
