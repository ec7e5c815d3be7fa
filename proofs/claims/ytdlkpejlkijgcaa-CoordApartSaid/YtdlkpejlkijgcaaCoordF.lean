/- An order of one transaction leaves every other one's deal as it was: plain lists. Conditions: none. -/
import Derived.Test.YtdlkpejlkijgcaaCoordI
import Derived.Test.YtdlkpejlkijgcaaCoordO
namespace Go.Proofs.Ytdlkpejlkijgcaa.Pr
open Go.RowKit Go.Proofs.YtdlkpejlkijgcaaW.PrintWords Go.Proofs.YtdlkpejlkijgcaaW.PrintLast Go.Proofs.YtdlkpejlkijgcaaW.PrintMore
set_option linter.unusedVariables false
set_option linter.unusedSimpArgs false
/-- A transaction's deal. -/
def dlOf (l : List S42) (y : S34) : Option S42 := (plc l y).map fun i => rd_T42 l i
theorem dlOf_app {l : List S42} {d : S42} (h : plc l d.f0 = none) {y : S34} (e : d.f0 ≠ y) : dlOf (l ++ [d]) y = dlOf l y := by
  unfold dlOf
  cases hp : plc l y with
  | none => rw [plc_app_other e hp]; rfl
  | some i =>
    obtain ⟨j, rfl, hj, _⟩ := plc_some hp
    rw [plc_app_some hp, Option.map_some, Option.map_some, rd_app hj]
theorem dlOf_dec {l : List S42} {i : Nat} {y' : S34} (h : plc l y' = some (i : Int)) (c : Bool) {y : S34} (e : y' ≠ y) : dlOf (decL l (i : Int) c) y = dlOf l y := by
  obtain ⟨j, e', hj, hy, hm⟩ := plc_some h
  obtain rfl : i = j := by omega
  unfold dlOf
  rw [plc_dec hj]
  cases hp : plc l y with
  | none => rfl
  | some q =>
    obtain ⟨p, rfl, hp1, hpy, _⟩ := plc_some hp
    have : p ≠ i := fun h => e (by rw [← hy, ← hpy, h])
    rw [Option.map_some, Option.map_some, rd_dec hj, if_neg this]
/-- What an order leaves as it was. -/
def Kept (l l' : List S42) (y : S34) : Prop := dlOf l' y = dlOf l y ∧ l.length ≤ l'.length ∧ l'.length ≤ l.length + 1
theorem Kept.refl (l : List S42) (y : S34) : Kept l l y := ⟨rfl, Nat.le_refl _, Nat.le_succ _⟩
theorem addR_kept {l : List S42} {d : S42} (h : plc l d.f0 = none) {y : S34} (e : d.f0 ≠ y) : Kept l (addR l d).1 y := by
  unfold addR noR
  by_cases h64 : 64 ≤ l.length
  · rw [if_pos h64]; exact Kept.refl l y
  · rw [if_neg h64]
    exact ⟨dlOf_app h e, by simp, by simp⟩
theorem decR_kept {l : List S42} {y' y : S34} {c : Bool} (e : y' ≠ y) : Kept l (decR l y' c).1 y := by
  unfold decR
  cases hp : plc l y' with
  | none =>
    cases c with
    | true => exact Kept.refl l y
    | false => exact addR_kept (d := ⟨y', [], 2⟩) hp e
  | some i =>
    obtain ⟨j, rfl, hj, _⟩ := plc_some hp
    exact ⟨dlOf_dec hp c e, by show l.length ≤ (decL l (j : Int) c).length; rw [len_decL]; exact Nat.le_refl _, by show (decL l (j : Int) c).length ≤ l.length + 1; rw [len_decL]; exact Nat.le_succ _⟩
theorem begR_kept {l : List S42} {y' y : S34} {p : List Int} (e : y' ≠ y) : Kept l (begR l y' p).1 y := by
  unfold begR
  cases hm : mayB p with
  | false => rw [if_neg (by simp)]; exact Kept.refl l y
  | true =>
    rw [if_pos rfl]
    cases hp : plc l y' with
    | none => exact addR_kept (d := ⟨y', p, 0⟩) hp e
    | some i =>
      dsimp only
      split
      · split <;> exact Kept.refl l y
      · exact Kept.refl l y
theorem doR_kept {l : List S42} {o : S38} {y : S34} (e : o.f1 ≠ y) : Kept l (doR l o).1 y := by
  unfold doR
  split
  · exact begR_kept e
  · split
    · exact decR_kept e
    · split
      · exact decR_kept e
      · exact Kept.refl l y
theorem findR_dl (l : List S42) (y : S34) : findR l y = match dlOf l y with | none => (0, 0, [], 0, false) | some d => (d.f0.f0, d.f0.f1, d.f1, d.f2, true) := by
  unfold findR dlOf
  cases plc l y <;> rfl
end Go.Proofs.Ytdlkpejlkijgcaa.Pr
