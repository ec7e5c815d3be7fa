/- Where a transaction's first deal stands: what the map of places says, as plain lists. Conditions: none. -/
import Derived.Test.YtdlkpejlkijgcaaHandPlaces
namespace Go.Proofs.Ytdlkpejlkijgcaa.Pr
open Go.RowKit Go.Proofs.YtdlkpejlkijgcaaW.PrintWords Go.Proofs.Ytdlkpejlkijgcaa.Hnd
set_option linter.unusedVariables false
set_option linter.unusedSimpArgs false
/-- The place of a transaction's first deal; how many transactions have one. -/
def plc (xs : List S42) (y : S34) : Option Int := (plP xs (downL xs.length xs.length)).1 y
def plN (xs : List S42) : Nat := (plP xs (downL xs.length xs.length)).2
theorem plP_at (xs : List S42) (N : Nat) : ∀ k, k ≤ N → ∀ y : S34, (∀ i, (plP xs (downL N k)).1 y = some i → ∃ j : Nat, i = (j : Int) ∧ N - k ≤ j ∧ j < N ∧ (rd_T42 xs (j : Int)).f0 = y ∧ ∀ m : Nat, N - k ≤ m → m < j → (rd_T42 xs (m : Int)).f0 ≠ y) ∧
    ((plP xs (downL N k)).1 y = none → ∀ m : Nat, N - k ≤ m → m < N → (rd_T42 xs (m : Int)).f0 ≠ y)
  | 0, _, y => ⟨fun i h => by simp [downL, plP] at h, fun _ m h1 h2 => by omega⟩
  | k + 1, hk, y => by
    obtain ⟨h1, h2⟩ := plP_at xs N k (by omega) y
    rw [downL_succ, plP_snoc]
    dsimp only
    by_cases he : y = (rd_T42 xs ((N - 1 - k : Nat) : Int)).f0
    · rw [if_pos he]
      refine ⟨fun i h => ⟨N - 1 - k, (Option.some.inj h).symm, by omega, by omega, he.symm, fun m ha hb => by omega⟩, fun h => by cases h⟩
    · rw [if_neg he]
      refine ⟨fun i h => ?_, fun h m ha hb => ?_⟩
      · obtain ⟨j, e, a, b, c, d⟩ := h1 i h
        refine ⟨j, e, by omega, b, c, fun m ha hb => ?_⟩
        by_cases hm : m = N - 1 - k
        · subst hm; exact fun e => he e.symm
        · exact d m (by omega) hb
      · by_cases hm : m = N - 1 - k
        · subst hm; exact fun e => he e.symm
        · exact h2 h m (by omega) hb
theorem plc_some {xs : List S42} {y : S34} {i : Int} (h : plc xs y = some i) : ∃ j : Nat, i = (j : Int) ∧ j < xs.length ∧ (rd_T42 xs (j : Int)).f0 = y ∧ ∀ m : Nat, m < j → (rd_T42 xs (m : Int)).f0 ≠ y := by
  obtain ⟨j, a, _, b, c, d⟩ := (plP_at xs xs.length xs.length (Nat.le_refl _) y).1 i h
  exact ⟨j, a, b, c, fun m hm => d m (by omega) hm⟩
theorem plc_none {xs : List S42} {y : S34} (h : plc xs y = none) (m : Nat) (hm : m < xs.length) : (rd_T42 xs (m : Int)).f0 ≠ y := (plP_at xs xs.length xs.length (Nat.le_refl _) y).2 h m (by omega) hm
/-- The numbers of transactions are of their kind. -/
def okB (x : S34) : Bool := (Lit.int .u64 x.f0).wf && (Lit.int .u64 x.f1).wf
def okAll (xs : List S42) : Bool := xs.all (fun d => okB d.f0)
theorem okB_iff (x : S34) : okB x = true ↔ okTx x := by simp [okB, okTx]
theorem okAll_at {xs : List S42} (h : okAll xs = true) (j : Nat) : okTx (rd_T42 xs (j : Int)).f0 := by
  rw [← okB_iff]
  unfold rd_T42
  by_cases hj : j < xs.length
  · simp only [Int.toNat_natCast, List.getD_eq_getElem?_getD, List.getElem?_eq_getElem hj, Option.getD_some]
    exact List.all_eq_true.1 h _ (List.getElem_mem hj)
  · simp only [Int.toNat_natCast, List.getD_eq_getElem?_getD, List.getElem?_eq_none (Nat.le_of_not_lt hj), Option.getD_none]
    decide
end Go.Proofs.Ytdlkpejlkijgcaa.Pr
