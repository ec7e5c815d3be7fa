/- What becomes of one transaction's deal, whatever is ordered: plain lists. Conditions: none. -/
import Derived.Test.YtdlkpejlkijgcaaCoordI
namespace Go.Proofs.Ytdlkpejlkijgcaa.Pr
open Go.RowKit Go.Proofs.YtdlkpejlkijgcaaW.PrintWords Go.Proofs.YtdlkpejlkijgcaaW.PrintLast Go.Proofs.YtdlkpejlkijgcaaW.PrintMore
set_option linter.unusedVariables false
set_option linter.unusedSimpArgs false
/-- What became of a transaction. -/
def stOf (l : List S42) (y : S34) : Option Int := (plc l y).map fun i => (rd_T42 l i).f2
theorem stOf_app {l : List S42} {d : S42} (h : plc l d.f0 = none) (y : S34) : stOf (l ++ [d]) y = if d.f0 = y then some d.f2 else stOf l y := by
  unfold stOf
  by_cases e : d.f0 = y
  · subst e
    rw [plc_app_last h, if_pos rfl, Option.map_some, rd_last]
  · rw [if_neg e]
    cases hp : plc l y with
    | none => rw [plc_app_other e hp]; rfl
    | some i =>
      obtain ⟨j, rfl, hj, _⟩ := plc_some hp
      rw [plc_app_some hp, Option.map_some, Option.map_some, rd_app hj]
theorem stOf_dec {l : List S42} {i : Nat} {y' : S34} (h : plc l y' = some (i : Int)) (c : Bool) (y : S34) : stOf (decL l (i : Int) c) y = if y' = y then some (decSt (rd_T42 l (i : Int)).f2 c) else stOf l y := by
  obtain ⟨j, e, hj, hy, hm⟩ := plc_some h
  obtain rfl : i = j := by omega
  unfold stOf
  rw [plc_dec hj]
  by_cases e : y' = y
  · subst e
    rw [if_pos rfl, h, Option.map_some, rd_dec hj, if_pos rfl]
    rfl
  · rw [if_neg e]
    cases hp : plc l y with
    | none => rfl
    | some q =>
      obtain ⟨p, rfl, hp1, hpy, _⟩ := plc_some hp
      have : p ≠ i := fun h => e (by rw [← hy, ← hpy, h])
      rw [Option.map_some, Option.map_some, rd_dec hj, if_neg this]
theorem addR_err {l : List S42} {d : S42} (h : (addR l d).2.1 ≠ 0) : (addR l d).1 = l := by
  unfold addR noR at *
  by_cases h64 : 64 ≤ l.length
  · rw [if_pos h64]
  · rw [if_neg h64] at h
    exact absurd rfl h
theorem decR_err {l : List S42} {y : S34} {c : Bool} (h : (decR l y c).2.1 ≠ 0) : (decR l y c).1 = l := by
  unfold decR at *
  cases hp : plc l y with
  | none =>
    rw [hp] at h
    cases c with
    | true => rfl
    | false => exact addR_err h
  | some i =>
    rw [hp] at h
    exact absurd rfl h
theorem begR_err {l : List S42} {y : S34} {p : List Int} (h : (begR l y p).2.1 ≠ 0) : (begR l y p).1 = l := by
  unfold begR at *
  cases hm : mayB p with
  | false => rw [if_neg (by simp)]; rfl
  | true =>
    rw [hm, if_pos rfl] at h
    rw [if_pos rfl]
    cases hp : plc l y with
    | none =>
      rw [hp] at h
      exact addR_err h
    | some i =>
      dsimp only
      split
      · split <;> rfl
      · rfl
theorem doR_err {l : List S42} {o : S38} (h : (doR l o).2.1 ≠ 0) : (doR l o).1 = l := by
  unfold doR at *
  by_cases h5 : o.f0 = 5
  · rw [if_pos h5] at *; exact begR_err h
  · rw [if_neg h5] at *
    by_cases h7 : o.f0 = 7
    · rw [if_pos h7] at *; exact decR_err h
    · rw [if_neg h7] at *
      by_cases h6 : o.f0 = 6
      · rw [if_pos h6] at *; exact decR_err h
      · rw [if_neg h6] at *; rfl
theorem addR_st {l : List S42} {d : S42} (h : plc l d.f0 = none) (y : S34) : (addR l d).2.1 ≠ 0 ∨ (stOf (addR l d).1 y = (if d.f0 = y then some d.f2 else stOf l y) ∧ (addR l d).2.2.2.2.2 = false) := by
  unfold addR noR
  by_cases h64 : 64 ≤ l.length
  · rw [if_pos h64]; exact .inl (show (5 : Int) ≠ 0 by decide)
  · rw [if_neg h64]; exact .inr ⟨stOf_app h y, rfl⟩
theorem decR_st {l : List S42} {y' : S34} {c : Bool} (y : S34) (h : (decR l y' c).2.1 = 0) :
    (stOf l y' = none ∧ c = false ∧ (decR l y' c).2.2.2.2.2 = false ∧ stOf (decR l y' c).1 y = (if y' = y then some 2 else stOf l y)) ∨
    (∃ st, stOf l y' = some st ∧ (decR l y' c).2.2.2.2.2 = (decSt st c == 1) ∧ stOf (decR l y' c).1 y = (if y' = y then some (decSt st c) else stOf l y)) := by
  unfold decR at *
  cases hp : plc l y' with
  | none =>
    rw [hp] at h
    cases c with
    | true => exact absurd h (show (7 : Int) ≠ 0 by decide)
    | false =>
      rcases addR_st (d := ⟨y', [], 2⟩) hp y with h1 | ⟨h1, h2⟩
      · exact absurd h h1
      · exact .inl ⟨by unfold stOf; rw [hp]; rfl, rfl, h2, h1⟩
  | some i =>
    obtain ⟨j, rfl, hj, hy, _⟩ := plc_some hp
    exact .inr ⟨(rd_T42 l (j : Int)).f2, by unfold stOf; rw [hp]; rfl, rfl, stOf_dec hp c y⟩
theorem begR_st {l : List S42} {y' : S34} {p : List Int} (y : S34) (h : (begR l y' p).2.1 = 0) :
    (stOf l y' = none ∨ stOf l y' = some 0) ∧ stOf (begR l y' p).1 y = (if y' = y then some 0 else stOf l y) := by
  unfold begR at *
  cases hm : mayB p with
  | false =>
    rw [hm, if_neg (by simp)] at h
    exact absurd h (show (1 : Int) ≠ 0 by decide)
  | true =>
    rw [hm, if_pos rfl] at h
    rw [if_pos rfl]
    cases hp : plc l y' with
    | none =>
      rw [hp] at h
      rcases addR_st (d := ⟨y', p, 0⟩) hp y with h1 | ⟨h1, h2⟩
      · exact absurd h h1
      · exact ⟨.inl (by unfold stOf; rw [hp]; rfl), h1⟩
    | some i =>
      rw [hp] at h
      dsimp only at h ⊢
      by_cases h0 : (rd_T42 l i).f2 = 0
      · have hs : stOf l y' = some 0 := by unfold stOf; rw [hp, Option.map_some, h0]
        rw [if_pos h0] at h ⊢
        refine ⟨.inr hs, ?_⟩
        have e1 : stOf l y = if y' = y then some 0 else stOf l y := by
          by_cases e : y' = y
          · rw [if_pos e, ← e, hs]
          · rw [if_neg e]
        split <;> exact e1
      · rw [if_neg h0] at h
        exact absurd h (by show ¬ ((13 : Int) = 0); decide)
/-- An order of one transaction changes no other one's deal. -/
theorem doR_other {l : List S42} {o : S38} {y : S34} (hne : o.f1 ≠ y) : stOf (doR l o).1 y = stOf l y := by
  by_cases he : (doR l o).2.1 = 0
  · unfold doR at *
    by_cases h5 : o.f0 = 5
    · rw [if_pos h5] at *
      rw [(begR_st y he).2, if_neg hne]
    · rw [if_neg h5] at *
      by_cases h7 : o.f0 = 7
      · rw [if_pos h7] at *
        rcases decR_st y he with ⟨_, _, _, h⟩ | ⟨st, _, _, h⟩ <;> rw [h, if_neg hne]
      · rw [if_neg h7] at *
        by_cases h6 : o.f0 = 6
        · rw [if_pos h6] at *
          rcases decR_st y he with ⟨_, _, _, h⟩ | ⟨st, _, _, h⟩ <;> rw [h, if_neg hne]
        · rw [if_neg h6] at *
          rfl
  · rw [doR_err he]
/-- Does the order say 'commit'? -/
def comm (o : S38) : Bool := decide (o.f0 = 6) && o.f4
theorem doR_begin {l : List S42} {o : S38} (h5 : o.f0 = 5) (he : (doR l o).2.1 = 0) : (stOf l o.f1 = none ∨ stOf l o.f1 = some 0) ∧ stOf (doR l o).1 o.f1 = some 0 := by
  unfold doR at *
  rw [if_pos h5] at *
  have := begR_st o.f1 he
  rw [if_pos rfl] at this
  exact this
theorem doR_decide {l : List S42} {o : S38} (h67 : o.f0 = 6 ∨ o.f0 = 7) (he : (doR l o).2.1 = 0) :
    (stOf l o.f1 = none ∧ comm o = false ∧ (doR l o).2.2.2.2.2 = false ∧ stOf (doR l o).1 o.f1 = some 2) ∨ (∃ st, stOf l o.f1 = some st ∧ (doR l o).2.2.2.2.2 = (decSt st (comm o) == 1) ∧ stOf (doR l o).1 o.f1 = some (decSt st (comm o))) := by
  have h5 : o.f0 ≠ 5 := by omega
  unfold doR comm at *
  rw [if_neg h5] at *
  by_cases h7 : o.f0 = 7
  · rw [if_pos h7] at *
    have h6 : ¬ o.f0 = 6 := by omega
    rw [decide_eq_false h6, Bool.false_and]
    have := decR_st o.f1 he
    simpa using this
  · rw [if_neg h7] at *
    have h6 : o.f0 = 6 := by omega
    rw [if_pos h6] at *
    rw [decide_eq_true h6, Bool.true_and]
    have := decR_st o.f1 he
    simpa using this
theorem doR_kind {l : List S42} {o : S38} (he : (doR l o).2.1 = 0) : o.f0 = 5 ∨ o.f0 = 6 ∨ o.f0 = 7 := by
  unfold doR at he
  by_cases h5 : o.f0 = 5
  · exact .inl h5
  · rw [if_neg h5] at he
    by_cases h7 : o.f0 = 7
    · exact .inr (.inr h7)
    · rw [if_neg h7] at he
      by_cases h6 : o.f0 = 6
      · exact .inr (.inl h6)
      · rw [if_neg h6] at he
        exact absurd he (show (1 : Int) ≠ 0 by decide)
theorem Inv.st {l : List S42} (h : Inv l) {y : S34} {st : Int} (hs : stOf l y = some st) : st = 0 ∨ st = 1 ∨ st = 2 := by
  unfold stOf at hs
  cases hp : plc l y with
  | none => rw [hp] at hs; cases hs
  | some i =>
    obtain ⟨j, rfl, hj, _⟩ := plc_some hp
    rw [hp] at hs
    have hs := Option.some.inj hs
    have h1 := h.at_ j hj
    rw [rightAt_eq, Bool.and_eq_true] at h1
    have h2 := h1.2
    unfold dealB at h2
    simp only [Bool.and_eq_true, Bool.not_eq_true', decide_eq_false_iff_not] at h2
    have h3 := h2.1
    have h4 := h2.2.1
    dsimp only at hs
    omega
end Go.Proofs.Ytdlkpejlkijgcaa.Pr
