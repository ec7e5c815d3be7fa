/- The document's Ahead answers as serial.Ahead. Conditions: none. -/
import Derived.Test.YtbadlkhelhomjaaHandAhead
import Derived.Test.YtbadlkhelhomjaaPr1
namespace Go.Proofs.Ytbadlkhelhomjaa.Pr
open Go.RowKit Go.Proofs.YtbadlkhelhomjaaW.PrintWords Go.Proofs.YtbadlkhelhomjaaW.PrintLast Go.Proofs.YtbadlkhelhomjaaW.PrintMore
set_option linter.unusedVariables false
theorem wrap64_in {x : Int} (h0 : -9223372036854775808 ≤ x) (h1 : x < 9223372036854775808) : wrap64 x = x := by
  simp [wrap64]
  omega
theorem any_or (p q : S40 → Bool) (l : List S40) : (l.any fun x => p x || q x) = (l.any p || l.any q) := by
  induction l with
  | nil => rfl
  | cons x l ih =>
    simp only [List.any_cons, ih]
    cases p x <;> cases q x <;> simp
theorem any_drop (p : S40 → Bool) (l : List S40) (j : Nat) (h : j < l.length) : (l.drop j).any p = (p (rd_T40 l (j : Int)) || (l.drop (j + 1)).any p) := by
  rw [List.drop_eq_getElem_cons h, rd_at l j h]
  rfl
theorem step17 {α : Type} (x y : S40) (t X : α) : (if x.f0 = y.f0 then (if x.f1.toList = y.f1.toList then (if x.f2 ≤ y.f2 then t else X) else X) else X) = if pM17 x y = true then t else X := by
  unfold pM17 plB
  by_cases h1 : x.f0 = y.f0
  · by_cases h2 : x.f1.toList = y.f1.toList
    · by_cases h3 : x.f2 ≤ y.f2 <;> simp [h1, h2, h3]
    · simp [h1, h2]
  · simp [h1]
theorem step18 {α : Type} (x y : S40) (t X : α) : (if x.f0 = y.f0 then (if x.f1.toList = y.f1.toList then (if x.f2 < y.f2 then t else X) else X) else X) = if pM18 x y = true then t else X := by
  unfold pM18 plB
  by_cases h1 : x.f0 = y.f0
  · by_cases h2 : x.f1.toList = y.f1.toList
    · by_cases h3 : x.f2 < y.f2 <;> simp [h1, h2, h3]
    · simp [h1, h2]
  · simp [h1]
section
variable (p0 p1 p2 p3 : Int) (ra wa : List S40) (q0 q1 q2 q3 : Int) (rb wb : List S40) (hra : ra.length < 4611686018427387904) (hwa : wa.length < 4611686018427387904) (hrb : rb.length < 4611686018427387904) (hwb : wb.length < 4611686018427387904)
include hwb in
theorem ref_l4 (x : S40) (i : Nat) (r : Bool) (hr : Ev (fun k => ferruleref21_Ahead.l3 k ((i + 1 : Nat) : Int) p0 p1 p2 p3 ra wa q0 q1 q2 q3 rb wb) r) (hi : i < 4611686018427387904) (d : Nat) : ∀ j : Nat, j + d = wb.length → Ev (fun k => ferruleref21_Ahead.l4 k (i : Int) (j : Int) p0 p1 p2 p3 ra wa q0 q1 q2 q3 rb wb x.f0 x.f1 x.f2) ((wb.drop j).any (pM18 x) || r) := by
  have hwi : wrap64 ((i : Int) + 1) = ((i + 1 : Nat) : Int) := by rw [wrap64_in (by omega) (by omega)]; omega
  induction d with
  | zero =>
    intro j hj
    rw [List.drop_of_length_le (by omega)]
    refine Ev.step (fun k => ?_) hr
    rw [ferruleref21_Ahead.l4, if_neg (by omega)]
    all_goals first | rfl | rw [hwi]
  | succ d ih =>
    intro j hj
    have hw : wrap64 ((j : Int) + 1) = ((j + 1 : Nat) : Int) := by rw [wrap64_in (by omega) (by omega)]; omega
    rw [any_drop _ _ _ (by omega)]
    have hst : ∀ k, ferruleref21_Ahead.l4 (k + 1) (i : Int) (j : Int) p0 p1 p2 p3 ra wa q0 q1 q2 q3 rb wb x.f0 x.f1 x.f2 = if pM18 x (rd_T40 wb (j : Int)) = true then some true else ferruleref21_Ahead.l4 k (i : Int) ((j + 1 : Nat) : Int) p0 p1 p2 p3 ra wa q0 q1 q2 q3 rb wb x.f0 x.f1 x.f2 := fun k => by
      rw [ferruleref21_Ahead.l4, if_pos (by omega), if_pos (by omega), hw, step18]
    refine Ev.step hst ?_
    cases pM18 x (rd_T40 wb (j : Int)) with
    | true => simpa using Ev.now true
    | false => simpa using ih (j + 1) (by omega)
include hra hwb in
theorem ref_l3 (d : Nat) : ∀ i : Nat, i + d = ra.length → Ev (fun k => ferruleref21_Ahead.l3 k (i : Int) p0 p1 p2 p3 ra wa q0 q1 q2 q3 rb wb) ((ra.drop i).any fun x => wb.any (pM18 x)) := by
  induction d with
  | zero =>
    intro i hi
    rw [List.drop_of_length_le (by omega)]
    refine Ev.step (f := fun _ => some false) (fun k => ?_) (Ev.now _)
    rw [ferruleref21_Ahead.l3, if_neg (by omega)]
  | succ d ih =>
    intro i hi
    rw [any_drop _ _ _ (by omega)]
    have hst : ∀ k, ferruleref21_Ahead.l3 (k + 1) (i : Int) p0 p1 p2 p3 ra wa q0 q1 q2 q3 rb wb = ferruleref21_Ahead.l4 k (i : Int) ((0 : Nat) : Int) p0 p1 p2 p3 ra wa q0 q1 q2 q3 rb wb (rd_T40 ra (i : Int)).f0 (rd_T40 ra (i : Int)).f1 (rd_T40 ra (i : Int)).f2 := fun k => by
      rw [ferruleref21_Ahead.l3, if_pos (by omega), if_pos (by omega)]
      rfl
    refine Ev.step hst ?_
    exact ref_l4 p0 p1 p2 p3 ra wa q0 q1 q2 q3 rb wb hwb (rd_T40 ra (i : Int)) i _ (ih (i + 1) (by omega)) (by omega) wb.length 0 (by omega)
include hwb in
theorem ref_l2 (x : S40) (i : Nat) (r : Bool) (hr : Ev (fun k => ferruleref21_Ahead.l0 k ((i + 1 : Nat) : Int) p0 p1 p2 p3 ra wa q0 q1 q2 q3 rb wb) r) (hi : i < 4611686018427387904) (d : Nat) : ∀ j : Nat, j + d = wb.length → Ev (fun k => ferruleref21_Ahead.l2 k (i : Int) (j : Int) p0 p1 p2 p3 ra wa q0 q1 q2 q3 rb wb x.f0 x.f1 x.f2) ((wb.drop j).any (pM18 x) || r) := by
  have hwi : wrap64 ((i : Int) + 1) = ((i + 1 : Nat) : Int) := by rw [wrap64_in (by omega) (by omega)]; omega
  induction d with
  | zero =>
    intro j hj
    rw [List.drop_of_length_le (by omega)]
    refine Ev.step (fun k => ?_) hr
    rw [ferruleref21_Ahead.l2, if_neg (by omega)]
    all_goals first | rfl | rw [hwi]
  | succ d ih =>
    intro j hj
    have hw : wrap64 ((j : Int) + 1) = ((j + 1 : Nat) : Int) := by rw [wrap64_in (by omega) (by omega)]; omega
    rw [any_drop _ _ _ (by omega)]
    have hst : ∀ k, ferruleref21_Ahead.l2 (k + 1) (i : Int) (j : Int) p0 p1 p2 p3 ra wa q0 q1 q2 q3 rb wb x.f0 x.f1 x.f2 = if pM18 x (rd_T40 wb (j : Int)) = true then some true else ferruleref21_Ahead.l2 k (i : Int) ((j + 1 : Nat) : Int) p0 p1 p2 p3 ra wa q0 q1 q2 q3 rb wb x.f0 x.f1 x.f2 := fun k => by
      rw [ferruleref21_Ahead.l2, if_pos (by omega), if_pos (by omega), hw, step18]
    refine Ev.step hst ?_
    cases pM18 x (rd_T40 wb (j : Int)) with
    | true => simpa using Ev.now true
    | false => simpa using ih (j + 1) (by omega)
include hrb in
theorem ref_l1 (x : S40) (i : Nat) (r : Bool) (hr : Ev (fun k => ferruleref21_Ahead.l2 k (i : Int) 0 p0 p1 p2 p3 ra wa q0 q1 q2 q3 rb wb x.f0 x.f1 x.f2) r) (hi : i < 4611686018427387904) (d : Nat) : ∀ j : Nat, j + d = rb.length → Ev (fun k => ferruleref21_Ahead.l1 k (i : Int) (j : Int) p0 p1 p2 p3 ra wa q0 q1 q2 q3 rb wb x.f0 x.f1 x.f2) ((rb.drop j).any (pM17 x) || r) := by
  have hwi : wrap64 ((i : Int) + 1) = ((i + 1 : Nat) : Int) := by rw [wrap64_in (by omega) (by omega)]; omega
  induction d with
  | zero =>
    intro j hj
    rw [List.drop_of_length_le (by omega)]
    refine Ev.step (fun k => ?_) hr
    rw [ferruleref21_Ahead.l1, if_neg (by omega)]
    all_goals first | rfl | rw [hwi]
  | succ d ih =>
    intro j hj
    have hw : wrap64 ((j : Int) + 1) = ((j + 1 : Nat) : Int) := by rw [wrap64_in (by omega) (by omega)]; omega
    rw [any_drop _ _ _ (by omega)]
    have hst : ∀ k, ferruleref21_Ahead.l1 (k + 1) (i : Int) (j : Int) p0 p1 p2 p3 ra wa q0 q1 q2 q3 rb wb x.f0 x.f1 x.f2 = if pM17 x (rd_T40 rb (j : Int)) = true then some true else ferruleref21_Ahead.l1 k (i : Int) ((j + 1 : Nat) : Int) p0 p1 p2 p3 ra wa q0 q1 q2 q3 rb wb x.f0 x.f1 x.f2 := fun k => by
      rw [ferruleref21_Ahead.l1, if_pos (by omega), if_pos (by omega), hw, step17]
    refine Ev.step hst ?_
    cases pM17 x (rd_T40 rb (j : Int)) with
    | true => simpa using Ev.now true
    | false => simpa using ih (j + 1) (by omega)
include hra hwa hrb hwb in
theorem ref_l0 (d : Nat) : ∀ i : Nat, i + d = wa.length → Ev (fun k => ferruleref21_Ahead.l0 k (i : Int) p0 p1 p2 p3 ra wa q0 q1 q2 q3 rb wb) (((wa.drop i).any fun x => rb.any (pM17 x) || wb.any (pM18 x)) || meet18 ra wb) := by
  induction d with
  | zero =>
    intro i hi
    rw [List.drop_of_length_le (by omega)]
    have h := ref_l3 p0 p1 p2 p3 ra wa q0 q1 q2 q3 rb wb hra hwb ra.length 0 (by omega)
    refine Ev.step (fun k => ?_) h
    rw [ferruleref21_Ahead.l0, if_neg (by omega)]
    rfl
  | succ d ih =>
    intro i hi
    rw [any_drop _ _ _ (by omega)]
    have hst : ∀ k, ferruleref21_Ahead.l0 (k + 1) (i : Int) p0 p1 p2 p3 ra wa q0 q1 q2 q3 rb wb = ferruleref21_Ahead.l1 k (i : Int) ((0 : Nat) : Int) p0 p1 p2 p3 ra wa q0 q1 q2 q3 rb wb (rd_T40 wa (i : Int)).f0 (rd_T40 wa (i : Int)).f1 (rd_T40 wa (i : Int)).f2 := fun k => by
      rw [ferruleref21_Ahead.l0, if_pos (by omega), if_pos (by omega)]
      rfl
    refine Ev.step hst ?_
    have h2 := ref_l2 p0 p1 p2 p3 ra wa q0 q1 q2 q3 rb wb hwb (rd_T40 wa (i : Int)) i _ (ih (i + 1) (by omega)) (by omega) wb.length 0 (by omega)
    have h1 := ref_l1 p0 p1 p2 p3 ra wa q0 q1 q2 q3 rb wb hrb (rd_T40 wa (i : Int)) i _ h2 (by omega) rb.length 0 (by omega)
    rw [List.drop_zero, List.drop_zero, ← Bool.or_assoc, ← Bool.or_assoc] at h1
    exact h1
include hra hwa hrb hwb in
theorem ref_ahead (hp : 0 ≤ p3) : Ev (fun k => ferruleref21_Ahead.f k p0 p1 p2 p3 ra wa q0 q1 q2 q3 rb wb) (aheadB ⟨⟨p0, p1⟩, p2, p3, ra, wa⟩ ⟨⟨q0, q1⟩, q2, q3, rb, wb⟩) := by
  have hj : ∀ b : Bool, Ev (fun k => ferruleref21_Ahead.j0 k b p0 p1 p2 p3 ra wa q0 q1 q2 q3 rb wb) (b || (((wa.drop 0).any fun x => rb.any (pM17 x) || wb.any (pM18 x)) || meet18 ra wb)) := fun b => by
    refine Ev.step (f := fun k => if b = true then some true else ferruleref21_Ahead.l0 k ((0 : Nat) : Int) p0 p1 p2 p3 ra wa q0 q1 q2 q3 rb wb) (fun k => ?_) ?_
    · rw [ferruleref21_Ahead.j0]
      rfl
    · cases b with
      | true => simpa using Ev.now true
      | false => simpa using ref_l0 p0 p1 p2 p3 ra wa q0 q1 q2 q3 rb wb hra hwa hrb hwb wa.length 0 (by omega)
  have e : aheadB ⟨⟨p0, p1⟩, p2, p3, ra, wa⟩ ⟨⟨q0, q1⟩, q2, q3, rb, wb⟩ = ((!(p3 == 0) && decide (p3 < q2)) || (((wa.drop 0).any fun x => rb.any (pM17 x) || wb.any (pM18 x)) || meet18 ra wb)) := by
    have h : (wa.any fun x => rb.any (pM17 x) || wb.any (pM18 x)) = (meet17 wa rb || meet18 wa wb) := by
      unfold meet17 meet18
      exact any_or _ _ _
    unfold aheadB
    rw [List.drop_zero, h]
    simp only
    cases meet17 wa rb <;> cases meet18 wa wb <;> cases meet18 ra wb <;> simp
  rw [e]
  unfold ferruleref21_Ahead.f
  by_cases h0 : p3 > 0
  · have hne : (p3 == 0) = false := by simp; omega
    rw [hne]
    simp only [h0, if_true, Bool.not_false, Bool.true_and]
    exact hj _
  · have hz : p3 = 0 := by omega
    subst hz
    simpa using hj false
end
end Go.Proofs.Ytbadlkhelhomjaa.Pr
