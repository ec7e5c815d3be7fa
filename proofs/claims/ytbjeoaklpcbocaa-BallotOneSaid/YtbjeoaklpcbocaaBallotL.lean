/- The plain law of BallotOne: seats that vote once a term, two majorities of one list. Conditions: none. -/
import Derived.Test.YtbjeoaklpcbocaaPr5
import Derived.Test.YtbjeoaklpcbocaaHandLawO
namespace Go.Proofs.Ytbjeoaklpcbocaa.Pr
open Go.RowKit Go.Proofs.YtbjeoaklpcbocaaW.PrintWords Go.Proofs.YtbjeoaklpcbocaaW.PrintLast Go.Proofs.YtbjeoaklpcbocaaW.PrintMore
theorem upK {α : Type} {f : Nat → Option α} (hm : ∀ k, LeO (f k) (f (k + 1))) {k k' : Nat} (h : k ≤ k') {r : α} (hr : f k = some r) : f k' = some r := by
  induction h with
  | refl => exact hr
  | step _ ih => exact hm _ _ ih
theorem w64 (n : Int) (h0 : -9223372036854775808 ≤ n) (h1 : n < 9223372036854775808) : wrap64 n = n := by unfold wrap64; omega
theorem w64s {n m : Nat} (h : n < m) (hm : m ≤ 9223372036854775807) : wrap64 ((n : Int) + 1) = ((n + 1 : Nat) : Int) := by rw [w64] <;> omega
theorem rd_at (l : List Int) (i : Nat) (h : i < l.length) : rd l (i : Int) = l[i] := by simp [rd, h]
theorem drop_at (l : List Int) (i : Nat) (h : i < l.length) : l.drop i = rd l (i : Int) :: l.drop (i + 1) := by rw [rd_at l i h]; exact List.drop_eq_getElem_cons h
/-! Has -/
theorem has_l (l : List Int) (x : Int) (hl : l.length ≤ 9223372036854775807) : ∀ m i, i + m = l.length → ∃ k, ferruleref06_Has.l0 k l x (i : Int) = some (decide (x ∈ l.drop i)) := by
  intro m
  induction m with
  | zero =>
    intro i hi
    refine ⟨1, ?_⟩
    simp only [ferruleref06_Has.l0]
    rw [if_neg (by omega), List.drop_of_length_le (by omega)]
    simp
  | succ m ih =>
    intro i hi
    obtain ⟨k, hk⟩ := ih (i + 1) (by omega)
    refine ⟨k + 1, ?_⟩
    simp only [ferruleref06_Has.l0]
    rw [if_pos (by omega), if_pos (by omega), drop_at l i (by omega), w64s (m := l.length) (by omega) hl, hk]
    by_cases h : rd l (i : Int) = x
    · rw [if_pos h]; simp [h]
    · rw [if_neg h]
      have h2 : ¬ x = rd l (i : Int) := fun e => h e.symm
      simp [h2]
theorem has_f (l : List Int) (x : Int) (hl : l.length ≤ 9223372036854775807) : ∃ k, ferruleref06_Has.f k l x = some (decide (x ∈ l)) := by
  obtain ⟨k, hk⟩ := has_l l x hl l.length 0 (by omega)
  exact ⟨k, by simpa [ferruleref06_Has.f] using hk⟩
/-! rises, May -/
theorem rises_l (l : List Int) (hl : l.length ≤ 9223372036854775807) : ∀ m i, i + m = l.length → ∃ k b, ferruleref06_rises.l0 k l (i : Int) = some b ∧ (b = true → ∀ j, i ≤ j → j < l.length → 0 < j → rd l ((j - 1 : Nat) : Int) < rd l (j : Int)) := by
  intro m
  induction m with
  | zero =>
    intro i hi
    refine ⟨1, true, ?_, fun _ j h1 h2 => by omega⟩
    simp only [ferruleref06_rises.l0]
    rw [if_neg (by omega)]
  | succ m ih =>
    intro i hi
    obtain ⟨k, b, hk, hb⟩ := ih (i + 1) (by omega)
    by_cases h1 : rd l (i : Int) < 1
    · refine ⟨1, false, ?_, fun h => by cases h⟩
      simp only [ferruleref06_rises.l0]
      rw [if_pos (by omega), if_pos (by omega), if_pos h1]
    by_cases h2 : rd l (i : Int) > 63
    · refine ⟨1, false, ?_, fun h => by cases h⟩
      simp only [ferruleref06_rises.l0]
      rw [if_pos (by omega), if_pos (by omega), if_neg h1, if_pos h2]
    by_cases h3 : (i : Int) > 0
    · have hw : wrap64 ((i : Int) - 1) = ((i - 1 : Nat) : Int) := by rw [w64] <;> omega
      by_cases h4 : rd l (i : Int) ≤ rd l ((i - 1 : Nat) : Int)
      · refine ⟨1, false, ?_, fun h => by cases h⟩
        simp only [ferruleref06_rises.l0]
        rw [if_pos (by omega), if_pos (by omega), if_neg h1, if_neg h2, if_pos h3, hw, if_pos (by omega), if_pos (by omega), if_pos h4]
      · refine ⟨k + 1, b, ?_, fun hbt j hj1 hj2 hj3 => ?_⟩
        · simp only [ferruleref06_rises.l0]
          rw [if_pos (by omega), if_pos (by omega), if_neg h1, if_neg h2, if_pos h3, hw, if_pos (by omega), if_pos (by omega), if_neg h4, w64s (m := l.length) (by omega) hl, hk]
        · by_cases hji : j = i
          · subst hji; omega
          · exact hb hbt j (by omega) hj2 hj3
    · refine ⟨k + 1, b, ?_, fun hbt j hj1 hj2 hj3 => ?_⟩
      · simp only [ferruleref06_rises.l0]
        rw [if_pos (by omega), if_pos (by omega), if_neg h1, if_neg h2, if_neg h3, w64s (m := l.length) (by omega) hl, hk]
      · exact hb hbt j (by omega) hj2 hj3
theorem rises_f (l : List Int) (hl : l.length ≤ 9223372036854775807) : ∃ k b, ferruleref06_rises.f k l = some b ∧ (b = true → ∀ j, j < l.length → 0 < j → rd l ((j - 1 : Nat) : Int) < rd l (j : Int)) := by
  obtain ⟨k, b, hk, hb⟩ := rises_l l hl l.length 0 (by omega)
  exact ⟨k, b, hk, fun h j h1 h2 => hb h j (by omega) h1 h2⟩
theorem may_l (vs ls : List Int) (hv : vs.length ≤ 9223372036854775807) (hl : ls.length ≤ 9223372036854775807) : ∀ m i, i + m = ls.length → ∃ k b, ferruleref06_May.l0 k (i : Int) vs ls = some b := by
  intro m
  induction m with
  | zero =>
    intro i hi
    refine ⟨1, true, ?_⟩
    simp only [ferruleref06_May.l0]
    rw [if_neg (by omega)]
  | succ m ih =>
    intro i hi
    obtain ⟨k, b, hk⟩ := ih (i + 1) (by omega)
    obtain ⟨k2, hk2⟩ := has_f vs (rd ls (i : Int)) hv
    have h1 := upK (f := fun k => ferruleref06_Has.f k vs (rd ls (i : Int))) (fun k => ferruleref06_Has.mono _ _ k) (Nat.le_max_right k k2) hk2
    have h2 := upK (f := fun k => ferruleref06_May.l0 k ((i + 1 : Nat) : Int) vs ls) (fun k => (ferruleref06_May.mono_l k).2 _ _ _) (Nat.le_max_left k k2) hk
    by_cases hc : rd ls (i : Int) ∈ vs
    · refine ⟨max k k2 + 1, false, ?_⟩
      simp only [ferruleref06_May.l0]
      rw [if_pos (by omega), if_pos (by omega), h1]
      simp [hc]
    · refine ⟨max k k2 + 1, b, ?_⟩
      simp only [ferruleref06_May.l0]
      rw [if_pos (by omega), if_pos (by omega), h1, w64s (m := ls.length) (by omega) hl]
      simp only [hc, decide_false, Option.bind_some]
      rw [if_neg (by decide)]
      exact h2
theorem may_j (c : Bool) (vs ls : List Int) (hv : vs.length ≤ 9223372036854775807) (hl : ls.length ≤ 9223372036854775807) : ∃ k b, ferruleref06_May.j0 k c vs ls = some b ∧ (b = true → c = false) := by
  cases c with
  | true => exact ⟨1, false, rfl, fun h => by cases h⟩
  | false =>
    obtain ⟨k, b, hk⟩ := may_l vs ls hv hl ls.length 0 (by omega)
    exact ⟨k + 1, b, hk, fun _ => rfl⟩
theorem may_f (vs ls : List Int) (hv : vs.length ≤ 9223372036854775807) (hl : ls.length ≤ 9223372036854775807) : ∃ k b, ferruleref06_May.f k vs ls = some b ∧ (b = true → 1 ≤ vs.length ∧ vs.length ≤ 7 ∧ ∀ j, j < vs.length → 0 < j → rd vs ((j - 1 : Nat) : Int) < rd vs (j : Int)) := by
  obtain ⟨k1, b1, h1, g1⟩ := rises_f vs hv
  obtain ⟨k2, b2, h2, _⟩ := rises_f ls hl
  obtain ⟨c, hc⟩ : ∃ c : Bool, c = (!(b1 && b2) || decide ((vs.length : Int) < 1) || decide ((vs.length : Int) > 7) || decide ((ls.length : Int) > 3)) := ⟨_, rfl⟩
  obtain ⟨k3, b, h3, g3⟩ := may_j c vs ls hv hl
  have e1 := upK (f := fun k => ferruleref06_rises.f k vs) (fun k => ferruleref06_rises.mono _ k) (show k1 ≤ k1 + k2 + k3 by omega) h1
  have e2 := upK (f := fun k => ferruleref06_rises.f k ls) (fun k => ferruleref06_rises.mono _ k) (show k2 ≤ k1 + k2 + k3 by omega) h2
  have e3 := upK (f := fun k => ferruleref06_May.j0 k c vs ls) (fun k => (ferruleref06_May.mono_l k).1 _ _ _) (show k3 ≤ k1 + k2 + k3 by omega) h3
  refine ⟨k1 + k2 + k3, b, ?_, fun hb => ?_⟩
  · unfold ferruleref06_May.f
    rw [e1, e2]
    simp only [Option.bind_some]
    cases b1 with
    | false => rw [if_neg (by decide), ← e3, hc]; simp
    | true =>
      rw [if_pos rfl]
      cases b2 with
      | false => rw [if_neg (by decide), ← e3, hc]; simp
      | true =>
        rw [if_pos rfl]
        by_cases h4 : (vs.length : Int) < 1
        · rw [if_pos h4, ← e3, hc]; simp [h4]
        · rw [if_neg h4]
          by_cases h5 : (vs.length : Int) > 7
          · rw [if_pos h5, ← e3, hc]; simp [h5]
          · rw [if_neg h5, ← e3, hc]; simp [h4, h5]
  · have hf := g3 hb
    rw [hc] at hf
    simp only [Bool.or_eq_false_iff, Bool.not_eq_false', Bool.and_eq_true, decide_eq_false_iff_not] at hf
    obtain ⟨⟨⟨⟨hb1, _⟩, h4⟩, h5⟩, _⟩ := hf
    exact ⟨by omega, by omega, g1 hb1⟩
/-! Most -/
theorem most_l (vs ls ids : List Int) (hv : vs.length ≤ 7) (hi : ids.length ≤ 9223372036854775807) (hnd : ∀ i, i < vs.length → ¬ rd vs (i : Int) ∈ vs.take i) : ∀ m i (c : Nat), i + m = vs.length → c ≤ i →
    ∃ k, ferruleref06_Most.l0 k ids (c : Int) (i : Int) vs ls = some (decide (vs.length / 2 + 1 ≤ c + ((vs.drop i).filter (fun x => decide (x ∈ ids))).length)) := by
  intro m
  induction m with
  | zero =>
    intro i c him hc
    refine ⟨1, ?_⟩
    simp only [ferruleref06_Most.l0]
    rw [if_neg (by omega), List.drop_of_length_le (by omega)]
    have hw : wrap64 (wrap64 ((vs.length : Int) / 2) + 1) = ((vs.length / 2 + 1 : Nat) : Int) := by rw [w64, w64] <;> (try rw [w64]) <;> omega
    rw [hw]
    refine congrArg some (decide_eq_decide.mpr ?_)
    simp only [List.filter_nil, List.length_nil, Nat.add_zero]
    omega
  | succ m ih =>
    intro i c him hc
    obtain ⟨k1, h1⟩ := has_f (vs.take i) (rd vs (i : Int)) (by rw [List.length_take]; omega)
    obtain ⟨k2, h2⟩ := has_f ids (rd vs (i : Int)) hi
    have hnot := hnd i (by omega)
    by_cases hin : rd vs (i : Int) ∈ ids
    · obtain ⟨k3, h3⟩ := ih (i + 1) (c + 1) (by omega) (by omega)
      have e1 := upK (f := fun k => ferruleref06_Has.f k (vs.take i) (rd vs (i : Int))) (fun k => ferruleref06_Has.mono _ _ k) (show k1 ≤ k1 + k2 + k3 by omega) h1
      have e2 := upK (f := fun k => ferruleref06_Has.f k ids (rd vs (i : Int))) (fun k => ferruleref06_Has.mono _ _ k) (show k2 ≤ k1 + k2 + k3 by omega) h2
      have e3 := upK (f := fun k => ferruleref06_Most.l0 k ids ((c + 1 : Nat) : Int) ((i + 1 : Nat) : Int) vs ls) (fun k => (ferruleref06_Most.mono_l k) _ _ _ _ _) (show k3 ≤ k1 + k2 + k3 by omega) h3
      refine ⟨k1 + k2 + k3 + 1, ?_⟩
      simp only [ferruleref06_Most.l0]
      rw [if_pos (by omega), if_pos (by omega), if_pos (by omega), Int.toNat_natCast, e1, e2, w64s (m := 8) (by omega) (by omega), w64s (m := 8) (by omega) (by omega), e3, drop_at vs i (by omega)]
      simp only [hin, hnot, decide_true, decide_false, Option.bind_some, List.filter_cons, if_true, List.length_cons]
      rw [if_neg (by decide), Nat.add_assoc, Nat.add_comm 1]
    · obtain ⟨k3, h3⟩ := ih (i + 1) c (by omega) (by omega)
      have e1 := upK (f := fun k => ferruleref06_Has.f k (vs.take i) (rd vs (i : Int))) (fun k => ferruleref06_Has.mono _ _ k) (show k1 ≤ k1 + k2 + k3 by omega) h1
      have e2 := upK (f := fun k => ferruleref06_Has.f k ids (rd vs (i : Int))) (fun k => ferruleref06_Has.mono _ _ k) (show k2 ≤ k1 + k2 + k3 by omega) h2
      have e3 := upK (f := fun k => ferruleref06_Most.l0 k ids (c : Int) ((i + 1 : Nat) : Int) vs ls) (fun k => (ferruleref06_Most.mono_l k) _ _ _ _ _) (show k3 ≤ k1 + k2 + k3 by omega) h3
      refine ⟨k1 + k2 + k3 + 1, ?_⟩
      simp only [ferruleref06_Most.l0]
      rw [if_pos (by omega), if_pos (by omega), if_pos (by omega), Int.toNat_natCast, e1, e2, w64s (n := i) (m := 8) (by omega) (by omega), e3, drop_at vs i (by omega)]
      simp only [hin, decide_false, Option.bind_some, List.filter_cons]
      rw [if_neg (by decide), if_neg (by decide)]
def mostB (vs ids : List Int) : Bool := decide (vs.length / 2 + 1 ≤ (vs.filter (fun x => decide (x ∈ ids))).length)
theorem most_f (vs ls ids : List Int) (hv : vs.length ≤ 7) (hi : ids.length ≤ 9223372036854775807) (hnd : ∀ i, i < vs.length → ¬ rd vs (i : Int) ∈ vs.take i) : ∃ k, ferruleref06_Most.f k vs ls ids = some (mostB vs ids) := by
  obtain ⟨k, hk⟩ := most_l vs ls ids hv hi hnd vs.length 0 0 (by omega) (by omega)
  exact ⟨k, by simpa [ferruleref06_Most.f, mostB] using hk⟩
theorem both_of {p q : Int → Bool} : ∀ (l : List Int), l.length < (l.filter p).length + (l.filter q).length → ∃ x ∈ l, p x = true ∧ q x = true := by
  intro l
  induction l with
  | nil => intro h; simp at h
  | cons a l ih =>
    intro h
    by_cases hp : p a = true
    · by_cases hq : q a = true
      · exact ⟨a, List.mem_cons_self, hp, hq⟩
      · simp only [List.filter_cons, hp, hq, if_true, List.length_cons] at h
        obtain ⟨x, hx, h1⟩ := ih (by simp at h; omega)
        exact ⟨x, List.mem_cons_of_mem _ hx, h1⟩
    · simp only [List.filter_cons, hp, List.length_cons] at h
      by_cases hq : q a = true
      · obtain ⟨x, hx, h1⟩ := ih (by simp [hq] at h; omega)
        exact ⟨x, List.mem_cons_of_mem _ hx, h1⟩
      · obtain ⟨x, hx, h1⟩ := ih (by simp [hq] at h; omega)
        exact ⟨x, List.mem_cons_of_mem _ hx, h1⟩
theorem most_both {vs a b : List Int} (ha : mostB vs a = true) (hb : mostB vs b = true) : ∃ x ∈ vs, x ∈ a ∧ x ∈ b := by
  simp only [mostB, decide_eq_true_eq] at ha hb
  obtain ⟨x, hx, h1, h2⟩ := both_of (p := fun x => decide (x ∈ a)) (q := fun x => decide (x ∈ b)) vs (by omega)
  exact ⟨x, hx, by simpa using h1, by simpa using h2⟩
end Go.Proofs.Ytbjeoaklpcbocaa.Pr
