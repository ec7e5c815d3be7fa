/- What has won, or is lost, stays so, whatever voices come behind: proved of the walked function. Conditions: none. -/
import Derived.Test.YtbjeoaklpcbocaaDefBallotTurns
namespace Go.Proofs.Ytbjeoaklpcbocaa.Pr
open Go.RowKit Go.Proofs.YtbjeoaklpcbocaaW.PrintWords Go.Proofs.YtbjeoaklpcbocaaW.PrintLast Go.Proofs.YtbjeoaklpcbocaaW.PrintMore
set_option linter.unusedVariables false
theorem cntN_mono : ∀ (vs : List Int) (S T : Int → Bool), (∀ x, S x = true → T x = true) → cntN vs S ≤ cntN vs T
  | [], _, _, _ => Nat.le_refl _
  | v :: r, S, T, h => by
    rw [cntN_cons, cntN_cons]
    have hl : ∀ x, (if x = v then false else S x) = true → (if x = v then false else T x) = true := fun x hx => by
      by_cases hxv : x = v
      · rw [if_pos hxv] at hx; cases hx
      · rw [if_neg hxv] at hx ⊢; exact h x hx
    cases hS : S v with
    | true =>
      rw [if_pos rfl, if_pos (h v hS)]
      exact Nat.succ_le_succ (cntN_mono r _ _ hl)
    | false =>
      rw [if_neg (by decide)]
      cases hT : T v with
      | true =>
        rw [if_pos rfl]
        refine Nat.le_succ_of_le (cntN_mono r _ _ fun x hx => ?_)
        by_cases hxv : x = v
        · rw [hxv, hS] at hx; cases hx
        · rw [if_neg hxv]; exact h x hx
      | false =>
        rw [if_neg (by decide)]
        exact cntN_mono r _ _ h
/-- Who has said yes has not said no. -/
theorem cntN_left : ∀ (vs : List Int) (S : Int → Bool) (V : S46 → Bool), (∀ x, S x = true → V ⟨x, false⟩ = false) → cntN vs S ≤ leftN vs V
  | [], _, _, _ => Nat.le_refl _
  | v :: r, S, V, h => by
    rw [cntN_cons, leftN_cons]
    cases hS : S v with
    | true =>
      rw [if_pos rfl, if_neg (by rw [h v hS]; decide)]
      refine Nat.succ_le_succ (cntN_left r _ _ fun x hx => ?_)
      by_cases hxv : x = v
      · rw [if_pos hxv] at hx; cases hx
      · rw [if_neg hxv] at hx; exact h x hx
    | false =>
      rw [if_neg (by decide)]
      have := cntN_left r S V h
      split <;> omega
theorem leftN_mono : ∀ (vs : List Int) (V V' : S46 → Bool), (∀ x, V x = true → V' x = true) → leftN vs V' ≤ leftN vs V
  | [], _, _, _ => Nat.le_refl _
  | v :: r, V, V', h => by
    rw [leftN_cons, leftN_cons]
    have := leftN_mono r V V' h
    by_cases h1 : V ⟨v, false⟩ = true
    · rw [if_pos h1, if_pos (h _ h1)]; exact this
    · rw [if_neg h1]
      split <;> omega
/-- Who is told to have said yes has said so; nobody has said both. -/
def okSt (st : List S46 × List Int) : Prop := (∀ x ∈ st.2, (⟨x, true⟩ : S46) ∈ st.1) ∧ ∀ x : Int, (⟨x, true⟩ : S46) ∈ st.1 → (⟨x, false⟩ : S46) ∈ st.1 → False
theorem stepV_okSt (st : List S46 × List Int) (v : S46) (h : okSt st) : okSt (stepV st v) := by
  obtain ⟨v0, v1⟩ := v
  unfold stepV
  dsimp only
  split
  · exact h
  · rename_i hA
    split
    · exact h
    · have hA' : (⟨v0, !v1⟩ : S46) ∉ st.1 := fun hm => hA (decide_eq_true hm)
      obtain ⟨h1, h2⟩ := h
      refine ⟨fun x hx => ?_, fun x ht hf => ?_⟩
      · dsimp only at hx ⊢
        cases v1 with
        | true =>
          rw [if_pos rfl] at hx
          rcases List.mem_append.1 hx with hx | hx
          · exact List.mem_append.2 (.inl (h1 x hx))
          · rw [List.mem_singleton.1 hx]; exact List.mem_append.2 (.inr (List.mem_singleton.2 rfl))
        | false =>
          rw [if_neg (by decide)] at hx
          exact List.mem_append.2 (.inl (h1 x hx))
      · dsimp only at ht hf
        rcases List.mem_append.1 ht with ht1 | ht1
        · rcases List.mem_append.1 hf with hf1 | hf1
          · exact h2 x ht1 hf1
          · have e := List.mem_singleton.1 hf1
            injection e with e0 e1
            subst e0
            subst e1
            exact hA' ht1
        · have e := List.mem_singleton.1 ht1
          injection e with e0 e1
          subst e0
          subst e1
          rcases List.mem_append.1 hf with hf1 | hf1
          · exact hA' hf1
          · have e := List.mem_singleton.1 hf1
            injection e with e0 e1
            cases e1
theorem foldV_okSt (l : List S46) : okSt (foldV l) := by
  have go : ∀ (r : List S46) (st : List S46 × List Int), okSt st → okSt (r.foldl stepV st) := by
    intro r
    induction r with
    | nil => intro st h; exact h
    | cons v r ih => intro st h; exact ih _ (stepV_okSt st v h)
  exact go l _ ⟨fun x hx => (List.not_mem_nil hx).elim, fun x hx => (List.not_mem_nil hx).elim⟩
theorem stepV_more (st : List S46 × List Int) (v : S46) : (∀ x ∈ st.1, x ∈ (stepV st v).1) ∧ ∀ x ∈ st.2, x ∈ (stepV st v).2 := by
  unfold stepV
  split
  · exact ⟨fun _ h => h, fun _ h => h⟩
  · split
    · exact ⟨fun _ h => h, fun _ h => h⟩
    · refine ⟨fun x h => List.mem_append.2 (.inl h), fun x h => ?_⟩
      dsimp only
      split
      · exact List.mem_append.2 (.inl h)
      · exact h
/-- What has won, or is lost, stays so. -/
theorem count_stays (vs : List Int) (l : List S46) (v : S46) (h : countV vs l ≠ 0) : countV vs (sayV l v) = countV vs l := by
  unfold sayV
  split
  · rfl
  · have hv : (⟨v.f0, v.f1⟩ : S46) = v := by cases v; rfl
    rw [hv]
    have hs := stepV_more (foldV l) v
    have ho := stepV_okSt _ v (foldV_okSt l)
    rw [← foldV_snoc] at hs ho
    unfold countV at h ⊢
    have hm := cntN_mono vs (inL (foldV l).2) (inL (foldV (l ++ [v])).2) (fun x hx => decide_eq_true (hs.2 x (of_decide_eq_true hx)))
    have hl := leftN_mono vs (inV (foldV l).1) (inV (foldV (l ++ [v])).1) (fun x hx => decide_eq_true (hs.1 x (of_decide_eq_true hx)))
    have hc := cntN_left vs (inL (foldV (l ++ [v])).2) (inV (foldV (l ++ [v])).1) (fun x hx => decide_eq_false (fun hf => ho.2 x (ho.1 x (of_decide_eq_true hx)) hf))
    by_cases h1 : (cntN vs (inL (foldV l).2) : Int) ≥ needI vs.length
    · rw [if_pos h1, if_pos (by omega)]
    · rw [if_neg h1] at h ⊢
      by_cases h2 : (leftN vs (inV (foldV l).1) : Int) < needI vs.length
      · rw [if_pos h2, if_neg (by omega), if_pos (by omega)]
      · rw [if_neg h2] at h
        exact absurd rfl h
theorem count_one (vs : List Int) (l : List S46) : countV vs l = 0 ∨ countV vs l = 1 ∨ countV vs l = 2 := by
  unfold countV
  split
  · exact .inr (.inl rfl)
  · split
    · exact .inr (.inr rfl)
    · exact .inl rfl
theorem turns_one (vs : List Int) : ∀ (more l : List S46), ∃ n, turnsF vs more l (countV vs l) = some n ∧ (n = 0 ∨ n = 1 ∨ n = 2)
  | [], l => ⟨_, rfl, count_one vs l⟩
  | v :: r, l => by
    obtain ⟨n, h1, h2⟩ := turns_one vs r (sayV l v)
    refine ⟨n, ?_, h2⟩
    rw [turnsF_cons, if_neg (fun h => h.2 (count_stays vs l v h.1)), h1]
end Go.Proofs.Ytbjeoaklpcbocaa.Pr
namespace Go.Proofs.Ytbjeoaklpcbocaa.Pure
open Go.RowKit Go.Proofs.Ytbjeoaklpcbocaa.Pr Go.Proofs.YtbjeoaklpcbocaaW.PrintWords Go.Proofs.YtbjeoaklpcbocaaW.PrintLast Go.Proofs.YtbjeoaklpcbocaaW.PrintMore
theorem BallotTurns : ferrulelaw07_BallotTurns.Pure := by
  intro vs ls l more hq hl hm
  obtain ⟨n, h1, h2⟩ := turns_one vs more l
  have hz : (wfI vs && (wfV l && wfV more)) = true ∧ l.length + more.length < 8796093022207 := by
    refine ⟨?_, ?_⟩
    · simp only [Bool.and_eq_true]
      exact ⟨List.all_eq_true.2 hq.1.2.2, List.all_eq_true.2 fun x hx => (hl.2.2 x hx).1, List.all_eq_true.2 fun x hx => (hm.2.2 x hx).1⟩
    · have h3 := hl.2.1
      have h4 := hm.2.1
      omega
  unfold ferrulelaw07_BallotTurns.f
  rw [if_pos hz, h1, Option.bind_some, if_pos h2]
end Go.Proofs.Ytbjeoaklpcbocaa.Pure
