/- What the document's printed functions come to, as plain lists. Conditions: none. -/
import Derived.Test.YtdlkpejlkijgcaaCoordL
import Derived.Test.YtdlkpejlkijgcaaPr10
import Derived.Test.YtdlkpejlkijgcaaPr12
namespace Go.Proofs.Ytdlkpejlkijgcaa.Pr
open Go.RowKit Go.Proofs.YtdlkpejlkijgcaaW.PrintWords Go.Proofs.YtdlkpejlkijgcaaW.PrintLast Go.Proofs.YtdlkpejlkijgcaaW.PrintMore
set_option linter.unusedVariables false
set_option linter.unusedSimpArgs false
theorem refMay_ev (l : List Int) : Ev (fun k => ferruleref14_May.f k l) (mayB l) := by
  unfold mayB lenB
  by_cases h1 : 1 ≤ l.length
  · by_cases h8 : l.length ≤ 8
    · have h : ∀ d j : Nat, j + d = l.length → Ev (fun k => ferruleref14_May.l0 k l (j : Int)) ((List.range' j d).all (mayAt l)) := fun d => by
        induction d with
        | zero =>
          intro j hj
          have hs : ∀ k, ferruleref14_May.l0 (k + 1) l (j : Int) = some true := fun k => by rw [ferruleref14_May.l0, if_neg (by omega)]
          simpa using Ev.step hs (Ev.now true)
        | succ d ih =>
          intro j hj
          have hs : ∀ k, ferruleref14_May.l0 (k + 1) l (j : Int) = if mayAt l j = true then ferruleref14_May.l0 k l ((j + 1 : Nat) : Int) else some false := fun k => by
            rw [ferruleref14_May.l0, if_pos (by omega), if_pos (by omega), wr_succ (by omega)]
            exact may_step (by omega) (by omega) _
          refine Ev.step hs ?_
          rw [List.range'_succ, List.all_cons]
          cases mayAt l j with
          | true => simpa using ih (j + 1) (by omega)
          | false => simpa using Ev.now false
      have h0 := h l.length 0 (by omega)
      refine Ev.congr (f := fun k => ferruleref14_May.j0 k l false) (fun k => ?_) ?_
      · rw [ferruleref14_May.f, if_neg (by omega), decide_eq_false (by omega)]
      · refine Ev.step (f := fun k => ferruleref14_May.l0 k l 0) (fun k => by rw [ferruleref14_May.j0, if_neg (by simp)]) ?_
        rw [decide_eq_true h1, decide_eq_true h8, Bool.and_self, Bool.and_true]
        exact h0
    · refine Ev.congr (f := fun k => ferruleref14_May.j0 k l true) (fun k => ?_) (Ev.step (f := fun _ => some false) (fun k => by rw [ferruleref14_May.j0, if_pos rfl]) ?_)
      · rw [ferruleref14_May.f, if_neg (by omega), decide_eq_true (by omega)]
      · rw [decide_eq_false h8, Bool.and_false, Bool.and_false]
        exact Ev.now false
  · refine Ev.congr (f := fun k => ferruleref14_May.j0 k l true) (fun k => ?_) (Ev.step (f := fun _ => some false) (fun k => by rw [ferruleref14_May.j0, if_pos rfl]) ?_)
    · rw [ferruleref14_May.f, if_pos (by omega)]
    · rw [decide_eq_false h1, Bool.false_and, Bool.and_false]
      exact Ev.now false
theorem s34_beq (x : S34) (a b : Int) : (x.f0 == a && (x.f1 == b)) = true ↔ x = ⟨a, b⟩ := by
  cases x
  simp
theorem place_ev (l : List S42) (a b : Int) (hl : l.length < 4611686018427387904) : Ev (fun k => ferruleref14_place.f k l a b) (plcI l ⟨a, b⟩) := by
  have h : ∀ d j : Nat, j + d = l.length → (∀ m : Nat, m < j → (rd_T42 l (m : Int)).f0 ≠ ⟨a, b⟩) → Ev (fun k => ferruleref14_place.l0 k (j : Int) l a b) (plcI l ⟨a, b⟩) := fun d => by
    induction d with
    | zero =>
      intro j hj hm
      have hs : ∀ k, ferruleref14_place.l0 (k + 1) (j : Int) l a b = some (-1) := fun k => by rw [ferruleref14_place.l0, if_neg (by omega)]
      have hn : plcI l ⟨a, b⟩ = -1 := by
        unfold plcI
        cases hp : plc l ⟨a, b⟩ with
        | none => rfl
        | some i =>
          obtain ⟨q, _, hq, hqy, _⟩ := plc_some hp
          exact absurd hqy (hm q (by omega))
      rw [hn]
      exact Ev.step hs (Ev.now _)
    | succ d ih =>
      intro j hj hm
      have hs : ∀ k, ferruleref14_place.l0 (k + 1) (j : Int) l a b = if (rd_T42 l (j : Int)).f0 = ⟨a, b⟩ then some (j : Int) else ferruleref14_place.l0 k ((j + 1 : Nat) : Int) l a b := fun k => by
        rw [ferruleref14_place.l0, if_pos (by omega), if_pos (by omega), wr_succ (by omega)]
        by_cases he : (rd_T42 l (j : Int)).f0 = ⟨a, b⟩
        · rw [if_pos ((s34_beq _ _ _).2 he), if_pos he]
        · rw [if_neg (fun h => he ((s34_beq _ _ _).1 h)), if_neg he]
      refine Ev.step hs ?_
      by_cases he : (rd_T42 l (j : Int)).f0 = ⟨a, b⟩
      · simp only [if_pos he]
        rw [show plcI l ⟨a, b⟩ = (j : Int) by unfold plcI; rw [plc_eq (by omega) he hm]]
        exact Ev.now _
      · simp only [if_neg he]
        refine ih (j + 1) (by omega) (fun m hmj => ?_)
        by_cases e : m = j
        · rw [e]; exact he
        · exact hm m (by omega)
  exact h l.length 0 (by omega) (fun m hm => by omega)
theorem find_ev (l : List S42) (a b : Int) (hl : l.length < 4611686018427387904) : Ev (fun k => ferruleref14_Find.f k l a b) (findR l ⟨a, b⟩) := by
  unfold ferruleref14_Find.f
  refine Ev.bind (place_ev l a b hl) ?_
  unfold plcI findR
  cases hp : plc l ⟨a, b⟩ with
  | none => exact Ev.congr (f := fun _ => some (0, 0, ([] : List Int), 0, false)) (fun k => by rw [if_pos (by decide)]) (Ev.now _)
  | some i =>
    obtain ⟨q, rfl, hq, _⟩ := plc_some hp
    exact Ev.congr (f := fun _ => some ((rd_T42 l (q : Int)).f0.f0, (rd_T42 l (q : Int)).f0.f1, (rd_T42 l (q : Int)).f1, (rd_T42 l (q : Int)).f2, true)) (fun k => by dsimp only; rw [if_neg (by omega), if_pos (by omega), if_pos (by omega)]) (Ev.now _)
theorem right_ev (l : List S42) : Ev (fun k => ferruleref14_Right.f k l) (rightB l) := by
  unfold rightB
  by_cases h64 : l.length ≤ 64
  · have h : ∀ d j : Nat, j + d = l.length → Ev (fun k => ferruleref14_Right.l0 k (j : Int) l) ((List.range' j d).all (rightAt l)) := fun d => by
      induction d with
      | zero =>
        intro j hj
        have hs : ∀ k, ferruleref14_Right.l0 (k + 1) (j : Int) l = some true := fun k => by rw [ferruleref14_Right.l0, if_neg (by omega)]
        simpa using Ev.step hs (Ev.now true)
      | succ d ih =>
        intro j hj
        have ih := ih (j + 1) (by omega)
        rw [List.range'_succ, List.all_cons]
        refine Ev.step (f := fun k => _) (fun k => by rw [ferruleref14_Right.l0, if_pos (by omega), if_pos (by omega), wr_succ (by omega)]) ?_
        refine Ev.bind (refMay_ev _) (Ev.bind (place_ev _ _ _ (by omega)) ?_)
        have hrr : plcI l ⟨(rd_T42 l (j : Int)).f0.f0, (rd_T42 l (j : Int)).f0.f1⟩ = plcI l (rd_T42 l (j : Int)).f0 := rfl
        rw [hrr]
        generalize (List.range' (j + 1) d).all (rightAt l) = R at ih ⊢
        unfold rightAt
        by_cases h1 : plcI l (rd_T42 l (j : Int)).f0 = (j : Int)
        rotate_left
        · simpa [h1] using Ev.now false
        by_cases h2 : (rd_T42 l (j : Int)).f2 < 0
        · simpa [h1, h2] using Ev.now false
        by_cases h3 : (rd_T42 l (j : Int)).f2 > 2
        · simpa [h1, h2, h3] using Ev.now false
        cases hM : mayB (rd_T42 l (j : Int)).f1 with
        | true => simpa [h1, h2, h3] using ih
        | false =>
          by_cases h4 : ((rd_T42 l (j : Int)).f1.length : Int) > 0
          · have h4' : ¬ (rd_T42 l (j : Int)).f1 = [] := by intro e; rw [e] at h4; simp at h4
            have h4n : 0 < (rd_T42 l (j : Int)).f1.length := by omega
            simpa [h1, h2, h3, h4, h4', h4n] using Ev.now false
          · have h4' : (rd_T42 l (j : Int)).f1 = [] := List.eq_nil_of_length_eq_zero (by omega)
            have h4n : ¬ 0 < (rd_T42 l (j : Int)).f1.length := by omega
            by_cases h5 : (rd_T42 l (j : Int)).f2 = 2
            · simpa [h1, h2, h3, h4, h4', h5, h4n] using ih
            · simpa [h1, h2, h3, h4, h4', h5, h4n] using Ev.now false
    refine Ev.congr (f := fun k => ferruleref14_Right.l0 k 0 l) (fun k => by rw [ferruleref14_Right.f, if_neg (by omega)]) ?_
    rw [decide_eq_true h64, Bool.true_and]
    exact h l.length 0 (by omega)
  · refine Ev.congr (f := fun k => some false) (fun k => by rw [ferruleref14_Right.f, if_pos (by omega)]) ?_
    rw [decide_eq_false h64, Bool.false_and]
    exact Ev.now false
end Go.Proofs.Ytdlkpejlkijgcaa.Pr
