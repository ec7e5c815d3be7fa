/- What the printed functions of coord come to, as plain lists. Conditions: none. -/
import Derived.Test.YtdlkpejlkijgcaaPr7
import Derived.Test.YtdlkpejlkijgcaaPr10
import Derived.Test.YtdlkpejlkijgcaaPr12
import Derived.Test.YtdlkpejlkijgcaaOps
namespace Go.Proofs.Ytdlkpejlkijgcaa.Pr
open Go.RowKit Go.Proofs.YtdlkpejlkijgcaaW.PrintWords Go.Proofs.YtdlkpejlkijgcaaW.PrintLast Go.Proofs.YtdlkpejlkijgcaaW.PrintMore
set_option linter.unusedVariables false
set_option linter.unusedSimpArgs false
theorem wrap64_in {x : Int} (h0 : -9223372036854775808 ≤ x) (h1 : x < 9223372036854775808) : wrap64 x = x := by
  simp [wrap64]
  omega
theorem wr_succ {j : Nat} (h : j < 4611686018427387904) : wrap64 ((j : Int) + 1) = ((j + 1 : Nat) : Int) := by rw [wrap64_in (by omega) (by omega)]; omega
/-- May a part stand there? -/
def mayAt (l : List Int) (j : Nat) : Bool := !(decide (rd l (j : Int) < 1)) && (!(decide (rd l (j : Int) > 63)) && (decide (j = 0) || !(decide (rd l ((j : Int) - 1) ≥ rd l (j : Int)))))
def lenB (l : List Int) : Bool := decide (1 ≤ l.length) && decide (l.length ≤ 8)
def mayB (l : List Int) : Bool := (List.range' 0 l.length).all (mayAt l) && lenB l
theorem may_step {l : List Int} {j : Nat} (hj : j < l.length) (hl : l.length < 4611686018427387904) (X : Option Bool) :
    (if (rd l (j : Int)) < 1 then (some false) else (if (rd l (j : Int)) > 63 then (some false) else (if (j : Int) > 0 then (if 0 ≤ (wrap64 ((j : Int) - 1)) then (if (wrap64 ((j : Int) - 1)) < (l.length : Int) then (if (rd l (wrap64 ((j : Int) - 1))) ≥ (rd l (j : Int)) then (some false) else X) else (none)) else (none)) else X))) = if mayAt l j = true then X else some false := by
  unfold mayAt
  by_cases h1 : rd l (j : Int) < 1
  · simp [h1]
  by_cases h2 : rd l (j : Int) > 63
  · simp [h1, h2]
  rw [if_neg h1, if_neg h2]
  by_cases h3 : j = 0
  · subst h3
    have h1' : ¬ rd l 0 < 1 := h1
    have h2' : ¬ rd l 0 > 63 := h2
    rw [if_neg (by omega)]
    simp [h1', h2']
  · rw [if_pos (by omega), wrap64_in (by omega) (by omega), if_pos (by omega), if_pos (by omega)]
    by_cases h4 : rd l ((j : Int) - 1) ≥ rd l (j : Int)
    · rw [if_pos h4]; simp [h4, h3]
    · rw [if_neg h4]; simp [h1, h2, h3, h4]
theorem may_ev (l : List Int) (hl : l.length < 4611686018427387904) : Ev (fun k => coord_may.f k l) (mayB l) := by
  have h : ∀ d j : Nat, j + d = l.length → Ev (fun k => coord_may.l0 k l l (l.length : Int) (j : Int)) ((List.range' j d).all (mayAt l) && lenB l) := fun d => by
    induction d with
    | zero =>
      intro j hj
      have hs : ∀ k, coord_may.l0 (k + 1) l l (l.length : Int) (j : Int) = some (lenB l) := fun k => by
        rw [coord_may.l0, if_neg (by omega)]
        unfold lenB
        by_cases h : (l.length : Int) ≥ 1
        · rw [if_pos h, decide_eq_true (show 1 ≤ l.length by omega), Bool.true_and]
          congr 1
          exact decide_eq_decide.2 (by omega)
        · rw [if_neg h, decide_eq_false (show ¬ 1 ≤ l.length by omega), Bool.false_and]
      simpa using Ev.step hs (Ev.now _)
    | succ d ih =>
      intro j hj
      have hs : ∀ k, coord_may.l0 (k + 1) l l (l.length : Int) (j : Int) = if mayAt l j = true then coord_may.l0 k l l (l.length : Int) ((j + 1 : Nat) : Int) else some false := fun k => by
        rw [coord_may.l0, if_pos (by omega), if_pos (by omega), if_pos (by omega), wr_succ (by omega), may_step (by omega) hl]
      refine Ev.step hs ?_
      rw [List.range'_succ, List.all_cons]
      cases mayAt l j with
      | true => simpa using ih (j + 1) (by omega)
      | false => simpa using Ev.now false
  exact h l.length 0 (by omega)
theorem refMay_ev (l : List Int) : Ev (fun k => ferruleref14_May.f k l) (mayB l) := by
  unfold mayB lenB
  by_cases h1 : 1 ≤ l.length
  · by_cases h8 : l.length ≤ 8
    · have h : ∀ d j : Nat, j + d = l.length → Ev (fun k => ferruleref14_May.l0 k l (j : Int)) ((List.range' j d).all (mayAt l)) := fun d => by
        induction d with
        | zero =>
          intro j hj
          have hs : ∀ k, ferruleref14_May.l0 (k + 1) l (j : Int) = some true := fun k => by rw [ferruleref14_May.l0, if_neg (by omega)]
          simpa using Ev.step hs (Ev.now true)
        | succ d ih =>
          intro j hj
          have hs : ∀ k, ferruleref14_May.l0 (k + 1) l (j : Int) = if mayAt l j = true then ferruleref14_May.l0 k l ((j + 1 : Nat) : Int) else some false := fun k => by
            rw [ferruleref14_May.l0, if_pos (by omega), if_pos (by omega), wr_succ (by omega)]
            exact may_step (by omega) (by omega) _
          refine Ev.step hs ?_
          rw [List.range'_succ, List.all_cons]
          cases mayAt l j with
          | true => simpa using ih (j + 1) (by omega)
          | false => simpa using Ev.now false
      have h0 := h l.length 0 (by omega)
      refine Ev.congr (f := fun k => ferruleref14_May.j0 k l false) (fun k => ?_) ?_
      · rw [ferruleref14_May.f, if_neg (by omega), decide_eq_false (by omega)]
      · refine Ev.step (f := fun k => ferruleref14_May.l0 k l 0) (fun k => by rw [ferruleref14_May.j0, if_neg (by simp)]) ?_
        rw [decide_eq_true h1, decide_eq_true h8, Bool.and_self, Bool.and_true]
        exact h0
    · refine Ev.congr (f := fun k => ferruleref14_May.j0 k l true) (fun k => ?_) (Ev.step (f := fun _ => some false) (fun k => by rw [ferruleref14_May.j0, if_pos rfl]) ?_)
      · rw [ferruleref14_May.f, if_neg (by omega), decide_eq_true (by omega)]
      · rw [decide_eq_false h8, Bool.and_false, Bool.and_false]
        exact Ev.now false
  · refine Ev.congr (f := fun k => ferruleref14_May.j0 k l true) (fun k => ?_) (Ev.step (f := fun _ => some false) (fun k => by rw [ferruleref14_May.j0, if_pos rfl]) ?_)
    · rw [ferruleref14_May.f, if_pos (by omega)]
    · rw [decide_eq_false h1, Bool.false_and, Bool.and_false]
      exact Ev.now false
/-- Are two lists of parts the same? -/
def eqB (a b : List Int) : Bool := decide (a.length = b.length) && (List.range' 0 a.length).all (fun j => decide (rd a (j : Int) = rd b (j : Int)))
theorem equal_ev (a b : List Int) (hl : a.length < 4611686018427387904) : Ev (fun k => slices_Equal_uint64_uint64.f k a b) (eqB a b) := by
  unfold eqB
  by_cases hlen : a.length = b.length
  · have h : ∀ d j : Nat, j + d = a.length → Ev (fun k => slices_Equal_uint64_uint64.l0 k a b (a.length : Int) (j : Int)) ((List.range' j d).all (fun j => decide (rd a (j : Int) = rd b (j : Int)))) := fun d => by
      induction d with
      | zero =>
        intro j hj
        have hs : ∀ k, slices_Equal_uint64_uint64.l0 (k + 1) a b (a.length : Int) (j : Int) = some true := fun k => by rw [slices_Equal_uint64_uint64.l0, if_neg (by omega)]
        simpa using Ev.step hs (Ev.now true)
      | succ d ih =>
        intro j hj
        have hs : ∀ k, slices_Equal_uint64_uint64.l0 (k + 1) a b (a.length : Int) (j : Int) = if rd a (j : Int) = rd b (j : Int) then slices_Equal_uint64_uint64.l0 k a b (a.length : Int) ((j + 1 : Nat) : Int) else some false := fun k => by
          rw [slices_Equal_uint64_uint64.l0, if_pos (by omega), if_pos (by omega), if_pos (by omega), if_pos (by omega), wr_succ (by omega)]
        refine Ev.step hs ?_
        rw [List.range'_succ, List.all_cons]
        by_cases he : rd a (j : Int) = rd b (j : Int)
        · simpa [he] using ih (j + 1) (by omega)
        · simpa [he] using Ev.now false
    refine Ev.congr (f := fun k => slices_Equal_uint64_uint64.l0 k a b (a.length : Int) 0) (fun k => by rw [slices_Equal_uint64_uint64.f, if_pos (by omega)]) ?_
    rw [decide_eq_true hlen, Bool.true_and]
    exact h a.length 0 (by omega)
  · refine Ev.congr (f := fun k => some false) (fun k => by rw [slices_Equal_uint64_uint64.f, if_neg (by omega)]) ?_
    rw [decide_eq_false hlen, Bool.false_and]
    exact Ev.now false
theorem plc_eq {l : List S42} {y : S34} {j : Nat} (hj : j < l.length) (hy : (rd_T42 l (j : Int)).f0 = y) (hm : ∀ m : Nat, m < j → (rd_T42 l (m : Int)).f0 ≠ y) : plc l y = some (j : Int) := by
  cases h : plc l y with
  | none => exact absurd hy (plc_none h j hj)
  | some i =>
    obtain ⟨q, rfl, hq, hqy, hqm⟩ := plc_some h
    have : q = j := by
      rcases Nat.lt_trichotomy q j with h | h | h
      · exact absurd hqy (hm q h)
      · exact h
      · exact absurd hy (hqm j h)
    rw [this]
def plcI (l : List S42) (y : S34) : Int := match plc l y with | none => -1 | some i => i
theorem s34_beq (x : S34) (a b : Int) : (x.f0 == a && (x.f1 == b)) = true ↔ x = ⟨a, b⟩ := by
  cases x
  simp
theorem place_ev (l : List S42) (a b : Int) (hl : l.length < 4611686018427387904) : Ev (fun k => ferruleref14_place.f k l a b) (plcI l ⟨a, b⟩) := by
  have h : ∀ d j : Nat, j + d = l.length → (∀ m : Nat, m < j → (rd_T42 l (m : Int)).f0 ≠ ⟨a, b⟩) → Ev (fun k => ferruleref14_place.l0 k (j : Int) l a b) (plcI l ⟨a, b⟩) := fun d => by
    induction d with
    | zero =>
      intro j hj hm
      have hs : ∀ k, ferruleref14_place.l0 (k + 1) (j : Int) l a b = some (-1) := fun k => by rw [ferruleref14_place.l0, if_neg (by omega)]
      have hn : plcI l ⟨a, b⟩ = -1 := by
        unfold plcI
        cases hp : plc l ⟨a, b⟩ with
        | none => rfl
        | some i =>
          obtain ⟨q, _, hq, hqy, _⟩ := plc_some hp
          exact absurd hqy (hm q (by omega))
      rw [hn]
      exact Ev.step hs (Ev.now _)
    | succ d ih =>
      intro j hj hm
      have hs : ∀ k, ferruleref14_place.l0 (k + 1) (j : Int) l a b = if (rd_T42 l (j : Int)).f0 = ⟨a, b⟩ then some (j : Int) else ferruleref14_place.l0 k ((j + 1 : Nat) : Int) l a b := fun k => by
        rw [ferruleref14_place.l0, if_pos (by omega), if_pos (by omega), wr_succ (by omega)]
        by_cases he : (rd_T42 l (j : Int)).f0 = ⟨a, b⟩
        · rw [if_pos ((s34_beq _ _ _).2 he), if_pos he]
        · rw [if_neg (fun h => he ((s34_beq _ _ _).1 h)), if_neg he]
      refine Ev.step hs ?_
      by_cases he : (rd_T42 l (j : Int)).f0 = ⟨a, b⟩
      · simp only [if_pos he]
        rw [show plcI l ⟨a, b⟩ = (j : Int) by unfold plcI; rw [plc_eq (by omega) he hm]]
        exact Ev.now _
      · simp only [if_neg he]
        refine ih (j + 1) (by omega) (fun m hmj => ?_)
        by_cases e : m = j
        · rw [e]; exact he
        · exact hm m (by omega)
  exact h l.length 0 (by omega) (fun m hm => by omega)
def findR (l : List S42) (y : S34) : Int × Int × List Int × Int × Bool := match plc l y with | none => (0, 0, [], 0, false) | some i => ((rd_T42 l i).f0.f0, (rd_T42 l i).f0.f1, (rd_T42 l i).f1, (rd_T42 l i).f2, true)
theorem find_ev (l : List S42) (a b : Int) (hl : l.length < 4611686018427387904) : Ev (fun k => ferruleref14_Find.f k l a b) (findR l ⟨a, b⟩) := by
  unfold ferruleref14_Find.f
  refine Ev.bind (place_ev l a b hl) ?_
  unfold plcI findR
  cases hp : plc l ⟨a, b⟩ with
  | none => exact Ev.congr (f := fun _ => some (0, 0, ([] : List Int), 0, false)) (fun k => by rw [if_pos (by decide)]) (Ev.now _)
  | some i =>
    obtain ⟨q, rfl, hq, _⟩ := plc_some hp
    exact Ev.congr (f := fun _ => some ((rd_T42 l (q : Int)).f0.f0, (rd_T42 l (q : Int)).f0.f1, (rd_T42 l (q : Int)).f1, (rd_T42 l (q : Int)).f2, true)) (fun k => by dsimp only; rw [if_neg (by omega), if_pos (by omega), if_pos (by omega)]) (Ev.now _)
/-- Is a deal right where it stands? -/
def rightAt (l : List S42) (j : Nat) : Bool := decide (plcI l (rd_T42 l (j : Int)).f0 = (j : Int)) && (!(decide ((rd_T42 l (j : Int)).f2 < 0)) && (!(decide ((rd_T42 l (j : Int)).f2 > 2)) && (mayB (rd_T42 l (j : Int)).f1 || (!(decide (((rd_T42 l (j : Int)).f1.length : Int) > 0)) && decide ((rd_T42 l (j : Int)).f2 = 2)))))
def rightB (l : List S42) : Bool := decide (l.length ≤ 64) && (List.range' 0 l.length).all (rightAt l)
theorem right_ev (l : List S42) : Ev (fun k => ferruleref14_Right.f k l) (rightB l) := by
  unfold rightB
  by_cases h64 : l.length ≤ 64
  · have h : ∀ d j : Nat, j + d = l.length → Ev (fun k => ferruleref14_Right.l0 k (j : Int) l) ((List.range' j d).all (rightAt l)) := fun d => by
      induction d with
      | zero =>
        intro j hj
        have hs : ∀ k, ferruleref14_Right.l0 (k + 1) (j : Int) l = some true := fun k => by rw [ferruleref14_Right.l0, if_neg (by omega)]
        simpa using Ev.step hs (Ev.now true)
      | succ d ih =>
        intro j hj
        have ih := ih (j + 1) (by omega)
        rw [List.range'_succ, List.all_cons]
        refine Ev.step (f := fun k => _) (fun k => by rw [ferruleref14_Right.l0, if_pos (by omega), if_pos (by omega), wr_succ (by omega)]) ?_
        refine Ev.bind (refMay_ev _) (Ev.bind (place_ev _ _ _ (by omega)) ?_)
        have hrr : plcI l ⟨(rd_T42 l (j : Int)).f0.f0, (rd_T42 l (j : Int)).f0.f1⟩ = plcI l (rd_T42 l (j : Int)).f0 := rfl
        rw [hrr]
        generalize (List.range' (j + 1) d).all (rightAt l) = R at ih ⊢
        unfold rightAt
        by_cases h1 : plcI l (rd_T42 l (j : Int)).f0 = (j : Int)
        rotate_left
        · simpa [h1] using Ev.now false
        by_cases h2 : (rd_T42 l (j : Int)).f2 < 0
        · simpa [h1, h2] using Ev.now false
        by_cases h3 : (rd_T42 l (j : Int)).f2 > 2
        · simpa [h1, h2, h3] using Ev.now false
        cases hM : mayB (rd_T42 l (j : Int)).f1 with
        | true => simpa [h1, h2, h3] using ih
        | false =>
          by_cases h4 : ((rd_T42 l (j : Int)).f1.length : Int) > 0
          · have h4' : ¬ (rd_T42 l (j : Int)).f1 = [] := by intro e; rw [e] at h4; simp at h4
            have h4n : 0 < (rd_T42 l (j : Int)).f1.length := by omega
            simpa [h1, h2, h3, h4, h4', h4n] using Ev.now false
          · have h4' : (rd_T42 l (j : Int)).f1 = [] := List.eq_nil_of_length_eq_zero (by omega)
            have h4n : ¬ 0 < (rd_T42 l (j : Int)).f1.length := by omega
            by_cases h5 : (rd_T42 l (j : Int)).f2 = 2
            · simpa [h1, h2, h3, h4, h4', h5, h4n] using ih
            · simpa [h1, h2, h3, h4, h4', h5, h4n] using Ev.now false
    refine Ev.congr (f := fun k => ferruleref14_Right.l0 k 0 l) (fun k => by rw [ferruleref14_Right.f, if_neg (by omega)]) ?_
    rw [decide_eq_true h64, Bool.true_and]
    exact h l.length 0 (by omega)
  · refine Ev.congr (f := fun k => some false) (fun k => by rw [ferruleref14_Right.f, if_pos (by omega)]) ?_
    rw [decide_eq_false h64, Bool.false_and]
    exact Ev.now false
end Go.Proofs.Ytdlkpejlkijgcaa.Pr
