/- What the printed functions of coord come to, as plain lists. Conditions: none. -/
import Derived.Test.YtdlkpejlkijgcaaPr7
import Derived.Test.YtdlkpejlkijgcaaOps
namespace Go.Proofs.Ytdlkpejlkijgcaa.Pr
open Go.RowKit Go.Proofs.YtdlkpejlkijgcaaW.PrintWords Go.Proofs.YtdlkpejlkijgcaaW.PrintLast Go.Proofs.YtdlkpejlkijgcaaW.PrintMore
set_option linter.unusedVariables false
set_option linter.unusedSimpArgs false
theorem wrap64_in {x : Int} (h0 : -9223372036854775808 ≤ x) (h1 : x < 9223372036854775808) : wrap64 x = x := by
  simp [wrap64]
  omega
theorem wr_succ {j : Nat} (h : j < 4611686018427387904) : wrap64 ((j : Int) + 1) = ((j + 1 : Nat) : Int) := by rw [wrap64_in (by omega) (by omega)]; omega
/-- May a part stand there? -/
def mayAt (l : List Int) (j : Nat) : Bool := !(decide (rd l (j : Int) < 1)) && (!(decide (rd l (j : Int) > 63)) && (decide (j = 0) || !(decide (rd l ((j : Int) - 1) ≥ rd l (j : Int)))))
def lenB (l : List Int) : Bool := decide (1 ≤ l.length) && decide (l.length ≤ 8)
def mayB (l : List Int) : Bool := (List.range' 0 l.length).all (mayAt l) && lenB l
theorem may_step {l : List Int} {j : Nat} (hj : j < l.length) (hl : l.length < 4611686018427387904) (X : Option Bool) :
    (if (rd l (j : Int)) < 1 then (some false) else (if (rd l (j : Int)) > 63 then (some false) else (if (j : Int) > 0 then (if 0 ≤ (wrap64 ((j : Int) - 1)) then (if (wrap64 ((j : Int) - 1)) < (l.length : Int) then (if (rd l (wrap64 ((j : Int) - 1))) ≥ (rd l (j : Int)) then (some false) else X) else (none)) else (none)) else X))) = if mayAt l j = true then X else some false := by
  unfold mayAt
  by_cases h1 : rd l (j : Int) < 1
  · simp [h1]
  by_cases h2 : rd l (j : Int) > 63
  · simp [h1, h2]
  rw [if_neg h1, if_neg h2]
  by_cases h3 : j = 0
  · subst h3
    have h1' : ¬ rd l 0 < 1 := h1
    have h2' : ¬ rd l 0 > 63 := h2
    rw [if_neg (by omega)]
    simp [h1', h2']
  · rw [if_pos (by omega), wrap64_in (by omega) (by omega), if_pos (by omega), if_pos (by omega)]
    by_cases h4 : rd l ((j : Int) - 1) ≥ rd l (j : Int)
    · rw [if_pos h4]; simp [h4, h3]
    · rw [if_neg h4]; simp [h1, h2, h3, h4]
theorem may_ev (l : List Int) (hl : l.length < 4611686018427387904) : Ev (fun k => coord_may.f k l) (mayB l) := by
  have h : ∀ d j : Nat, j + d = l.length → Ev (fun k => coord_may.l0 k l l (l.length : Int) (j : Int)) ((List.range' j d).all (mayAt l) && lenB l) := fun d => by
    induction d with
    | zero =>
      intro j hj
      have hs : ∀ k, coord_may.l0 (k + 1) l l (l.length : Int) (j : Int) = some (lenB l) := fun k => by
        rw [coord_may.l0, if_neg (by omega)]
        unfold lenB
        by_cases h : (l.length : Int) ≥ 1
        · rw [if_pos h, decide_eq_true (show 1 ≤ l.length by omega), Bool.true_and]
          congr 1
          exact decide_eq_decide.2 (by omega)
        · rw [if_neg h, decide_eq_false (show ¬ 1 ≤ l.length by omega), Bool.false_and]
      simpa using Ev.step hs (Ev.now _)
    | succ d ih =>
      intro j hj
      have hs : ∀ k, coord_may.l0 (k + 1) l l (l.length : Int) (j : Int) = if mayAt l j = true then coord_may.l0 k l l (l.length : Int) ((j + 1 : Nat) : Int) else some false := fun k => by
        rw [coord_may.l0, if_pos (by omega), if_pos (by omega), if_pos (by omega), wr_succ (by omega), may_step (by omega) hl]
      refine Ev.step hs ?_
      rw [List.range'_succ, List.all_cons]
      cases mayAt l j with
      | true => simpa using ih (j + 1) (by omega)
      | false => simpa using Ev.now false
  exact h l.length 0 (by omega)
/-- Are two lists of parts the same? -/
def eqB (a b : List Int) : Bool := decide (a.length = b.length) && (List.range' 0 a.length).all (fun j => decide (rd a (j : Int) = rd b (j : Int)))
theorem equal_ev (a b : List Int) (hl : a.length < 4611686018427387904) : Ev (fun k => slices_Equal_uint64_uint64.f k a b) (eqB a b) := by
  unfold eqB
  by_cases hlen : a.length = b.length
  · have h : ∀ d j : Nat, j + d = a.length → Ev (fun k => slices_Equal_uint64_uint64.l0 k a b (a.length : Int) (j : Int)) ((List.range' j d).all (fun j => decide (rd a (j : Int) = rd b (j : Int)))) := fun d => by
      induction d with
      | zero =>
        intro j hj
        have hs : ∀ k, slices_Equal_uint64_uint64.l0 (k + 1) a b (a.length : Int) (j : Int) = some true := fun k => by rw [slices_Equal_uint64_uint64.l0, if_neg (by omega)]
        simpa using Ev.step hs (Ev.now true)
      | succ d ih =>
        intro j hj
        have hs : ∀ k, slices_Equal_uint64_uint64.l0 (k + 1) a b (a.length : Int) (j : Int) = if rd a (j : Int) = rd b (j : Int) then slices_Equal_uint64_uint64.l0 k a b (a.length : Int) ((j + 1 : Nat) : Int) else some false := fun k => by
          rw [slices_Equal_uint64_uint64.l0, if_pos (by omega), if_pos (by omega), if_pos (by omega), if_pos (by omega), wr_succ (by omega)]
        refine Ev.step hs ?_
        rw [List.range'_succ, List.all_cons]
        by_cases he : rd a (j : Int) = rd b (j : Int)
        · simpa [he] using ih (j + 1) (by omega)
        · simpa [he] using Ev.now false
    refine Ev.congr (f := fun k => slices_Equal_uint64_uint64.l0 k a b (a.length : Int) 0) (fun k => by rw [slices_Equal_uint64_uint64.f, if_pos (by omega)]) ?_
    rw [decide_eq_true hlen, Bool.true_and]
    exact h a.length 0 (by omega)
  · refine Ev.congr (f := fun k => some false) (fun k => by rw [slices_Equal_uint64_uint64.f, if_neg (by omega)]) ?_
    rw [decide_eq_false hlen, Bool.false_and]
    exact Ev.now false
theorem plc_eq {l : List S42} {y : S34} {j : Nat} (hj : j < l.length) (hy : (rd_T42 l (j : Int)).f0 = y) (hm : ∀ m : Nat, m < j → (rd_T42 l (m : Int)).f0 ≠ y) : plc l y = some (j : Int) := by
  cases h : plc l y with
  | none => exact absurd hy (plc_none h j hj)
  | some i =>
    obtain ⟨q, rfl, hq, hqy, hqm⟩ := plc_some h
    have : q = j := by
      rcases Nat.lt_trichotomy q j with h | h | h
      · exact absurd hqy (hm q h)
      · exact h
      · exact absurd hy (hqm j h)
    rw [this]
def plcI (l : List S42) (y : S34) : Int := match plc l y with | none => -1 | some i => i
def findR (l : List S42) (y : S34) : Int × Int × List Int × Int × Bool := match plc l y with | none => (0, 0, [], 0, false) | some i => ((rd_T42 l i).f0.f0, (rd_T42 l i).f0.f1, (rd_T42 l i).f1, (rd_T42 l i).f2, true)
/-- Is a deal right where it stands? -/
def rightAt (l : List S42) (j : Nat) : Bool := decide (plcI l (rd_T42 l (j : Int)).f0 = (j : Int)) && (!(decide ((rd_T42 l (j : Int)).f2 < 0)) && (!(decide ((rd_T42 l (j : Int)).f2 > 2)) && (mayB (rd_T42 l (j : Int)).f1 || (!(decide (((rd_T42 l (j : Int)).f1.length : Int) > 0)) && decide ((rd_T42 l (j : Int)).f2 = 2)))))
def rightB (l : List S42) : Bool := decide (l.length ≤ 64) && (List.range' 0 l.length).all (rightAt l)
end Go.Proofs.Ytdlkpejlkijgcaa.Pr
