/- What the program's functions compute, and that they compute it: printed out of the translation by a program of this session's (px.py, over the kit's printer). Conditions: none. -/
import Derived.Test.YtbjeoaklpcbocaaPr0
import Derived.Test.YtbjeoaklpcbocaaPr3
import Derived.Test.YtbjeoaklpcbocaaPr4
import Derived.Test.YtbjeoaklpcbocaaHandAnswer
import Derived.Test.YtbjeoaklpcbocaaHandShown
namespace Go.Proofs.Ytbjeoaklpcbocaa.Pr
open Go.RowKit Go.Proofs.YtbjeoaklpcbocaaW.PrintWords Go.Proofs.YtbjeoaklpcbocaaW.PrintLast Go.Proofs.YtbjeoaklpcbocaaW.PrintMore
attribute [local go_sem] max2_int min2_int max_two min_two max_three min_three max_four min_four   -- for this text's walks alone
set_option linter.unusedVariables false
set_option linter.unusedSimpArgs false

/-! ### ferrulelaw07_BallotOne: function 5 -/
mutual
def ferrulelaw07_BallotOne.l0 : Nat → List (S26) → List Int → Int → Bool → List (S24) → Int → List Int → List Int → Option (Bool)
  | 0, _, _, _, _, _, _, _, _ => none
  | k + 1, x4, x5, x6, x7, x9, x11, x119000, x119001 => if x11 < (x119000.length : Int) then (if x9.length < 3518437208883 then (ferrulelaw07_BallotOne.l0 k x4 x5 x6 x7 (x9 ++ [(⟨0, 0, 0, 0, false⟩ : S24)]) (wrap64 (x11 + 1)) x119000 x119001) else (none)) else (ferrulelaw07_BallotOne.l1 k x4 x5 x6 x7 x9 ([] : List (List Int)) 0 x119000 x119001)
def ferrulelaw07_BallotOne.l1 : Nat → List (S26) → List Int → Int → Bool → List (S24) → List (List Int) → Int → List Int → List Int → Option (Bool)
  | 0, _, _, _, _, _, _, _, _, _ => none
  | k + 1, x4, x5, x6, x7, x9, x10, x12, x119000, x119001 => if x12 < (x4.length : Int) then (if x10.length < 5864062014805 then (ferrulelaw07_BallotOne.l1 k x4 x5 x6 x7 x9 (x10 ++ [[]]) (wrap64 (x12 + 1)) x119000 x119001) else (none)) else (ferrulelaw07_BallotOne.l2 k x4 x5 x6 x7 x9 x10 0 x119000 x119001)
def ferrulelaw07_BallotOne.l2 : Nat → List (S26) → List Int → Int → Bool → List (S24) → List (List Int) → Int → List Int → List Int → Option (Bool)
  | 0, _, _, _, _, _, _, _, _, _ => none
  | k + 1, x4, x5, x6, x7, x9, x10, x13, x119000, x119001 => if x13 < (x5.length : Int) then (ferrulelaw07_BallotOne.j3 k x4 x5 x6 x7 x9 x10 x13 (decide ((x4.length : Int) > 0)) x119000 x119001) else (ferrulelaw07_BallotOne.j3 k x4 x5 x6 x7 x9 x10 x13 false x119000 x119001)
def ferrulelaw07_BallotOne.j3 : Nat → List (S26) → List Int → Int → Bool → List (S24) → List (List Int) → Int → Bool → List Int → List Int → Option (Bool)
  | 0, _, _, _, _, _, _, _, _, _, _ => none
  | k + 1, x4, x5, x6, x7, x9, x10, x13, x64, x119000, x119001 => if x64 = true then (if 0 ≤ x13 then (if x13 < (x5.length : Int) then (if (x4.length : Int) = 0 then (none) else (if (x9.length : Int) = 0 then (none) else (if (Int.tmod (rd x5 x13) (x4.length : Int)) < 0 then (ferrulelaw07_BallotOne.j4 k x4 x5 x6 x7 x9 x10 x13 (Int.tmod (rd x5 x13) (x4.length : Int)) (Int.tmod (wrap64 (Int.tdiv (rd x5 x13) 7)) (x9.length : Int)) true x119000 x119001) else (ferrulelaw07_BallotOne.j4 k x4 x5 x6 x7 x9 x10 x13 (Int.tmod (rd x5 x13) (x4.length : Int)) (Int.tmod (wrap64 (Int.tdiv (rd x5 x13) 7)) (x9.length : Int)) (decide ((Int.tmod (wrap64 (Int.tdiv (rd x5 x13) 7)) (x9.length : Int)) < 0)) x119000 x119001)))) else (none)) else (none)) else (ferrulelaw07_BallotOne.l3 k x4 x7 x10 0 x119000 x119001)
def ferrulelaw07_BallotOne.j4 : Nat → List (S26) → List Int → Int → Bool → List (S24) → List (List Int) → Int → Int → Int → Bool → List Int → List Int → Option (Bool)
  | 0, _, _, _, _, _, _, _, _, _, _, _, _ => none
  | k + 1, x4, x5, x6, x7, x9, x10, x13, x14, x15, x87, x119000, x119001 => if x87 = true then (ferrulelaw07_BallotOne.l2 k x4 x5 x6 x7 x9 x10 (wrap64 (x13 + 1)) x119000 x119001) else (if 0 ≤ x15 then (if x15 < (x9.length : Int) then (if 0 ≤ x14 then (if x14 < (x4.length : Int) then ((ballot_Answer.f ((rd_T24 x9 x15).f0) ((rd_T24 x9 x15).f1) ((rd_T24 x9 x15).f2) ((rd_T24 x9 x15).f3) ((rd_T24 x9 x15).f4) ((rd_T26 x4 x14).f0) ((rd_T26 x4 x14).f1) ((rd_T26 x4 x14).f2) ((rd_T26 x4 x14).f3) ((rd_T26 x4 x14).f4)).bind fun bt131 => ((some (x9.set (x15 : Int).toNat (⟨bt131.1, bt131.2.1, bt131.2.2.1, bt131.2.2.2.1, bt131.2.2.2.2.1⟩ : S24) : List (S24))).bind fun y138 => (if bt131.2.2.2.2.2 = true then (if ((rd_T26 x4 x14).f4 = true) then (ferrulelaw07_BallotOne.l2 k x4 x5 x6 x7 y138 x10 (wrap64 (x13 + 1)) x119000 x119001) else (if ((rd_T26 x4 x14).f0) = x6 then ((some (([] : List Int) : List Int)).bind fun y141 => (if x14 < (x10.length : Int) then (if y141.length + (rd_L4 x10 x14).length < 17592186044416 then ((some (y141 ++ (rd_L4 x10 x14) : List Int)).bind fun y145 => (if x15 < (x119000.length : Int) then (if y145.length < 17592186044416 then (ferrulelaw07_BallotOne.l2 k x4 x5 x6 x7 y138 (x10.set (x14 : Int).toNat (y145 ++ [rd x119000 x15])) (wrap64 (x13 + 1)) x119000 x119001) else (none)) else (none))) else (none)) else (none))) else (ferrulelaw07_BallotOne.l2 k x4 x5 x6 x7 y138 x10 (wrap64 (x13 + 1)) x119000 x119001))) else (ferrulelaw07_BallotOne.l2 k x4 x5 x6 x7 y138 x10 (wrap64 (x13 + 1)) x119000 x119001)))) else (none)) else (none)) else (none)) else (none))
def ferrulelaw07_BallotOne.l3 : Nat → List (S26) → Bool → List (List Int) → Int → List Int → List Int → Option (Bool)
  | 0, _, _, _, _, _, _ => none
  | k + 1, x4, x7, x10, x18, x119000, x119001 => if x18 < (x4.length : Int) then (ferrulelaw07_BallotOne.l4 k x4 x7 x10 x18 0 x119000 x119001) else (some x7)
def ferrulelaw07_BallotOne.l4 : Nat → List (S26) → Bool → List (List Int) → Int → Int → List Int → List Int → Option (Bool)
  | 0, _, _, _, _, _, _, _ => none
  | k + 1, x4, x7, x10, x18, x19, x119000, x119001 => if x19 < x18 then (if 0 ≤ x18 then (if x18 < (x10.length : Int) then ((ferruleref06_Most.f k x119000 x119001 (rd_L4 x10 x18)).bind fun t154 => (if 0 ≤ x19 then (if x19 < (x10.length : Int) then ((ferruleref06_Most.f k x119000 x119001 (rd_L4 x10 x19)).bind fun t156 => (if t154 = true then (if t156 = true then (if x18 < (x4.length : Int) then (if x19 < (x4.length : Int) then (if ((rd_T26 x4 x18).f1) = ((rd_T26 x4 x19).f1) then (ferrulelaw07_BallotOne.l4 k x4 x7 x10 x18 (wrap64 (x19 + 1)) x119000 x119001) else (none)) else (none)) else (none)) else (ferrulelaw07_BallotOne.l4 k x4 x7 x10 x18 (wrap64 (x19 + 1)) x119000 x119001)) else (ferrulelaw07_BallotOne.l4 k x4 x7 x10 x18 (wrap64 (x19 + 1)) x119000 x119001))) else (none)) else (none))) else (none)) else (none)) else (ferrulelaw07_BallotOne.l3 k x4 x7 x10 (wrap64 (x18 + 1)) x119000 x119001)
end
def ferrulelaw07_BallotOne.f (k : Nat) (l0_0 : List Int) (l0_1 : List Int) (l0_2 : List (S26)) (l0_3 : List Int) (a0_4 : Int) : Option (Bool) := (ferrulelaw07_shown.f).bind fun t119 => ((ferruleref06_May.f k l0_0 l0_1).bind fun t120 => (if t120 = true then (ferrulelaw07_BallotOne.l0 k l0_2 l0_3 a0_4 t119 ([] : List (S24)) 0 l0_0 l0_1) else (some t119)))
theorem ferrulelaw07_BallotOne.mono_l : ∀ k, (∀ y0 y1 y2 y3 y4 y5 y6 y7, LeO (ferrulelaw07_BallotOne.l0 k y0 y1 y2 y3 y4 y5 y6 y7) (ferrulelaw07_BallotOne.l0 (k + 1) y0 y1 y2 y3 y4 y5 y6 y7)) ∧ (∀ y0 y1 y2 y3 y4 y5 y6 y7 y8, LeO (ferrulelaw07_BallotOne.l1 k y0 y1 y2 y3 y4 y5 y6 y7 y8) (ferrulelaw07_BallotOne.l1 (k + 1) y0 y1 y2 y3 y4 y5 y6 y7 y8)) ∧ (∀ y0 y1 y2 y3 y4 y5 y6 y7 y8, LeO (ferrulelaw07_BallotOne.l2 k y0 y1 y2 y3 y4 y5 y6 y7 y8) (ferrulelaw07_BallotOne.l2 (k + 1) y0 y1 y2 y3 y4 y5 y6 y7 y8)) ∧ (∀ y0 y1 y2 y3 y4 y5 y6 y7 y8 y9, LeO (ferrulelaw07_BallotOne.j3 k y0 y1 y2 y3 y4 y5 y6 y7 y8 y9) (ferrulelaw07_BallotOne.j3 (k + 1) y0 y1 y2 y3 y4 y5 y6 y7 y8 y9)) ∧ (∀ y0 y1 y2 y3 y4 y5 y6 y7 y8 y9 y10 y11, LeO (ferrulelaw07_BallotOne.j4 k y0 y1 y2 y3 y4 y5 y6 y7 y8 y9 y10 y11) (ferrulelaw07_BallotOne.j4 (k + 1) y0 y1 y2 y3 y4 y5 y6 y7 y8 y9 y10 y11)) ∧ (∀ y0 y1 y2 y3 y4 y5, LeO (ferrulelaw07_BallotOne.l3 k y0 y1 y2 y3 y4 y5) (ferrulelaw07_BallotOne.l3 (k + 1) y0 y1 y2 y3 y4 y5)) ∧ (∀ y0 y1 y2 y3 y4 y5 y6, LeO (ferrulelaw07_BallotOne.l4 k y0 y1 y2 y3 y4 y5 y6) (ferrulelaw07_BallotOne.l4 (k + 1) y0 y1 y2 y3 y4 y5 y6))
  | 0 => ⟨fun _ _ _ _ _ _ _ _ r h => by simp [ferrulelaw07_BallotOne.l0] at h, fun _ _ _ _ _ _ _ _ _ r h => by simp [ferrulelaw07_BallotOne.l1] at h, fun _ _ _ _ _ _ _ _ _ r h => by simp [ferrulelaw07_BallotOne.l2] at h, fun _ _ _ _ _ _ _ _ _ _ r h => by simp [ferrulelaw07_BallotOne.j3] at h, fun _ _ _ _ _ _ _ _ _ _ _ _ r h => by simp [ferrulelaw07_BallotOne.j4] at h, fun _ _ _ _ _ _ r h => by simp [ferrulelaw07_BallotOne.l3] at h, fun _ _ _ _ _ _ _ r h => by simp [ferrulelaw07_BallotOne.l4] at h⟩
  | k + 1 => by
    obtain ⟨ih0, ih1, ih2, ih3, ih4, ih5, ih6⟩ := ferrulelaw07_BallotOne.mono_l k
    refine ⟨?_, ?_, ?_, ?_, ?_, ?_, ?_⟩
    · intro y0 y1 y2 y3 y4 y5 y6 y7
      unfold ferrulelaw07_BallotOne.l0
      repeat' first
      | (with_reducible exact ih0 _ _ _ _ _ _ _ _)
      | (with_reducible exact ih1 _ _ _ _ _ _ _ _ _)
      | (with_reducible exact ih2 _ _ _ _ _ _ _ _ _)
      | (with_reducible exact ih3 _ _ _ _ _ _ _ _ _ _)
      | (with_reducible exact ih4 _ _ _ _ _ _ _ _ _ _ _ _)
      | (with_reducible exact ih5 _ _ _ _ _ _)
      | (with_reducible exact ih6 _ _ _ _ _ _ _)
      | (with_reducible exact ferruleref06_May.mono _ _ _)
      | (with_reducible exact ferruleref06_Most.mono _ _ _ _)
      | (with_reducible exact LeO.refl _)
      | (with_reducible exact LeO.none _)
      | (with_reducible refine LeO.ite ?_ ?_)
      | (with_reducible refine LeO.bind ?_ (fun _ => ?_))
      | exact ih0 _ _ _ _ _ _ _ _
      | exact ih1 _ _ _ _ _ _ _ _ _
      | exact ih2 _ _ _ _ _ _ _ _ _
      | exact ih3 _ _ _ _ _ _ _ _ _ _
      | exact ih4 _ _ _ _ _ _ _ _ _ _ _ _
      | exact ih5 _ _ _ _ _ _
      | exact ih6 _ _ _ _ _ _ _
      | exact ferruleref06_May.mono _ _ _
      | exact ferruleref06_Most.mono _ _ _ _
      | exact LeO.none _
      | refine LeO.ite ?_ ?_
      | refine LeO.bind ?_ (fun _ => ?_)
    · intro y0 y1 y2 y3 y4 y5 y6 y7 y8
      unfold ferrulelaw07_BallotOne.l1
      repeat' first
      | (with_reducible exact ih0 _ _ _ _ _ _ _ _)
      | (with_reducible exact ih1 _ _ _ _ _ _ _ _ _)
      | (with_reducible exact ih2 _ _ _ _ _ _ _ _ _)
      | (with_reducible exact ih3 _ _ _ _ _ _ _ _ _ _)
      | (with_reducible exact ih4 _ _ _ _ _ _ _ _ _ _ _ _)
      | (with_reducible exact ih5 _ _ _ _ _ _)
      | (with_reducible exact ih6 _ _ _ _ _ _ _)
      | (with_reducible exact ferruleref06_May.mono _ _ _)
      | (with_reducible exact ferruleref06_Most.mono _ _ _ _)
      | (with_reducible exact LeO.refl _)
      | (with_reducible exact LeO.none _)
      | (with_reducible refine LeO.ite ?_ ?_)
      | (with_reducible refine LeO.bind ?_ (fun _ => ?_))
      | exact ih0 _ _ _ _ _ _ _ _
      | exact ih1 _ _ _ _ _ _ _ _ _
      | exact ih2 _ _ _ _ _ _ _ _ _
      | exact ih3 _ _ _ _ _ _ _ _ _ _
      | exact ih4 _ _ _ _ _ _ _ _ _ _ _ _
      | exact ih5 _ _ _ _ _ _
      | exact ih6 _ _ _ _ _ _ _
      | exact ferruleref06_May.mono _ _ _
      | exact ferruleref06_Most.mono _ _ _ _
      | exact LeO.none _
      | refine LeO.ite ?_ ?_
      | refine LeO.bind ?_ (fun _ => ?_)
    · intro y0 y1 y2 y3 y4 y5 y6 y7 y8
      unfold ferrulelaw07_BallotOne.l2
      repeat' first
      | (with_reducible exact ih0 _ _ _ _ _ _ _ _)
      | (with_reducible exact ih1 _ _ _ _ _ _ _ _ _)
      | (with_reducible exact ih2 _ _ _ _ _ _ _ _ _)
      | (with_reducible exact ih3 _ _ _ _ _ _ _ _ _ _)
      | (with_reducible exact ih4 _ _ _ _ _ _ _ _ _ _ _ _)
      | (with_reducible exact ih5 _ _ _ _ _ _)
      | (with_reducible exact ih6 _ _ _ _ _ _ _)
      | (with_reducible exact ferruleref06_May.mono _ _ _)
      | (with_reducible exact ferruleref06_Most.mono _ _ _ _)
      | (with_reducible exact LeO.refl _)
      | (with_reducible exact LeO.none _)
      | (with_reducible refine LeO.ite ?_ ?_)
      | (with_reducible refine LeO.bind ?_ (fun _ => ?_))
      | exact ih0 _ _ _ _ _ _ _ _
      | exact ih1 _ _ _ _ _ _ _ _ _
      | exact ih2 _ _ _ _ _ _ _ _ _
      | exact ih3 _ _ _ _ _ _ _ _ _ _
      | exact ih4 _ _ _ _ _ _ _ _ _ _ _ _
      | exact ih5 _ _ _ _ _ _
      | exact ih6 _ _ _ _ _ _ _
      | exact ferruleref06_May.mono _ _ _
      | exact ferruleref06_Most.mono _ _ _ _
      | exact LeO.none _
      | refine LeO.ite ?_ ?_
      | refine LeO.bind ?_ (fun _ => ?_)
    · intro y0 y1 y2 y3 y4 y5 y6 y7 y8 y9
      unfold ferrulelaw07_BallotOne.j3
      repeat' first
      | (with_reducible exact ih0 _ _ _ _ _ _ _ _)
      | (with_reducible exact ih1 _ _ _ _ _ _ _ _ _)
      | (with_reducible exact ih2 _ _ _ _ _ _ _ _ _)
      | (with_reducible exact ih3 _ _ _ _ _ _ _ _ _ _)
      | (with_reducible exact ih4 _ _ _ _ _ _ _ _ _ _ _ _)
      | (with_reducible exact ih5 _ _ _ _ _ _)
      | (with_reducible exact ih6 _ _ _ _ _ _ _)
      | (with_reducible exact ferruleref06_May.mono _ _ _)
      | (with_reducible exact ferruleref06_Most.mono _ _ _ _)
      | (with_reducible exact LeO.refl _)
      | (with_reducible exact LeO.none _)
      | (with_reducible refine LeO.ite ?_ ?_)
      | (with_reducible refine LeO.bind ?_ (fun _ => ?_))
      | exact ih0 _ _ _ _ _ _ _ _
      | exact ih1 _ _ _ _ _ _ _ _ _
      | exact ih2 _ _ _ _ _ _ _ _ _
      | exact ih3 _ _ _ _ _ _ _ _ _ _
      | exact ih4 _ _ _ _ _ _ _ _ _ _ _ _
      | exact ih5 _ _ _ _ _ _
      | exact ih6 _ _ _ _ _ _ _
      | exact ferruleref06_May.mono _ _ _
      | exact ferruleref06_Most.mono _ _ _ _
      | exact LeO.none _
      | refine LeO.ite ?_ ?_
      | refine LeO.bind ?_ (fun _ => ?_)
    · intro y0 y1 y2 y3 y4 y5 y6 y7 y8 y9 y10 y11
      unfold ferrulelaw07_BallotOne.j4
      repeat' first
      | (with_reducible exact ih0 _ _ _ _ _ _ _ _)
      | (with_reducible exact ih1 _ _ _ _ _ _ _ _ _)
      | (with_reducible exact ih2 _ _ _ _ _ _ _ _ _)
      | (with_reducible exact ih3 _ _ _ _ _ _ _ _ _ _)
      | (with_reducible exact ih4 _ _ _ _ _ _ _ _ _ _ _ _)
      | (with_reducible exact ih5 _ _ _ _ _ _)
      | (with_reducible exact ih6 _ _ _ _ _ _ _)
      | (with_reducible exact ferruleref06_May.mono _ _ _)
      | (with_reducible exact ferruleref06_Most.mono _ _ _ _)
      | (with_reducible exact LeO.refl _)
      | (with_reducible exact LeO.none _)
      | (with_reducible refine LeO.ite ?_ ?_)
      | (with_reducible refine LeO.bind ?_ (fun _ => ?_))
      | exact ih0 _ _ _ _ _ _ _ _
      | exact ih1 _ _ _ _ _ _ _ _ _
      | exact ih2 _ _ _ _ _ _ _ _ _
      | exact ih3 _ _ _ _ _ _ _ _ _ _
      | exact ih4 _ _ _ _ _ _ _ _ _ _ _ _
      | exact ih5 _ _ _ _ _ _
      | exact ih6 _ _ _ _ _ _ _
      | exact ferruleref06_May.mono _ _ _
      | exact ferruleref06_Most.mono _ _ _ _
      | exact LeO.none _
      | refine LeO.ite ?_ ?_
      | refine LeO.bind ?_ (fun _ => ?_)
    · intro y0 y1 y2 y3 y4 y5
      unfold ferrulelaw07_BallotOne.l3
      repeat' first
      | (with_reducible exact ih0 _ _ _ _ _ _ _ _)
      | (with_reducible exact ih1 _ _ _ _ _ _ _ _ _)
      | (with_reducible exact ih2 _ _ _ _ _ _ _ _ _)
      | (with_reducible exact ih3 _ _ _ _ _ _ _ _ _ _)
      | (with_reducible exact ih4 _ _ _ _ _ _ _ _ _ _ _ _)
      | (with_reducible exact ih5 _ _ _ _ _ _)
      | (with_reducible exact ih6 _ _ _ _ _ _ _)
      | (with_reducible exact ferruleref06_May.mono _ _ _)
      | (with_reducible exact ferruleref06_Most.mono _ _ _ _)
      | (with_reducible exact LeO.refl _)
      | (with_reducible exact LeO.none _)
      | (with_reducible refine LeO.ite ?_ ?_)
      | (with_reducible refine LeO.bind ?_ (fun _ => ?_))
      | exact ih0 _ _ _ _ _ _ _ _
      | exact ih1 _ _ _ _ _ _ _ _ _
      | exact ih2 _ _ _ _ _ _ _ _ _
      | exact ih3 _ _ _ _ _ _ _ _ _ _
      | exact ih4 _ _ _ _ _ _ _ _ _ _ _ _
      | exact ih5 _ _ _ _ _ _
      | exact ih6 _ _ _ _ _ _ _
      | exact ferruleref06_May.mono _ _ _
      | exact ferruleref06_Most.mono _ _ _ _
      | exact LeO.none _
      | refine LeO.ite ?_ ?_
      | refine LeO.bind ?_ (fun _ => ?_)
    · intro y0 y1 y2 y3 y4 y5 y6
      unfold ferrulelaw07_BallotOne.l4
      repeat' first
      | (with_reducible exact ih0 _ _ _ _ _ _ _ _)
      | (with_reducible exact ih1 _ _ _ _ _ _ _ _ _)
      | (with_reducible exact ih2 _ _ _ _ _ _ _ _ _)
      | (with_reducible exact ih3 _ _ _ _ _ _ _ _ _ _)
      | (with_reducible exact ih4 _ _ _ _ _ _ _ _ _ _ _ _)
      | (with_reducible exact ih5 _ _ _ _ _ _)
      | (with_reducible exact ih6 _ _ _ _ _ _ _)
      | (with_reducible exact ferruleref06_May.mono _ _ _)
      | (with_reducible exact ferruleref06_Most.mono _ _ _ _)
      | (with_reducible exact LeO.refl _)
      | (with_reducible exact LeO.none _)
      | (with_reducible refine LeO.ite ?_ ?_)
      | (with_reducible refine LeO.bind ?_ (fun _ => ?_))
      | exact ih0 _ _ _ _ _ _ _ _
      | exact ih1 _ _ _ _ _ _ _ _ _
      | exact ih2 _ _ _ _ _ _ _ _ _
      | exact ih3 _ _ _ _ _ _ _ _ _ _
      | exact ih4 _ _ _ _ _ _ _ _ _ _ _ _
      | exact ih5 _ _ _ _ _ _
      | exact ih6 _ _ _ _ _ _ _
      | exact ferruleref06_May.mono _ _ _
      | exact ferruleref06_Most.mono _ _ _ _
      | exact LeO.none _
      | refine LeO.ite ?_ ?_
      | refine LeO.bind ?_ (fun _ => ?_)
theorem ferrulelaw07_BallotOne.mono : ∀ a0 a1 a2 a3 a4 k, LeO (ferrulelaw07_BallotOne.f k a0 a1 a2 a3 a4) (ferrulelaw07_BallotOne.f (k + 1) a0 a1 a2 a3 a4) := by
  intro a0 a1 a2 a3 a4 k
  obtain ⟨ih0, ih1, ih2, ih3, ih4, ih5, ih6⟩ := ferrulelaw07_BallotOne.mono_l k
  unfold ferrulelaw07_BallotOne.f
  repeat' first
      | (with_reducible exact ih0 _ _ _ _ _ _ _ _)
      | (with_reducible exact ih1 _ _ _ _ _ _ _ _ _)
      | (with_reducible exact ih2 _ _ _ _ _ _ _ _ _)
      | (with_reducible exact ih3 _ _ _ _ _ _ _ _ _ _)
      | (with_reducible exact ih4 _ _ _ _ _ _ _ _ _ _ _ _)
      | (with_reducible exact ih5 _ _ _ _ _ _)
      | (with_reducible exact ih6 _ _ _ _ _ _ _)
      | (with_reducible exact ferruleref06_May.mono _ _ _)
      | (with_reducible exact ferruleref06_Most.mono _ _ _ _)
      | (with_reducible exact LeO.refl _)
      | (with_reducible exact LeO.none _)
      | (with_reducible refine LeO.ite ?_ ?_)
      | (with_reducible refine LeO.bind ?_ (fun _ => ?_))
      | exact ih0 _ _ _ _ _ _ _ _
      | exact ih1 _ _ _ _ _ _ _ _ _
      | exact ih2 _ _ _ _ _ _ _ _ _
      | exact ih3 _ _ _ _ _ _ _ _ _ _
      | exact ih4 _ _ _ _ _ _ _ _ _ _ _ _
      | exact ih5 _ _ _ _ _ _
      | exact ih6 _ _ _ _ _ _ _
      | exact ferruleref06_May.mono _ _ _
      | exact ferruleref06_Most.mono _ _ _ _
      | exact LeO.none _
      | refine LeO.ite ?_ ?_
      | refine LeO.bind ?_ (fun _ => ?_)
end Go.Proofs.Ytbjeoaklpcbocaa.Pr
