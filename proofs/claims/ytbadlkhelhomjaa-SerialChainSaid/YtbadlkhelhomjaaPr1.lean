/- What the program's functions compute, and that they compute it: printed out of the translation by a program of this session's (px.py, over the kit's printer). Conditions: none. -/
import Derived.Test.YtbadlkhelhomjaaPr0
namespace Go.Proofs.Ytbadlkhelhomjaa.Pr
open Go.RowKit Go.Proofs.YtbadlkhelhomjaaW.PrintWords Go.Proofs.YtbadlkhelhomjaaW.PrintLast Go.Proofs.YtbadlkhelhomjaaW.PrintMore
attribute [local go_sem] max2_int min2_int max_two min_two max_three min_three max_four min_four   -- for this text's walks alone
set_option linter.unusedVariables false
set_option linter.unusedSimpArgs false

/-! ### ferruleref21_Ahead: function 11 -/
mutual
def ferruleref21_Ahead.j0 : Nat → Bool → Int → Int → Int → Int → List (S40) → List (S40) → Int → Int → Int → Int → List (S40) → List (S40) → Option (Bool)
  | 0, _, _, _, _, _, _, _, _, _, _, _, _, _ => none
  | k + 1, x24, x102000, x102001, x102002, x102003, x102004, x102005, x103000, x103001, x103002, x103003, x103004, x103005 => if x24 = true then (some true) else (ferruleref21_Ahead.l0 k 0 x102000 x102001 x102002 x102003 x102004 x102005 x103000 x103001 x103002 x103003 x103004 x103005)
def ferruleref21_Ahead.l0 : Nat → Int → Int → Int → Int → Int → List (S40) → List (S40) → Int → Int → Int → Int → List (S40) → List (S40) → Option (Bool)
  | 0, _, _, _, _, _, _, _, _, _, _, _, _, _ => none
  | k + 1, x5, x102000, x102001, x102002, x102003, x102004, x102005, x103000, x103001, x103002, x103003, x103004, x103005 => if x5 < (x102005.length : Int) then (if 0 ≤ x5 then (ferruleref21_Ahead.l1 k x5 0 x102000 x102001 x102002 x102003 x102004 x102005 x103000 x103001 x103002 x103003 x103004 x103005 ((rd_T40 x102005 x5).f0) ((rd_T40 x102005 x5).f1) ((rd_T40 x102005 x5).f2)) else (none)) else (ferruleref21_Ahead.l3 k 0 x102000 x102001 x102002 x102003 x102004 x102005 x103000 x103001 x103002 x103003 x103004 x103005)
def ferruleref21_Ahead.l1 : Nat → Int → Int → Int → Int → Int → Int → List (S40) → List (S40) → Int → Int → Int → Int → List (S40) → List (S40) → Int → ByteArray → Int → Option (Bool)
  | 0, _, _, _, _, _, _, _, _, _, _, _, _, _, _, _, _, _ => none
  | k + 1, x5, x7, x102000, x102001, x102002, x102003, x102004, x102005, x103000, x103001, x103002, x103003, x103004, x103005, x105000, x105001, x105002 => if x7 < (x103004.length : Int) then (if 0 ≤ x7 then (if x105000 = ((rd_T40 x103004 x7).f0) then (if x105001.toList = ((rd_T40 x103004 x7).f1).toList then (if x105002 ≤ ((rd_T40 x103004 x7).f2) then (some true) else (ferruleref21_Ahead.l1 k x5 (wrap64 (x7 + 1)) x102000 x102001 x102002 x102003 x102004 x102005 x103000 x103001 x103002 x103003 x103004 x103005 x105000 x105001 x105002)) else (ferruleref21_Ahead.l1 k x5 (wrap64 (x7 + 1)) x102000 x102001 x102002 x102003 x102004 x102005 x103000 x103001 x103002 x103003 x103004 x103005 x105000 x105001 x105002)) else (ferruleref21_Ahead.l1 k x5 (wrap64 (x7 + 1)) x102000 x102001 x102002 x102003 x102004 x102005 x103000 x103001 x103002 x103003 x103004 x103005 x105000 x105001 x105002)) else (none)) else (ferruleref21_Ahead.l2 k x5 0 x102000 x102001 x102002 x102003 x102004 x102005 x103000 x103001 x103002 x103003 x103004 x103005 x105000 x105001 x105002)
def ferruleref21_Ahead.l2 : Nat → Int → Int → Int → Int → Int → Int → List (S40) → List (S40) → Int → Int → Int → Int → List (S40) → List (S40) → Int → ByteArray → Int → Option (Bool)
  | 0, _, _, _, _, _, _, _, _, _, _, _, _, _, _, _, _, _ => none
  | k + 1, x5, x9, x102000, x102001, x102002, x102003, x102004, x102005, x103000, x103001, x103002, x103003, x103004, x103005, x105000, x105001, x105002 => if x9 < (x103005.length : Int) then (if 0 ≤ x9 then (if x105000 = ((rd_T40 x103005 x9).f0) then (if x105001.toList = ((rd_T40 x103005 x9).f1).toList then (if x105002 < ((rd_T40 x103005 x9).f2) then (some true) else (ferruleref21_Ahead.l2 k x5 (wrap64 (x9 + 1)) x102000 x102001 x102002 x102003 x102004 x102005 x103000 x103001 x103002 x103003 x103004 x103005 x105000 x105001 x105002)) else (ferruleref21_Ahead.l2 k x5 (wrap64 (x9 + 1)) x102000 x102001 x102002 x102003 x102004 x102005 x103000 x103001 x103002 x103003 x103004 x103005 x105000 x105001 x105002)) else (ferruleref21_Ahead.l2 k x5 (wrap64 (x9 + 1)) x102000 x102001 x102002 x102003 x102004 x102005 x103000 x103001 x103002 x103003 x103004 x103005 x105000 x105001 x105002)) else (none)) else (ferruleref21_Ahead.l0 k (wrap64 (x5 + 1)) x102000 x102001 x102002 x102003 x102004 x102005 x103000 x103001 x103002 x103003 x103004 x103005)
def ferruleref21_Ahead.l3 : Nat → Int → Int → Int → Int → Int → List (S40) → List (S40) → Int → Int → Int → Int → List (S40) → List (S40) → Option (Bool)
  | 0, _, _, _, _, _, _, _, _, _, _, _, _, _ => none
  | k + 1, x11, x102000, x102001, x102002, x102003, x102004, x102005, x103000, x103001, x103002, x103003, x103004, x103005 => if x11 < (x102004.length : Int) then (if 0 ≤ x11 then (ferruleref21_Ahead.l4 k x11 0 x102000 x102001 x102002 x102003 x102004 x102005 x103000 x103001 x103002 x103003 x103004 x103005 ((rd_T40 x102004 x11).f0) ((rd_T40 x102004 x11).f1) ((rd_T40 x102004 x11).f2)) else (none)) else (some false)
def ferruleref21_Ahead.l4 : Nat → Int → Int → Int → Int → Int → Int → List (S40) → List (S40) → Int → Int → Int → Int → List (S40) → List (S40) → Int → ByteArray → Int → Option (Bool)
  | 0, _, _, _, _, _, _, _, _, _, _, _, _, _, _, _, _, _ => none
  | k + 1, x11, x13, x102000, x102001, x102002, x102003, x102004, x102005, x103000, x103001, x103002, x103003, x103004, x103005, x111000, x111001, x111002 => if x13 < (x103005.length : Int) then (if 0 ≤ x13 then (if x111000 = ((rd_T40 x103005 x13).f0) then (if x111001.toList = ((rd_T40 x103005 x13).f1).toList then (if x111002 < ((rd_T40 x103005 x13).f2) then (some true) else (ferruleref21_Ahead.l4 k x11 (wrap64 (x13 + 1)) x102000 x102001 x102002 x102003 x102004 x102005 x103000 x103001 x103002 x103003 x103004 x103005 x111000 x111001 x111002)) else (ferruleref21_Ahead.l4 k x11 (wrap64 (x13 + 1)) x102000 x102001 x102002 x102003 x102004 x102005 x103000 x103001 x103002 x103003 x103004 x103005 x111000 x111001 x111002)) else (ferruleref21_Ahead.l4 k x11 (wrap64 (x13 + 1)) x102000 x102001 x102002 x102003 x102004 x102005 x103000 x103001 x103002 x103003 x103004 x103005 x111000 x111001 x111002)) else (none)) else (ferruleref21_Ahead.l3 k (wrap64 (x11 + 1)) x102000 x102001 x102002 x102003 x102004 x102005 x103000 x103001 x103002 x103003 x103004 x103005)
end
def ferruleref21_Ahead.f (k : Nat) (a0_0 : Int) (a0_1 : Int) (a0_2 : Int) (a0_3 : Int) (l0_4 : List (S40)) (l0_5 : List (S40)) (a1_0 : Int) (a1_1 : Int) (a1_2 : Int) (a1_3 : Int) (l1_4 : List (S40)) (l1_5 : List (S40)) : Option (Bool) := if a0_3 > 0 then (ferruleref21_Ahead.j0 k (decide (a0_3 < a1_2)) a0_0 a0_1 a0_2 a0_3 l0_4 l0_5 a1_0 a1_1 a1_2 a1_3 l1_4 l1_5) else (ferruleref21_Ahead.j0 k false a0_0 a0_1 a0_2 a0_3 l0_4 l0_5 a1_0 a1_1 a1_2 a1_3 l1_4 l1_5)
theorem ferruleref21_Ahead.mono_l : ∀ k, (∀ y0 y1 y2 y3 y4 y5 y6 y7 y8 y9 y10 y11 y12, LeO (ferruleref21_Ahead.j0 k y0 y1 y2 y3 y4 y5 y6 y7 y8 y9 y10 y11 y12) (ferruleref21_Ahead.j0 (k + 1) y0 y1 y2 y3 y4 y5 y6 y7 y8 y9 y10 y11 y12)) ∧ (∀ y0 y1 y2 y3 y4 y5 y6 y7 y8 y9 y10 y11 y12, LeO (ferruleref21_Ahead.l0 k y0 y1 y2 y3 y4 y5 y6 y7 y8 y9 y10 y11 y12) (ferruleref21_Ahead.l0 (k + 1) y0 y1 y2 y3 y4 y5 y6 y7 y8 y9 y10 y11 y12)) ∧ (∀ y0 y1 y2 y3 y4 y5 y6 y7 y8 y9 y10 y11 y12 y13 y14 y15 y16, LeO (ferruleref21_Ahead.l1 k y0 y1 y2 y3 y4 y5 y6 y7 y8 y9 y10 y11 y12 y13 y14 y15 y16) (ferruleref21_Ahead.l1 (k + 1) y0 y1 y2 y3 y4 y5 y6 y7 y8 y9 y10 y11 y12 y13 y14 y15 y16)) ∧ (∀ y0 y1 y2 y3 y4 y5 y6 y7 y8 y9 y10 y11 y12 y13 y14 y15 y16, LeO (ferruleref21_Ahead.l2 k y0 y1 y2 y3 y4 y5 y6 y7 y8 y9 y10 y11 y12 y13 y14 y15 y16) (ferruleref21_Ahead.l2 (k + 1) y0 y1 y2 y3 y4 y5 y6 y7 y8 y9 y10 y11 y12 y13 y14 y15 y16)) ∧ (∀ y0 y1 y2 y3 y4 y5 y6 y7 y8 y9 y10 y11 y12, LeO (ferruleref21_Ahead.l3 k y0 y1 y2 y3 y4 y5 y6 y7 y8 y9 y10 y11 y12) (ferruleref21_Ahead.l3 (k + 1) y0 y1 y2 y3 y4 y5 y6 y7 y8 y9 y10 y11 y12)) ∧ (∀ y0 y1 y2 y3 y4 y5 y6 y7 y8 y9 y10 y11 y12 y13 y14 y15 y16, LeO (ferruleref21_Ahead.l4 k y0 y1 y2 y3 y4 y5 y6 y7 y8 y9 y10 y11 y12 y13 y14 y15 y16) (ferruleref21_Ahead.l4 (k + 1) y0 y1 y2 y3 y4 y5 y6 y7 y8 y9 y10 y11 y12 y13 y14 y15 y16))
  | 0 => ⟨fun _ _ _ _ _ _ _ _ _ _ _ _ _ r h => by simp [ferruleref21_Ahead.j0] at h, fun _ _ _ _ _ _ _ _ _ _ _ _ _ r h => by simp [ferruleref21_Ahead.l0] at h, fun _ _ _ _ _ _ _ _ _ _ _ _ _ _ _ _ _ r h => by simp [ferruleref21_Ahead.l1] at h, fun _ _ _ _ _ _ _ _ _ _ _ _ _ _ _ _ _ r h => by simp [ferruleref21_Ahead.l2] at h, fun _ _ _ _ _ _ _ _ _ _ _ _ _ r h => by simp [ferruleref21_Ahead.l3] at h, fun _ _ _ _ _ _ _ _ _ _ _ _ _ _ _ _ _ r h => by simp [ferruleref21_Ahead.l4] at h⟩
  | k + 1 => by
    obtain ⟨ih0, ih1, ih2, ih3, ih4, ih5⟩ := ferruleref21_Ahead.mono_l k
    refine ⟨?_, ?_, ?_, ?_, ?_, ?_⟩
    · intro y0 y1 y2 y3 y4 y5 y6 y7 y8 y9 y10 y11 y12
      unfold ferruleref21_Ahead.j0
      repeat' first
      | (with_reducible exact ih0 _ _ _ _ _ _ _ _ _ _ _ _ _)
      | (with_reducible exact ih1 _ _ _ _ _ _ _ _ _ _ _ _ _)
      | (with_reducible exact ih2 _ _ _ _ _ _ _ _ _ _ _ _ _ _ _ _ _)
      | (with_reducible exact ih3 _ _ _ _ _ _ _ _ _ _ _ _ _ _ _ _ _)
      | (with_reducible exact ih4 _ _ _ _ _ _ _ _ _ _ _ _ _)
      | (with_reducible exact ih5 _ _ _ _ _ _ _ _ _ _ _ _ _ _ _ _ _)
      | (with_reducible exact LeO.refl _)
      | (with_reducible exact LeO.none _)
      | (with_reducible refine LeO.ite ?_ ?_)
      | (with_reducible refine LeO.bind ?_ (fun _ => ?_))
      | exact ih0 _ _ _ _ _ _ _ _ _ _ _ _ _
      | exact ih1 _ _ _ _ _ _ _ _ _ _ _ _ _
      | exact ih2 _ _ _ _ _ _ _ _ _ _ _ _ _ _ _ _ _
      | exact ih3 _ _ _ _ _ _ _ _ _ _ _ _ _ _ _ _ _
      | exact ih4 _ _ _ _ _ _ _ _ _ _ _ _ _
      | exact ih5 _ _ _ _ _ _ _ _ _ _ _ _ _ _ _ _ _
      | exact LeO.none _
      | refine LeO.ite ?_ ?_
      | refine LeO.bind ?_ (fun _ => ?_)
    · intro y0 y1 y2 y3 y4 y5 y6 y7 y8 y9 y10 y11 y12
      unfold ferruleref21_Ahead.l0
      repeat' first
      | (with_reducible exact ih0 _ _ _ _ _ _ _ _ _ _ _ _ _)
      | (with_reducible exact ih1 _ _ _ _ _ _ _ _ _ _ _ _ _)
      | (with_reducible exact ih2 _ _ _ _ _ _ _ _ _ _ _ _ _ _ _ _ _)
      | (with_reducible exact ih3 _ _ _ _ _ _ _ _ _ _ _ _ _ _ _ _ _)
      | (with_reducible exact ih4 _ _ _ _ _ _ _ _ _ _ _ _ _)
      | (with_reducible exact ih5 _ _ _ _ _ _ _ _ _ _ _ _ _ _ _ _ _)
      | (with_reducible exact LeO.refl _)
      | (with_reducible exact LeO.none _)
      | (with_reducible refine LeO.ite ?_ ?_)
      | (with_reducible refine LeO.bind ?_ (fun _ => ?_))
      | exact ih0 _ _ _ _ _ _ _ _ _ _ _ _ _
      | exact ih1 _ _ _ _ _ _ _ _ _ _ _ _ _
      | exact ih2 _ _ _ _ _ _ _ _ _ _ _ _ _ _ _ _ _
      | exact ih3 _ _ _ _ _ _ _ _ _ _ _ _ _ _ _ _ _
      | exact ih4 _ _ _ _ _ _ _ _ _ _ _ _ _
      | exact ih5 _ _ _ _ _ _ _ _ _ _ _ _ _ _ _ _ _
      | exact LeO.none _
      | refine LeO.ite ?_ ?_
      | refine LeO.bind ?_ (fun _ => ?_)
    · intro y0 y1 y2 y3 y4 y5 y6 y7 y8 y9 y10 y11 y12 y13 y14 y15 y16
      unfold ferruleref21_Ahead.l1
      repeat' first
      | (with_reducible exact ih0 _ _ _ _ _ _ _ _ _ _ _ _ _)
      | (with_reducible exact ih1 _ _ _ _ _ _ _ _ _ _ _ _ _)
      | (with_reducible exact ih2 _ _ _ _ _ _ _ _ _ _ _ _ _ _ _ _ _)
      | (with_reducible exact ih3 _ _ _ _ _ _ _ _ _ _ _ _ _ _ _ _ _)
      | (with_reducible exact ih4 _ _ _ _ _ _ _ _ _ _ _ _ _)
      | (with_reducible exact ih5 _ _ _ _ _ _ _ _ _ _ _ _ _ _ _ _ _)
      | (with_reducible exact LeO.refl _)
      | (with_reducible exact LeO.none _)
      | (with_reducible refine LeO.ite ?_ ?_)
      | (with_reducible refine LeO.bind ?_ (fun _ => ?_))
      | exact ih0 _ _ _ _ _ _ _ _ _ _ _ _ _
      | exact ih1 _ _ _ _ _ _ _ _ _ _ _ _ _
      | exact ih2 _ _ _ _ _ _ _ _ _ _ _ _ _ _ _ _ _
      | exact ih3 _ _ _ _ _ _ _ _ _ _ _ _ _ _ _ _ _
      | exact ih4 _ _ _ _ _ _ _ _ _ _ _ _ _
      | exact ih5 _ _ _ _ _ _ _ _ _ _ _ _ _ _ _ _ _
      | exact LeO.none _
      | refine LeO.ite ?_ ?_
      | refine LeO.bind ?_ (fun _ => ?_)
    · intro y0 y1 y2 y3 y4 y5 y6 y7 y8 y9 y10 y11 y12 y13 y14 y15 y16
      unfold ferruleref21_Ahead.l2
      repeat' first
      | (with_reducible exact ih0 _ _ _ _ _ _ _ _ _ _ _ _ _)
      | (with_reducible exact ih1 _ _ _ _ _ _ _ _ _ _ _ _ _)
      | (with_reducible exact ih2 _ _ _ _ _ _ _ _ _ _ _ _ _ _ _ _ _)
      | (with_reducible exact ih3 _ _ _ _ _ _ _ _ _ _ _ _ _ _ _ _ _)
      | (with_reducible exact ih4 _ _ _ _ _ _ _ _ _ _ _ _ _)
      | (with_reducible exact ih5 _ _ _ _ _ _ _ _ _ _ _ _ _ _ _ _ _)
      | (with_reducible exact LeO.refl _)
      | (with_reducible exact LeO.none _)
      | (with_reducible refine LeO.ite ?_ ?_)
      | (with_reducible refine LeO.bind ?_ (fun _ => ?_))
      | exact ih0 _ _ _ _ _ _ _ _ _ _ _ _ _
      | exact ih1 _ _ _ _ _ _ _ _ _ _ _ _ _
      | exact ih2 _ _ _ _ _ _ _ _ _ _ _ _ _ _ _ _ _
      | exact ih3 _ _ _ _ _ _ _ _ _ _ _ _ _ _ _ _ _
      | exact ih4 _ _ _ _ _ _ _ _ _ _ _ _ _
      | exact ih5 _ _ _ _ _ _ _ _ _ _ _ _ _ _ _ _ _
      | exact LeO.none _
      | refine LeO.ite ?_ ?_
      | refine LeO.bind ?_ (fun _ => ?_)
    · intro y0 y1 y2 y3 y4 y5 y6 y7 y8 y9 y10 y11 y12
      unfold ferruleref21_Ahead.l3
      repeat' first
      | (with_reducible exact ih0 _ _ _ _ _ _ _ _ _ _ _ _ _)
      | (with_reducible exact ih1 _ _ _ _ _ _ _ _ _ _ _ _ _)
      | (with_reducible exact ih2 _ _ _ _ _ _ _ _ _ _ _ _ _ _ _ _ _)
      | (with_reducible exact ih3 _ _ _ _ _ _ _ _ _ _ _ _ _ _ _ _ _)
      | (with_reducible exact ih4 _ _ _ _ _ _ _ _ _ _ _ _ _)
      | (with_reducible exact ih5 _ _ _ _ _ _ _ _ _ _ _ _ _ _ _ _ _)
      | (with_reducible exact LeO.refl _)
      | (with_reducible exact LeO.none _)
      | (with_reducible refine LeO.ite ?_ ?_)
      | (with_reducible refine LeO.bind ?_ (fun _ => ?_))
      | exact ih0 _ _ _ _ _ _ _ _ _ _ _ _ _
      | exact ih1 _ _ _ _ _ _ _ _ _ _ _ _ _
      | exact ih2 _ _ _ _ _ _ _ _ _ _ _ _ _ _ _ _ _
      | exact ih3 _ _ _ _ _ _ _ _ _ _ _ _ _ _ _ _ _
      | exact ih4 _ _ _ _ _ _ _ _ _ _ _ _ _
      | exact ih5 _ _ _ _ _ _ _ _ _ _ _ _ _ _ _ _ _
      | exact LeO.none _
      | refine LeO.ite ?_ ?_
      | refine LeO.bind ?_ (fun _ => ?_)
    · intro y0 y1 y2 y3 y4 y5 y6 y7 y8 y9 y10 y11 y12 y13 y14 y15 y16
      unfold ferruleref21_Ahead.l4
      repeat' first
      | (with_reducible exact ih0 _ _ _ _ _ _ _ _ _ _ _ _ _)
      | (with_reducible exact ih1 _ _ _ _ _ _ _ _ _ _ _ _ _)
      | (with_reducible exact ih2 _ _ _ _ _ _ _ _ _ _ _ _ _ _ _ _ _)
      | (with_reducible exact ih3 _ _ _ _ _ _ _ _ _ _ _ _ _ _ _ _ _)
      | (with_reducible exact ih4 _ _ _ _ _ _ _ _ _ _ _ _ _)
      | (with_reducible exact ih5 _ _ _ _ _ _ _ _ _ _ _ _ _ _ _ _ _)
      | (with_reducible exact LeO.refl _)
      | (with_reducible exact LeO.none _)
      | (with_reducible refine LeO.ite ?_ ?_)
      | (with_reducible refine LeO.bind ?_ (fun _ => ?_))
      | exact ih0 _ _ _ _ _ _ _ _ _ _ _ _ _
      | exact ih1 _ _ _ _ _ _ _ _ _ _ _ _ _
      | exact ih2 _ _ _ _ _ _ _ _ _ _ _ _ _ _ _ _ _
      | exact ih3 _ _ _ _ _ _ _ _ _ _ _ _ _ _ _ _ _
      | exact ih4 _ _ _ _ _ _ _ _ _ _ _ _ _
      | exact ih5 _ _ _ _ _ _ _ _ _ _ _ _ _ _ _ _ _
      | exact LeO.none _
      | refine LeO.ite ?_ ?_
      | refine LeO.bind ?_ (fun _ => ?_)
theorem ferruleref21_Ahead.mono : ∀ a0 a1 a2 a3 a4 a5 a6 a7 a8 a9 a10 a11 k, LeO (ferruleref21_Ahead.f k a0 a1 a2 a3 a4 a5 a6 a7 a8 a9 a10 a11) (ferruleref21_Ahead.f (k + 1) a0 a1 a2 a3 a4 a5 a6 a7 a8 a9 a10 a11) := by
  intro a0 a1 a2 a3 a4 a5 a6 a7 a8 a9 a10 a11 k
  obtain ⟨ih0, ih1, ih2, ih3, ih4, ih5⟩ := ferruleref21_Ahead.mono_l k
  unfold ferruleref21_Ahead.f
  repeat' first
      | (with_reducible exact ih0 _ _ _ _ _ _ _ _ _ _ _ _ _)
      | (with_reducible exact ih1 _ _ _ _ _ _ _ _ _ _ _ _ _)
      | (with_reducible exact ih2 _ _ _ _ _ _ _ _ _ _ _ _ _ _ _ _ _)
      | (with_reducible exact ih3 _ _ _ _ _ _ _ _ _ _ _ _ _ _ _ _ _)
      | (with_reducible exact ih4 _ _ _ _ _ _ _ _ _ _ _ _ _)
      | (with_reducible exact ih5 _ _ _ _ _ _ _ _ _ _ _ _ _ _ _ _ _)
      | (with_reducible exact LeO.refl _)
      | (with_reducible exact LeO.none _)
      | (with_reducible refine LeO.ite ?_ ?_)
      | (with_reducible refine LeO.bind ?_ (fun _ => ?_))
      | exact ih0 _ _ _ _ _ _ _ _ _ _ _ _ _
      | exact ih1 _ _ _ _ _ _ _ _ _ _ _ _ _
      | exact ih2 _ _ _ _ _ _ _ _ _ _ _ _ _ _ _ _ _
      | exact ih3 _ _ _ _ _ _ _ _ _ _ _ _ _ _ _ _ _
      | exact ih4 _ _ _ _ _ _ _ _ _ _ _ _ _
      | exact ih5 _ _ _ _ _ _ _ _ _ _ _ _ _ _ _ _ _
      | exact LeO.none _
      | refine LeO.ite ?_ ?_
      | refine LeO.bind ?_ (fun _ => ?_)
set_option maxHeartbeats 8000000 in
set_option maxRecDepth 100000 in
theorem ferruleref21_Ahead.calls (k : Nat) (a0_0 : Int) (a0_1 : Int) (a0_2 : Int) (a0_3 : Int) (A0_4 : Option Addr) (c0_4 : Nat) (l0_4 : List (S40)) (A0_5 : Option Addr) (c0_5 : Nat) (l0_5 : List (S40)) (a1_0 : Int) (a1_1 : Int) (a1_2 : Int) (a1_3 : Int) (A1_4 : Option Addr) (c1_4 : Nat) (l1_4 : List (S40)) (A1_5 : Option Addr) (c1_5 : Nat) (l1_5 : List (S40)) (r : Bool) (w : World) (hr0_4 : Kd.C k40 w A0_4 l0_4.length l0_4) (hc0_4 : l0_4.length ≤ c0_4) (hr0_5 : Kd.C k40 w A0_5 l0_5.length l0_5) (hc0_5 : l0_5.length ≤ c0_5) (hr1_4 : Kd.C k40 w A1_4 l1_4.length l1_4) (hc1_4 : l1_4.length ≤ c1_4) (hr1_5 : Kd.C k40 w A1_5 l1_5.length l1_5) (hc1_5 : l1_5.length ≤ c1_5) (h : ferruleref21_Ahead.f k a0_0 a0_1 a0_2 a0_3 l0_4 l0_5 a1_0 a1_1 a1_2 a1_3 l1_4 l1_5 = some r) :
    Calls Try.prog 11 #[.agg #[.int .u64 a0_0, .int .u64 a0_1, .int .u64 a0_2, .int .u64 a0_3, .slice A0_4 l0_4.length c0_4, .slice A0_5 l0_5.length c0_5], .agg #[.int .u64 a1_0, .int .u64 a1_1, .int .u64 a1_2, .int .u64 a1_3, .slice A1_4 l1_4.length c1_4, .slice A1_5 l1_5.length c1_5]] w fun e w' => e = .returned (.bool r) ∧ Below w.heap.size w w' := by
  have hu27 := Try.underlying27
  have hu40 := Try.underlying40
  have HR0_4 := Aside0.mk hr0_4
  have HC0_4 := Aside0.mk hc0_4
  clear hr0_4 hc0_4
  have HR0_5 := Aside0.mk hr0_5
  have HC0_5 := Aside0.mk hc0_5
  clear hr0_5 hc0_5
  have HR1_4 := Aside0.mk hr1_4
  have HC1_4 := Aside0.mk hc1_4
  clear hr1_4 hc1_4
  have HR1_5 := Aside0.mk hr1_5
  have HC1_5 := Aside0.mk hc1_5
  clear hr1_5 hc1_5
  have HB := Aside0.mk (Below.refl w.heap.size w)
  have H : (if a0_3 > 0 then (ferruleref21_Ahead.j0 k (decide (a0_3 < a1_2)) a0_0 a0_1 a0_2 a0_3 l0_4 l0_5 a1_0 a1_1 a1_2 a1_3 l1_4 l1_5) else (ferruleref21_Ahead.j0 k false a0_0 a0_1 a0_2 a0_3 l0_4 l0_5 a1_0 a1_1 a1_2 a1_3 l1_4 l1_5)) = some r := h
  clear h
  have HC3 := Aside0.mk H
  clear H
  go_enter Try.func11, Try.ntmps11
  go_upto_region 1 with (first | ((with_reducible refine gate_dst (N := 2) rfl ?_); refine box_event ?hg (N := 2) ?hd (cs := #[.int .u64 a0_0, .int .u64 a0_1, .int .u64 a0_2, .int .u64 a0_3, .slice A0_4 l0_4.length c0_4, .slice A0_5 l0_5.length c0_5]) (t := 27) ?hr ?_; (case hd => rfl); (case hg => rfl); (case hr => first | (go_simp; done) | (go_simp; rfl)); intro gb101 hg w4 hbox hb; have n0_ := Aside0.mk (below_step (by repeat (first | (with_reducible first | exact HB.out | apply below_alloc | apply pw_below_drewN | apply below_drew1) | exact HB.out)) hb); have n1_ := Aside0.mk (hbox); have n2_ := Aside0.mk ((by rw [hg]; exact (below_size (by repeat (first | (with_reducible first | exact HB.out | apply below_alloc | apply pw_below_drewN | apply below_drew1) | exact HB.out))) : w.heap.size ≤ gb101)); have n3_ := Aside0.mk ((by rw [hg]; exact (below_size (by repeat (first | (with_reducible first | exact HB.out | apply below_alloc | apply pw_below_drewN | apply below_drew1) | exact HB.out))) : w.heap.size ≤ gb101)); clear HB; have HB := n0_; have BK101 := n1_; have GW101 := n2_; have GE101 := n3_; clear n0_ n1_ n2_ n3_; clear hb hbox hg) | ((with_reducible refine gate_dst (N := 3) rfl ?_); refine box_event ?hg (N := 3) ?hd (cs := #[.int .u64 a1_0, .int .u64 a1_1, .int .u64 a1_2, .int .u64 a1_3, .slice A1_4 l1_4.length c1_4, .slice A1_5 l1_5.length c1_5]) (t := 27) ?hr ?_; (case hd => rfl); (case hg => rfl); (case hr => first | (go_simp; done) | (go_simp; rfl)); intro gb102 hg w5 hbox hb; have n0_ := Aside0.mk (blk_below (g := gb101) (o := .cells #[.int .u64 a0_0, .int .u64 a0_1, .int .u64 a0_2, .int .u64 a0_3, .slice A0_4 l0_4.length c0_4, .slice A0_5 l0_5.length c0_5] 27 (0, 0)) (by (with_reducible repeat (first | refine blk_drewN ?_ _ | refine blk_drew ?_ | refine blk_alloc ?_ _)); exact BK101.out) hb); have n1_ := Aside0.mk (below_step (by repeat (first | (with_reducible first | exact HB.out | apply below_alloc | apply pw_below_drewN | apply below_drew1 | refine below_set ?_ GE101.out) | exact HB.out)) hb); have n2_ := Aside0.mk (hbox); have n3_ := Aside0.mk ((by rw [hg]; exact (below_size (by repeat (first | (with_reducible first | exact HB.out | apply below_alloc | apply pw_below_drewN | apply below_drew1 | refine below_set ?_ GE101.out) | exact HB.out))) : w.heap.size ≤ gb102)); have n4_ := Aside0.mk ((by rw [hg]; exact (below_size (by repeat (first | (with_reducible first | exact HB.out | apply below_alloc | apply pw_below_drewN | apply below_drew1 | refine below_set ?_ GE101.out) | exact HB.out))) : w.heap.size ≤ gb102)); have n5_ := Aside0.mk ((by rw [hg]; exact Nat.ne_of_lt (blk_lt (g := gb101) (o := .cells #[.int .u64 a0_0, .int .u64 a0_1, .int .u64 a0_2, .int .u64 a0_3, .slice A0_4 l0_4.length c0_4, .slice A0_5 l0_5.length c0_5] 27 (0, 0)) (by (with_reducible repeat (first | refine blk_drewN ?_ _ | refine blk_drew ?_ | refine blk_alloc ?_ _)); exact BK101.out)) : gb101 ≠ gb102)); have n6_ := Aside0.mk ((by rw [hg]; exact Nat.ne_of_gt (blk_lt (g := gb101) (o := .cells #[.int .u64 a0_0, .int .u64 a0_1, .int .u64 a0_2, .int .u64 a0_3, .slice A0_4 l0_4.length c0_4, .slice A0_5 l0_5.length c0_5] 27 (0, 0)) (by (with_reducible repeat (first | refine blk_drewN ?_ _ | refine blk_drew ?_ | refine blk_alloc ?_ _)); exact BK101.out)) : gb102 ≠ gb101)); clear BK101; clear HB; have BK101 := n0_; have HB := n1_; have BK102 := n2_; have GW102 := n3_; have GE102 := n4_; have NB101_102 := n5_; have NB102_101 := n6_; clear n0_ n1_ n2_ n3_ n4_ n5_ n6_; clear hb hbox hg))
  (try simp only [Act.put, List.setIfInBounds_toArray, List.set_cons_zero, List.set_cons_succ])
  go_cut [24] (fun v24 wc => ∃ (kq : Nat) (x24_2 : Bool), v24 = .bool x24_2 ∧ Aside0 (ferruleref21_Ahead.j0 kq x24_2 a0_0 a0_1 a0_2 a0_3 l0_4 l0_5 a1_0 a1_1 a1_2 a1_3 l1_4 l1_5 = some r) ∧ Aside0 (kq ≤ k) ∧ Aside0 (wc.heap[gb101]? = some (.cells #[.int .u64 a0_0, .int .u64 a0_1, .int .u64 a0_2, .int .u64 a0_3, (.slice A0_4 l0_4.length c0_4), (.slice A0_5 l0_5.length c0_5)] 27 (0, 0))) ∧ Aside0 (wc.heap[gb102]? = some (.cells #[.int .u64 a1_0, .int .u64 a1_1, .int .u64 a1_2, .int .u64 a1_3, (.slice A1_4 l1_4.length c1_4), (.slice A1_5 l1_5.length c1_5)] 27 (0, 0))) ∧ Aside0 (Below w.heap.size w wc))
  case first =>
    have H := HC3.out
    clear HC3
    by_cases c6 : a0_3 > 0
    · rw [if_pos c6] at H
      have c6b0 : decide (0 < a0_3) = true := decide_eq_true c6
      clear c6
      (first | rw [c6b0] | (simp only [i64_w, i32_w]; rw [c6b0]) | skip)
      have H' := Aside0.mk H
      clear H
      have hnb7 := NB101_102.out
      have hnc7 := NB102_101.out
      have hcz8_0 : w5.cell? ⟨gb101, 0, none⟩ = some (.int .u64 a0_0) := (blk_cell BK101.out 0).trans rfl
      have hcz8_1 : w5.cell? ⟨gb101, 1, none⟩ = some (.int .u64 a0_1) := (blk_cell BK101.out 1).trans rfl
      have hcz8_2 : w5.cell? ⟨gb101, 2, none⟩ = some (.int .u64 a0_2) := (blk_cell BK101.out 2).trans rfl
      have hcz8_3 : w5.cell? ⟨gb101, 3, none⟩ = some (.int .u64 a0_3) := (blk_cell BK101.out 3).trans rfl
      have hcz8_4 : w5.cell? ⟨gb101, 4, none⟩ = some (.slice A0_4 l0_4.length c0_4) := (blk_cell BK101.out 4).trans rfl
      have hcz8_5 : w5.cell? ⟨gb101, 5, none⟩ = some (.slice A0_5 l0_5.length c0_5) := (blk_cell BK101.out 5).trans rfl
      have hfz8_0 := blk_frozen BK101.out 0
      have hfz8_1 := blk_frozen BK101.out 1
      have hfz8_2 := blk_frozen BK101.out 2
      have hfz8_3 := blk_frozen BK101.out 3
      have hfz8_4 := blk_frozen BK101.out 4
      have hfz8_5 := blk_frozen BK101.out 5
      have hcz9_0 : w5.cell? ⟨gb102, 0, none⟩ = some (.int .u64 a1_0) := (blk_cell BK102.out 0).trans rfl
      have hcz9_1 : w5.cell? ⟨gb102, 1, none⟩ = some (.int .u64 a1_1) := (blk_cell BK102.out 1).trans rfl
      have hcz9_2 : w5.cell? ⟨gb102, 2, none⟩ = some (.int .u64 a1_2) := (blk_cell BK102.out 2).trans rfl
      have hcz9_3 : w5.cell? ⟨gb102, 3, none⟩ = some (.int .u64 a1_3) := (blk_cell BK102.out 3).trans rfl
      have hcz9_4 : w5.cell? ⟨gb102, 4, none⟩ = some (.slice A1_4 l1_4.length c1_4) := (blk_cell BK102.out 4).trans rfl
      have hcz9_5 : w5.cell? ⟨gb102, 5, none⟩ = some (.slice A1_5 l1_5.length c1_5) := (blk_cell BK102.out 5).trans rfl
      have hfz9_0 := blk_frozen BK102.out 0
      have hfz9_1 := blk_frozen BK102.out 1
      have hfz9_2 := blk_frozen BK102.out 2
      have hfz9_3 := blk_frozen BK102.out 3
      have hfz9_4 := blk_frozen BK102.out 4
      have hfz9_5 := blk_frozen BK102.out 5
      go_wp2
      go_meet
      case rel => exact ⟨_, (decide (a0_3 < a1_2)), (by first | rfl | (simp; done) | (simp [*]; done)), H', ⟨by first | omega | exact Nat.le_refl _⟩, ⟨by (with_reducible repeat (first | refine blk_drewN ?_ _ | refine blk_drew ?_ | refine blk_alloc ?_ _)); exact BK101.out⟩, ⟨by (with_reducible repeat (first | refine blk_drewN ?_ _ | refine blk_drew ?_ | refine blk_alloc ?_ _)); exact BK102.out⟩, ⟨by repeat (first | (with_reducible first | exact HB.out | apply below_alloc | apply pw_below_drewN | apply below_drew1 | refine below_set ?_ GE101.out | refine below_set ?_ GE102.out) | exact HB.out)⟩⟩
    · rw [if_neg c6] at H
      have c6b0 : decide (0 < a0_3) = false := decide_eq_false c6
      clear c6
      (first | rw [c6b0] | (simp only [i64_w, i32_w]; rw [c6b0]) | skip)
      have H' := Aside0.mk H
      clear H
      have hnb10 := NB101_102.out
      have hnc10 := NB102_101.out
      have hcz11_0 : w5.cell? ⟨gb101, 0, none⟩ = some (.int .u64 a0_0) := (blk_cell BK101.out 0).trans rfl
      have hcz11_1 : w5.cell? ⟨gb101, 1, none⟩ = some (.int .u64 a0_1) := (blk_cell BK101.out 1).trans rfl
      have hcz11_2 : w5.cell? ⟨gb101, 2, none⟩ = some (.int .u64 a0_2) := (blk_cell BK101.out 2).trans rfl
      have hcz11_3 : w5.cell? ⟨gb101, 3, none⟩ = some (.int .u64 a0_3) := (blk_cell BK101.out 3).trans rfl
      have hcz11_4 : w5.cell? ⟨gb101, 4, none⟩ = some (.slice A0_4 l0_4.length c0_4) := (blk_cell BK101.out 4).trans rfl
      have hcz11_5 : w5.cell? ⟨gb101, 5, none⟩ = some (.slice A0_5 l0_5.length c0_5) := (blk_cell BK101.out 5).trans rfl
      have hfz11_0 := blk_frozen BK101.out 0
      have hfz11_1 := blk_frozen BK101.out 1
      have hfz11_2 := blk_frozen BK101.out 2
      have hfz11_3 := blk_frozen BK101.out 3
      have hfz11_4 := blk_frozen BK101.out 4
      have hfz11_5 := blk_frozen BK101.out 5
      go_wp2
      go_meet
      case rel => exact ⟨_, (false), (by first | rfl | (simp; done) | (simp [*]; done)), H', ⟨by first | omega | exact Nat.le_refl _⟩, ⟨by (with_reducible repeat (first | refine blk_drewN ?_ _ | refine blk_drew ?_ | refine blk_alloc ?_ _)); exact BK101.out⟩, ⟨by (with_reducible repeat (first | refine blk_drewN ?_ _ | refine blk_drew ?_ | refine blk_alloc ?_ _)); exact BK102.out⟩, ⟨by repeat (first | (with_reducible first | exact HB.out | apply below_alloc | apply pw_below_drewN | apply below_drew1 | refine below_set ?_ GE101.out | refine below_set ?_ GE102.out) | exact HB.out)⟩⟩
  case rest =>
    clear HC3
    try clear c1
    try clear p2
    try clear c6
    try clear c6b0
    try clear c7
    try clear c10
    try clear c11
    try clear hcz11_0
    try clear hcz11_1
    try clear hcz11_2
    try clear hcz11_3
    try clear hcz11_4
    try clear hcz11_5
    try clear hcz8_0
    try clear hcz8_1
    try clear hcz8_2
    try clear hcz8_3
    try clear hcz8_4
    try clear hcz8_5
    try clear hcz9_0
    try clear hcz9_1
    try clear hcz9_2
    try clear hcz9_3
    try clear hcz9_4
    try clear hcz9_5
    try clear hfz11_0
    try clear hfz11_1
    try clear hfz11_2
    try clear hfz11_3
    try clear hfz11_4
    try clear hfz11_5
    try clear hfz8_0
    try clear hfz8_1
    try clear hfz8_2
    try clear hfz8_3
    try clear hfz8_4
    try clear hfz8_5
    try clear hfz9_0
    try clear hfz9_1
    try clear hfz9_2
    try clear hfz9_3
    try clear hfz9_4
    try clear hfz9_5
    obtain ⟨kq, x24_2, rfl, HA, HJ2, BK101, BK102, HB⟩ := hcut
    cases kq with
    | zero => exact absurd HA.out (by simp [ferruleref21_Ahead.j0])
    | succ kj2 =>
      have H := HA.out
      clear HA
      simp only [ferruleref21_Ahead.j0] at H
      by_cases c12 : x24_2 = true
      · subst c12
        have H1 : (some true) = some r := by rw [if_pos rfl] at H; exact H
        clear H
        have H := H1
        clear H1
        obtain rfl := Option.some.inj H
        go_wp2
        go_ret
        exact ⟨by first | rfl | (simp [errW_none, errW_some] <;> rfl) | (simp [*, errW_none, errW_some] <;> rfl), by repeat (first | (with_reducible first | exact HB.out | apply below_alloc | apply pw_below_drewN | apply below_drew1 | refine below_set ?_ GE101.out | refine below_set ?_ GE102.out) | exact HB.out)⟩
      · replace c12 := Bool.eq_false_iff.mpr c12
        subst c12
        have H1 : (ferruleref21_Ahead.l0 kj2 0 a0_0 a0_1 a0_2 a0_3 l0_4 l0_5 a1_0 a1_1 a1_2 a1_3 l1_4 l1_5) = some r := by rw [if_neg (show ¬ (false = true) by decide)] at H; exact H
        clear H
        have H := H1
        clear H1
        have H' := Aside0.mk H
        clear H
        go_wp2
        go_loopg [5] kj2 (fun kq v5 w' => ∃ (x5_2 : Int), v5 = .int .i64 x5_2 ∧ Aside0 (ferruleref21_Ahead.l0 kq x5_2 a0_0 a0_1 a0_2 a0_3 l0_4 l0_5 a1_0 a1_1 a1_2 a1_3 l1_4 l1_5 = some r) ∧ Aside0 (kq ≤ kj2) ∧ Aside0 (w'.heap[gb101]? = some (.cells #[.int .u64 a0_0, .int .u64 a0_1, .int .u64 a0_2, .int .u64 a0_3, (.slice A0_4 l0_4.length c0_4), (.slice A0_5 l0_5.length c0_5)] 27 (0, 0))) ∧ Aside0 (w'.heap[gb102]? = some (.cells #[.int .u64 a1_0, .int .u64 a1_1, .int .u64 a1_2, .int .u64 a1_3, (.slice A1_4 l1_4.length c1_4), (.slice A1_5 l1_5.length c1_5)] 27 (0, 0))) ∧ Aside0 (Below w.heap.size w w'))
        case atStart => exact ⟨(0), (by first | rfl | (simp; done) | (simp [*]; done)), H', ⟨Nat.le_refl _⟩, ⟨by (with_reducible repeat (first | refine blk_drewN ?_ _ | refine blk_drew ?_ | refine blk_alloc ?_ _)); exact BK101.out⟩, ⟨by (with_reducible repeat (first | refine blk_drewN ?_ _ | refine blk_drew ?_ | refine blk_alloc ?_ _)); exact BK102.out⟩, ⟨by repeat (first | (with_reducible first | exact HB.out | apply below_alloc | apply pw_below_drewN | apply below_drew1 | refine below_set ?_ GE101.out | refine below_set ?_ GE102.out) | exact HB.out)⟩⟩
        case round =>
          clear H'
          try clear c1
          try clear p2
          try clear c6
          try clear c6b0
          try clear c7
          try clear c10
          try clear c11
          try clear c12
          try clear hcz11_0
          try clear hcz11_1
          try clear hcz11_2
          try clear hcz11_3
          try clear hcz11_4
          try clear hcz11_5
          try clear hcz8_0
          try clear hcz8_1
          try clear hcz8_2
          try clear hcz8_3
          try clear hcz8_4
          try clear hcz8_5
          try clear hcz9_0
          try clear hcz9_1
          try clear hcz9_2
          try clear hcz9_3
          try clear hcz9_4
          try clear hcz9_5
          try clear hfz11_0
          try clear hfz11_1
          try clear hfz11_2
          try clear hfz11_3
          try clear hfz11_4
          try clear hfz11_5
          try clear hfz8_0
          try clear hfz8_1
          try clear hfz8_2
          try clear hfz8_3
          try clear hfz8_4
          try clear hfz8_5
          try clear hfz9_0
          try clear hfz9_1
          try clear hfz9_2
          try clear hfz9_3
          try clear hfz9_4
          try clear hfz9_5
          try clear p2
          obtain ⟨x5_2, rfl, HA, HK2, BK101, BK102, HB⟩ := hrel
          cases gk with
          | zero => exact absurd HA.out (by simp [ferruleref21_Ahead.l0])
          | succ k2 =>
            have H := HA.out
            clear HA
            simp only [ferruleref21_Ahead.l0] at H
            by_cases c13 : x5_2 < (l0_5.length : Int)
            · rw [if_pos c13] at H
              have c13b0 : decide (x5_2 < (l0_5.length : Int)) = true := decide_eq_true c13
              clear c13
              by_cases c14 : 0 ≤ x5_2
              · rw [if_pos c14] at H
                have c14b0 : decide (0 ≤ x5_2) = true := decide_eq_true c14
                clear c14
                have H' := Aside0.mk H
                clear H
                have hnb15 := NB101_102.out
                have hnc15 := NB102_101.out
                have hcz16_0 : wr.cell? ⟨gb101, 0, none⟩ = some (.int .u64 a0_0) := (blk_cell BK101.out 0).trans rfl
                have hcz16_1 : wr.cell? ⟨gb101, 1, none⟩ = some (.int .u64 a0_1) := (blk_cell BK101.out 1).trans rfl
                have hcz16_2 : wr.cell? ⟨gb101, 2, none⟩ = some (.int .u64 a0_2) := (blk_cell BK101.out 2).trans rfl
                have hcz16_3 : wr.cell? ⟨gb101, 3, none⟩ = some (.int .u64 a0_3) := (blk_cell BK101.out 3).trans rfl
                have hcz16_4 : wr.cell? ⟨gb101, 4, none⟩ = some (.slice A0_4 l0_4.length c0_4) := (blk_cell BK101.out 4).trans rfl
                have hcz16_5 : wr.cell? ⟨gb101, 5, none⟩ = some (.slice A0_5 l0_5.length c0_5) := (blk_cell BK101.out 5).trans rfl
                have hfz16_0 := blk_frozen BK101.out 0
                have hfz16_1 := blk_frozen BK101.out 1
                have hfz16_2 := blk_frozen BK101.out 2
                have hfz16_3 := blk_frozen BK101.out 3
                have hfz16_4 := blk_frozen BK101.out 4
                have hfz16_5 := blk_frozen BK101.out 5
                have p103 : 0 ≤ (x5_2 : Int) := of_decide_eq_true (by first | (with_reducible assumption) | assumption)
                have q103 : x5_2 < (l0_5.length : Int) := of_decide_eq_true (by first | (with_reducible assumption) | assumption)
                obtain ⟨ad103, e103, hx103_0, hx103_1, hx103_2⟩ := at_T40 HR0_5.out x5_2 p103 q103
                cases e103
                replace hx103_0 := (HB.out.cell (World.block_lt_of_cell? w _ hx103_0)).trans hx103_0
                replace hx103_1 := (HB.out.cell (World.block_lt_of_cell? w _ hx103_1)).trans hx103_1
                replace hx103_2 := (HB.out.cell (World.block_lt_of_cell? w _ hx103_2)).trans hx103_2
                replace p103 := eq_true p103
                replace q103 := eq_true q103
                go_wp2_with (first | ((with_reducible refine gate_dst (N := 6) rfl ?_); refine box_event ?hg (N := 6) ?hd (cs := #[.int .u64 0, .string (⟨#[]⟩ : ByteArray), .int .u64 0]) (t := 40) ?hr ?_; (case hd => rfl); (case hg => rfl); (case hr => first | (go_simp; done) | (go_simp; rfl)); intro gb104 hg w17 hbox hb; have n0_ := Aside0.mk (blk_below (g := gb101) (o := .cells #[.int .u64 a0_0, .int .u64 a0_1, .int .u64 a0_2, .int .u64 a0_3, .slice A0_4 l0_4.length c0_4, .slice (some ad103) l0_5.length c0_5] 27 (0, 0)) (by (with_reducible repeat (first | refine blk_drewN ?_ _ | refine blk_drew ?_ | refine blk_alloc ?_ _)); exact BK101.out) hb); have n1_ := Aside0.mk (blk_below (g := gb102) (o := .cells #[.int .u64 a1_0, .int .u64 a1_1, .int .u64 a1_2, .int .u64 a1_3, .slice A1_4 l1_4.length c1_4, .slice A1_5 l1_5.length c1_5] 27 (0, 0)) (by (with_reducible repeat (first | refine blk_drewN ?_ _ | refine blk_drew ?_ | refine blk_alloc ?_ _)); exact BK102.out) hb); have n2_ := Aside0.mk (below_step (by repeat (first | (with_reducible first | exact HB.out | apply below_alloc | apply pw_below_drewN | apply below_drew1 | refine below_set ?_ GE101.out | refine below_set ?_ GE102.out) | exact HB.out)) hb); have n3_ := Aside0.mk (hbox); have n4_ := Aside0.mk ((by rw [hg]; exact (below_size (by repeat (first | (with_reducible first | exact HB.out | apply below_alloc | apply pw_below_drewN | apply below_drew1 | refine below_set ?_ GE101.out | refine below_set ?_ GE102.out) | exact HB.out))) : w.heap.size ≤ gb104)); have n5_ := Aside0.mk ((by rw [hg]; exact (below_size (by repeat (first | (with_reducible first | exact HB.out | apply below_alloc | apply pw_below_drewN | apply below_drew1 | refine below_set ?_ GE101.out | refine below_set ?_ GE102.out) | exact HB.out))) : w.heap.size ≤ gb104)); have n6_ := Aside0.mk ((by rw [hg]; exact Nat.ne_of_lt (blk_lt (g := gb101) (o := .cells #[.int .u64 a0_0, .int .u64 a0_1, .int .u64 a0_2, .int .u64 a0_3, .slice A0_4 l0_4.length c0_4, .slice (some ad103) l0_5.length c0_5] 27 (0, 0)) (by (with_reducible repeat (first | refine blk_drewN ?_ _ | refine blk_drew ?_ | refine blk_alloc ?_ _)); exact BK101.out)) : gb101 ≠ gb104)); have n7_ := Aside0.mk ((by rw [hg]; exact Nat.ne_of_gt (blk_lt (g := gb101) (o := .cells #[.int .u64 a0_0, .int .u64 a0_1, .int .u64 a0_2, .int .u64 a0_3, .slice A0_4 l0_4.length c0_4, .slice (some ad103) l0_5.length c0_5] 27 (0, 0)) (by (with_reducible repeat (first | refine blk_drewN ?_ _ | refine blk_drew ?_ | refine blk_alloc ?_ _)); exact BK101.out)) : gb104 ≠ gb101)); have n8_ := Aside0.mk ((by rw [hg]; exact Nat.ne_of_lt (blk_lt (g := gb102) (o := .cells #[.int .u64 a1_0, .int .u64 a1_1, .int .u64 a1_2, .int .u64 a1_3, .slice A1_4 l1_4.length c1_4, .slice A1_5 l1_5.length c1_5] 27 (0, 0)) (by (with_reducible repeat (first | refine blk_drewN ?_ _ | refine blk_drew ?_ | refine blk_alloc ?_ _)); exact BK102.out)) : gb102 ≠ gb104)); have n9_ := Aside0.mk ((by rw [hg]; exact Nat.ne_of_gt (blk_lt (g := gb102) (o := .cells #[.int .u64 a1_0, .int .u64 a1_1, .int .u64 a1_2, .int .u64 a1_3, .slice A1_4 l1_4.length c1_4, .slice A1_5 l1_5.length c1_5] 27 (0, 0)) (by (with_reducible repeat (first | refine blk_drewN ?_ _ | refine blk_drew ?_ | refine blk_alloc ?_ _)); exact BK102.out)) : gb104 ≠ gb102)); clear BK101; clear BK102; clear HB; have BK101 := n0_; have BK102 := n1_; have HB := n2_; have BK104 := n3_; have GW104 := n4_; have GE104 := n5_; have NB101_104 := n6_; have NB104_101 := n7_; have NB102_104 := n8_; have NB104_102 := n9_; clear n0_ n1_ n2_ n3_ n4_ n5_ n6_ n7_ n8_ n9_; clear hb hbox hg; have hnb18 := NB104_101.out; have hnc18 := NB101_104.out; have hnb19 := NB104_102.out; have hnc19 := NB102_104.out; have hcz20_0 : w17.cell? ⟨gb104, 0, none⟩ = some (.int .u64 0) := (blk_cell BK104.out 0).trans rfl; have hcz20_1 : w17.cell? ⟨gb104, 1, none⟩ = some (.string (⟨#[]⟩ : ByteArray)) := (blk_cell BK104.out 1).trans rfl; have hcz20_2 : w17.cell? ⟨gb104, 2, none⟩ = some (.int .u64 0) := (blk_cell BK104.out 2).trans rfl; have hfz20_0 := blk_frozen BK104.out 0; have hfz20_1 := blk_frozen BK104.out 1; have hfz20_2 := blk_frozen BK104.out 2))
                go_loopg [7] k2 (fun kq v7 w' => ∃ (x7_3 : Int), v7 = .int .i64 x7_3 ∧ Aside0 (ferruleref21_Ahead.l1 kq x5_2 x7_3 a0_0 a0_1 a0_2 a0_3 l0_4 l0_5 a1_0 a1_1 a1_2 a1_3 l1_4 l1_5 ((rd_T40 l0_5 x5_2).f0) ((rd_T40 l0_5 x5_2).f1) ((rd_T40 l0_5 x5_2).f2) = some r) ∧ Aside0 (kq ≤ k2) ∧ Aside0 (w'.heap[gb101]? = some (.cells #[.int .u64 a0_0, .int .u64 a0_1, .int .u64 a0_2, .int .u64 a0_3, (.slice A0_4 l0_4.length c0_4), (.slice (some ad103) l0_5.length c0_5)] 27 (0, 0))) ∧ Aside0 (w'.heap[gb102]? = some (.cells #[.int .u64 a1_0, .int .u64 a1_1, .int .u64 a1_2, .int .u64 a1_3, (.slice A1_4 l1_4.length c1_4), (.slice A1_5 l1_5.length c1_5)] 27 (0, 0))) ∧ Aside0 (w'.heap[gb104]? = some (.cells #[.int .u64 ((rd_T40 l0_5 x5_2).f0), .string ((rd_T40 l0_5 x5_2).f1), .int .u64 ((rd_T40 l0_5 x5_2).f2)] 40 (0, 0))) ∧ Aside0 (Below w.heap.size w w'))
                case atStart => exact ⟨(0), (by first | rfl | (simp; done) | (simp [*]; done)), H', ⟨Nat.le_refl _⟩, ⟨by (with_reducible repeat (first | refine blk_drewN ?_ _ | refine blk_drew ?_ | refine blk_alloc ?_ _)); refine blk_far ?_ NB101_104.out _; (with_reducible repeat (first | refine blk_drewN ?_ _ | refine blk_drew ?_ | refine blk_alloc ?_ _)); refine blk_far ?_ NB101_104.out _; (with_reducible repeat (first | refine blk_drewN ?_ _ | refine blk_drew ?_ | refine blk_alloc ?_ _)); refine blk_far ?_ NB101_104.out _; (with_reducible repeat (first | refine blk_drewN ?_ _ | refine blk_drew ?_ | refine blk_alloc ?_ _)); exact BK101.out⟩, ⟨by (with_reducible repeat (first | refine blk_drewN ?_ _ | refine blk_drew ?_ | refine blk_alloc ?_ _)); refine blk_far ?_ NB102_104.out _; (with_reducible repeat (first | refine blk_drewN ?_ _ | refine blk_drew ?_ | refine blk_alloc ?_ _)); refine blk_far ?_ NB102_104.out _; (with_reducible repeat (first | refine blk_drewN ?_ _ | refine blk_drew ?_ | refine blk_alloc ?_ _)); refine blk_far ?_ NB102_104.out _; (with_reducible repeat (first | refine blk_drewN ?_ _ | refine blk_drew ?_ | refine blk_alloc ?_ _)); exact BK102.out⟩, ⟨by (with_reducible repeat (first | refine blk_drewN ?_ _ | refine blk_drew ?_ | refine blk_alloc ?_ _)); refine blk_put (cs := #[.int .u64 ((rd_T40 l0_5 x5_2).f0), .string ((rd_T40 l0_5 x5_2).f1), .int .u64 0]) ?_ 2 _ rfl; (with_reducible repeat (first | refine blk_drewN ?_ _ | refine blk_drew ?_ | refine blk_alloc ?_ _)); refine blk_put (cs := #[.int .u64 ((rd_T40 l0_5 x5_2).f0), .string (⟨#[]⟩ : ByteArray), .int .u64 0]) ?_ 1 _ rfl; (with_reducible repeat (first | refine blk_drewN ?_ _ | refine blk_drew ?_ | refine blk_alloc ?_ _)); refine blk_put (cs := #[.int .u64 0, .string (⟨#[]⟩ : ByteArray), .int .u64 0]) ?_ 0 _ rfl; (with_reducible repeat (first | refine blk_drewN ?_ _ | refine blk_drew ?_ | refine blk_alloc ?_ _)); exact BK104.out⟩, ⟨by repeat (first | (with_reducible first | exact HB.out | apply below_alloc | apply pw_below_drewN | apply below_drew1 | refine below_set ?_ GE101.out | refine below_set ?_ GE102.out | refine below_set ?_ GE104.out) | exact HB.out)⟩⟩
                case round =>
                  clear H'
                  try clear c1
                  try clear p1
                  try clear q1
                  try clear hx1
                  try clear p2
                  try clear c6
                  try clear c6b0
                  try clear c7
                  try clear c10
                  try clear p10
                  try clear q10
                  try clear hx10
                  try clear c11
                  try clear c12
                  try clear c13
                  try clear c13b0
                  try clear c14
                  try clear c14b0
                  try clear c15
                  try clear c18
                  try clear c19
                  try clear hcz11_0
                  try clear hcz11_1
                  try clear hcz11_2
                  try clear hcz11_3
                  try clear hcz11_4
                  try clear hcz11_5
                  try clear hcz16_0
                  try clear hcz16_1
                  try clear hcz16_2
                  try clear hcz16_3
                  try clear hcz16_4
                  try clear hcz16_5
                  try clear hcz20_0
                  try clear hcz20_1
                  try clear hcz20_2
                  try clear hcz8_0
                  try clear hcz8_1
                  try clear hcz8_2
                  try clear hcz8_3
                  try clear hcz8_4
                  try clear hcz8_5
                  try clear hcz9_0
                  try clear hcz9_1
                  try clear hcz9_2
                  try clear hcz9_3
                  try clear hcz9_4
                  try clear hcz9_5
                  try clear hfz11_0
                  try clear hfz11_1
                  try clear hfz11_2
                  try clear hfz11_3
                  try clear hfz11_4
                  try clear hfz11_5
                  try clear hfz16_0
                  try clear hfz16_1
                  try clear hfz16_2
                  try clear hfz16_3
                  try clear hfz16_4
                  try clear hfz16_5
                  try clear hfz20_0
                  try clear hfz20_1
                  try clear hfz20_2
                  try clear hfz8_0
                  try clear hfz8_1
                  try clear hfz8_2
                  try clear hfz8_3
                  try clear hfz8_4
                  try clear hfz8_5
                  try clear hfz9_0
                  try clear hfz9_1
                  try clear hfz9_2
                  try clear hfz9_3
                  try clear hfz9_4
                  try clear hfz9_5
                  try clear hx103_0
                  try clear hx103_1
                  try clear hx103_2
                  try clear p103
                  try clear p2
                  try clear q103
                  obtain ⟨x7_3, rfl, HA, HK3, BK101, BK102, BK104, HB⟩ := hrel
                  cases gk with
                  | zero => exact absurd HA.out (by simp [ferruleref21_Ahead.l1])
                  | succ k3 =>
                    have H := HA.out
                    clear HA
                    simp only [ferruleref21_Ahead.l1] at H
                    by_cases c21 : x7_3 < (l1_4.length : Int)
                    · rw [if_pos c21] at H
                      have c21b0 : decide (x7_3 < (l1_4.length : Int)) = true := decide_eq_true c21
                      clear c21
                      by_cases c22 : 0 ≤ x7_3
                      · rw [if_pos c22] at H
                        have c22b0 : decide (0 ≤ x7_3) = true := decide_eq_true c22
                        clear c22
                        by_cases c23 : ((rd_T40 l0_5 x5_2).f0) = ((rd_T40 l1_4 x7_3).f0)
                        · rw [if_pos c23] at H
                          have c23b0 : (((rd_T40 l0_5 x5_2).f0) == ((rd_T40 l1_4 x7_3).f0)) = true := beq_iff_eq.mpr c23
                          have c23b1 : (((rd_T40 l0_5 x5_2).f0) != ((rd_T40 l1_4 x7_3).f0)) = false := bne_eq_false_iff_eq.mpr c23
                          clear c23
                          by_cases c24 : ((rd_T40 l0_5 x5_2).f1).toList = ((rd_T40 l1_4 x7_3).f1).toList
                          · rw [if_pos c24] at H
                            have c24b0 : (((rd_T40 l0_5 x5_2).f1).toList == ((rd_T40 l1_4 x7_3).f1).toList) = true := beq_iff_eq.mpr c24
                            have c24b1 : (((rd_T40 l0_5 x5_2).f1).toList != ((rd_T40 l1_4 x7_3).f1).toList) = false := bne_eq_false_iff_eq.mpr c24
                            clear c24
                            by_cases c25 : ((rd_T40 l0_5 x5_2).f2) ≤ ((rd_T40 l1_4 x7_3).f2)
                            · rw [if_pos c25] at H
                              have c25b0 : decide (((rd_T40 l0_5 x5_2).f2) ≤ ((rd_T40 l1_4 x7_3).f2)) = true := decide_eq_true c25
                              clear c25
                              obtain rfl := Option.some.inj H
                              have hnb26 := NB102_101.out
                              have hnc26 := NB101_102.out
                              have hnb27 := NB102_104.out
                              have hnc27 := NB104_102.out
                              have hcz28_0 : wr.cell? ⟨gb102, 0, none⟩ = some (.int .u64 a1_0) := (blk_cell BK102.out 0).trans rfl
                              have hcz28_1 : wr.cell? ⟨gb102, 1, none⟩ = some (.int .u64 a1_1) := (blk_cell BK102.out 1).trans rfl
                              have hcz28_2 : wr.cell? ⟨gb102, 2, none⟩ = some (.int .u64 a1_2) := (blk_cell BK102.out 2).trans rfl
                              have hcz28_3 : wr.cell? ⟨gb102, 3, none⟩ = some (.int .u64 a1_3) := (blk_cell BK102.out 3).trans rfl
                              have hcz28_4 : wr.cell? ⟨gb102, 4, none⟩ = some (.slice A1_4 l1_4.length c1_4) := (blk_cell BK102.out 4).trans rfl
                              have hcz28_5 : wr.cell? ⟨gb102, 5, none⟩ = some (.slice A1_5 l1_5.length c1_5) := (blk_cell BK102.out 5).trans rfl
                              have hfz28_0 := blk_frozen BK102.out 0
                              have hfz28_1 := blk_frozen BK102.out 1
                              have hfz28_2 := blk_frozen BK102.out 2
                              have hfz28_3 := blk_frozen BK102.out 3
                              have hfz28_4 := blk_frozen BK102.out 4
                              have hfz28_5 := blk_frozen BK102.out 5
                              have p105 : 0 ≤ (x7_3 : Int) := of_decide_eq_true (by first | (with_reducible assumption) | assumption)
                              have q105 : x7_3 < (l1_4.length : Int) := of_decide_eq_true (by first | (with_reducible assumption) | assumption)
                              obtain ⟨ad105, e105, hx105_0, hx105_1, hx105_2⟩ := at_T40 HR1_4.out x7_3 p105 q105
                              cases e105
                              replace hx105_0 := (HB.out.cell (World.block_lt_of_cell? w _ hx105_0)).trans hx105_0
                              replace hx105_1 := (HB.out.cell (World.block_lt_of_cell? w _ hx105_1)).trans hx105_1
                              replace hx105_2 := (HB.out.cell (World.block_lt_of_cell? w _ hx105_2)).trans hx105_2
                              replace p105 := eq_true p105
                              replace q105 := eq_true q105
                              go_wp2_with (first | ((with_reducible refine gate_dst (N := 8) rfl ?_); refine box_event ?hg (N := 8) ?hd (cs := #[.int .u64 0, .string (⟨#[]⟩ : ByteArray), .int .u64 0]) (t := 40) ?hr ?_; (case hd => rfl); (case hg => rfl); (case hr => first | (go_simp; done) | (go_simp; rfl)); intro gb106 hg w29 hbox hb; have n0_ := Aside0.mk (blk_below (g := gb101) (o := .cells #[.int .u64 a0_0, .int .u64 a0_1, .int .u64 a0_2, .int .u64 a0_3, .slice A0_4 l0_4.length c0_4, .slice (some ad103) l0_5.length c0_5] 27 (0, 0)) (by (with_reducible repeat (first | refine blk_drewN ?_ _ | refine blk_drew ?_ | refine blk_alloc ?_ _)); exact BK101.out) hb); have n1_ := Aside0.mk (blk_below (g := gb102) (o := .cells #[.int .u64 a1_0, .int .u64 a1_1, .int .u64 a1_2, .int .u64 a1_3, .slice (some ad105) l1_4.length c1_4, .slice A1_5 l1_5.length c1_5] 27 (0, 0)) (by (with_reducible repeat (first | refine blk_drewN ?_ _ | refine blk_drew ?_ | refine blk_alloc ?_ _)); exact BK102.out) hb); have n2_ := Aside0.mk (blk_below (g := gb104) (o := .cells #[.int .u64 ((rd_T40 l0_5 x5_2).f0), .string ((rd_T40 l0_5 x5_2).f1), .int .u64 ((rd_T40 l0_5 x5_2).f2)] 40 (0, 0)) (by (with_reducible repeat (first | refine blk_drewN ?_ _ | refine blk_drew ?_ | refine blk_alloc ?_ _)); exact BK104.out) hb); have n3_ := Aside0.mk (below_step (by repeat (first | (with_reducible first | exact HB.out | apply below_alloc | apply pw_below_drewN | apply below_drew1 | refine below_set ?_ GE101.out | refine below_set ?_ GE102.out | refine below_set ?_ GE104.out) | exact HB.out)) hb); have n4_ := Aside0.mk (hbox); have n5_ := Aside0.mk ((by rw [hg]; exact (below_size (by repeat (first | (with_reducible first | exact HB.out | apply below_alloc | apply pw_below_drewN | apply below_drew1 | refine below_set ?_ GE101.out | refine below_set ?_ GE102.out | refine below_set ?_ GE104.out) | exact HB.out))) : w.heap.size ≤ gb106)); have n6_ := Aside0.mk ((by rw [hg]; exact (below_size (by repeat (first | (with_reducible first | exact HB.out | apply below_alloc | apply pw_below_drewN | apply below_drew1 | refine below_set ?_ GE101.out | refine below_set ?_ GE102.out | refine below_set ?_ GE104.out) | exact HB.out))) : w.heap.size ≤ gb106)); have n7_ := Aside0.mk ((by rw [hg]; exact Nat.ne_of_lt (blk_lt (g := gb101) (o := .cells #[.int .u64 a0_0, .int .u64 a0_1, .int .u64 a0_2, .int .u64 a0_3, .slice A0_4 l0_4.length c0_4, .slice (some ad103) l0_5.length c0_5] 27 (0, 0)) (by (with_reducible repeat (first | refine blk_drewN ?_ _ | refine blk_drew ?_ | refine blk_alloc ?_ _)); exact BK101.out)) : gb101 ≠ gb106)); have n8_ := Aside0.mk ((by rw [hg]; exact Nat.ne_of_gt (blk_lt (g := gb101) (o := .cells #[.int .u64 a0_0, .int .u64 a0_1, .int .u64 a0_2, .int .u64 a0_3, .slice A0_4 l0_4.length c0_4, .slice (some ad103) l0_5.length c0_5] 27 (0, 0)) (by (with_reducible repeat (first | refine blk_drewN ?_ _ | refine blk_drew ?_ | refine blk_alloc ?_ _)); exact BK101.out)) : gb106 ≠ gb101)); have n9_ := Aside0.mk ((by rw [hg]; exact Nat.ne_of_lt (blk_lt (g := gb102) (o := .cells #[.int .u64 a1_0, .int .u64 a1_1, .int .u64 a1_2, .int .u64 a1_3, .slice (some ad105) l1_4.length c1_4, .slice A1_5 l1_5.length c1_5] 27 (0, 0)) (by (with_reducible repeat (first | refine blk_drewN ?_ _ | refine blk_drew ?_ | refine blk_alloc ?_ _)); exact BK102.out)) : gb102 ≠ gb106)); have n10_ := Aside0.mk ((by rw [hg]; exact Nat.ne_of_gt (blk_lt (g := gb102) (o := .cells #[.int .u64 a1_0, .int .u64 a1_1, .int .u64 a1_2, .int .u64 a1_3, .slice (some ad105) l1_4.length c1_4, .slice A1_5 l1_5.length c1_5] 27 (0, 0)) (by (with_reducible repeat (first | refine blk_drewN ?_ _ | refine blk_drew ?_ | refine blk_alloc ?_ _)); exact BK102.out)) : gb106 ≠ gb102)); have n11_ := Aside0.mk ((by rw [hg]; exact Nat.ne_of_lt (blk_lt (g := gb104) (o := .cells #[.int .u64 ((rd_T40 l0_5 x5_2).f0), .string ((rd_T40 l0_5 x5_2).f1), .int .u64 ((rd_T40 l0_5 x5_2).f2)] 40 (0, 0)) (by (with_reducible repeat (first | refine blk_drewN ?_ _ | refine blk_drew ?_ | refine blk_alloc ?_ _)); exact BK104.out)) : gb104 ≠ gb106)); have n12_ := Aside0.mk ((by rw [hg]; exact Nat.ne_of_gt (blk_lt (g := gb104) (o := .cells #[.int .u64 ((rd_T40 l0_5 x5_2).f0), .string ((rd_T40 l0_5 x5_2).f1), .int .u64 ((rd_T40 l0_5 x5_2).f2)] 40 (0, 0)) (by (with_reducible repeat (first | refine blk_drewN ?_ _ | refine blk_drew ?_ | refine blk_alloc ?_ _)); exact BK104.out)) : gb106 ≠ gb104)); clear BK101; clear BK102; clear BK104; clear HB; have BK101 := n0_; have BK102 := n1_; have BK104 := n2_; have HB := n3_; have BK106 := n4_; have GW106 := n5_; have GE106 := n6_; have NB101_106 := n7_; have NB106_101 := n8_; have NB102_106 := n9_; have NB106_102 := n10_; have NB104_106 := n11_; have NB106_104 := n12_; clear n0_ n1_ n2_ n3_ n4_ n5_ n6_ n7_ n8_ n9_ n10_ n11_ n12_; clear hb hbox hg; have hnb30 := NB106_101.out; have hnc30 := NB101_106.out; have hnb31 := NB106_102.out; have hnc31 := NB102_106.out; have hnb32 := NB106_104.out; have hnc32 := NB104_106.out; have hcz33_0 : w29.cell? ⟨gb106, 0, none⟩ = some (.int .u64 0) := (blk_cell BK106.out 0).trans rfl; have hcz33_1 : w29.cell? ⟨gb106, 1, none⟩ = some (.string (⟨#[]⟩ : ByteArray)) := (blk_cell BK106.out 1).trans rfl; have hcz33_2 : w29.cell? ⟨gb106, 2, none⟩ = some (.int .u64 0) := (blk_cell BK106.out 2).trans rfl; have hfz33_0 := blk_frozen BK106.out 0; have hfz33_1 := blk_frozen BK106.out 1; have hfz33_2 := blk_frozen BK106.out 2; have hnb34 := NB104_101.out; have hnc34 := NB101_104.out; have hcz35_0 : w29.cell? ⟨gb104, 0, none⟩ = some (.int .u64 ((rd_T40 l0_5 x5_2).f0)) := (blk_cell BK104.out 0).trans rfl; have hcz35_1 : w29.cell? ⟨gb104, 1, none⟩ = some (.string ((rd_T40 l0_5 x5_2).f1)) := (blk_cell BK104.out 1).trans rfl; have hcz35_2 : w29.cell? ⟨gb104, 2, none⟩ = some (.int .u64 ((rd_T40 l0_5 x5_2).f2)) := (blk_cell BK104.out 2).trans rfl; have hfz35_0 := blk_frozen BK104.out 0; have hfz35_1 := blk_frozen BK104.out 1; have hfz35_2 := blk_frozen BK104.out 2))
                              go_ret
                              exact ⟨by first | rfl | (simp [errW_none, errW_some] <;> rfl) | (simp [*, errW_none, errW_some] <;> rfl), by repeat (first | (with_reducible first | exact HB.out | apply below_alloc | apply pw_below_drewN | apply below_drew1 | refine below_set ?_ GE101.out | refine below_set ?_ GE102.out | refine below_set ?_ GE104.out | refine below_set ?_ GE106.out) | exact HB.out)⟩
                            · rw [if_neg c25] at H
                              have c25b0 : decide (((rd_T40 l0_5 x5_2).f2) ≤ ((rd_T40 l1_4 x7_3).f2)) = false := decide_eq_false c25
                              clear c25
                              have H' := Aside0.mk H
                              clear H
                              have hnb36 := NB102_101.out
                              have hnc36 := NB101_102.out
                              have hnb37 := NB102_104.out
                              have hnc37 := NB104_102.out
                              have hcz38_0 : wr.cell? ⟨gb102, 0, none⟩ = some (.int .u64 a1_0) := (blk_cell BK102.out 0).trans rfl
                              have hcz38_1 : wr.cell? ⟨gb102, 1, none⟩ = some (.int .u64 a1_1) := (blk_cell BK102.out 1).trans rfl
                              have hcz38_2 : wr.cell? ⟨gb102, 2, none⟩ = some (.int .u64 a1_2) := (blk_cell BK102.out 2).trans rfl
                              have hcz38_3 : wr.cell? ⟨gb102, 3, none⟩ = some (.int .u64 a1_3) := (blk_cell BK102.out 3).trans rfl
                              have hcz38_4 : wr.cell? ⟨gb102, 4, none⟩ = some (.slice A1_4 l1_4.length c1_4) := (blk_cell BK102.out 4).trans rfl
                              have hcz38_5 : wr.cell? ⟨gb102, 5, none⟩ = some (.slice A1_5 l1_5.length c1_5) := (blk_cell BK102.out 5).trans rfl
                              have hfz38_0 := blk_frozen BK102.out 0
                              have hfz38_1 := blk_frozen BK102.out 1
                              have hfz38_2 := blk_frozen BK102.out 2
                              have hfz38_3 := blk_frozen BK102.out 3
                              have hfz38_4 := blk_frozen BK102.out 4
                              have hfz38_5 := blk_frozen BK102.out 5
                              have p105 : 0 ≤ (x7_3 : Int) := of_decide_eq_true (by first | (with_reducible assumption) | assumption)
                              have q105 : x7_3 < (l1_4.length : Int) := of_decide_eq_true (by first | (with_reducible assumption) | assumption)
                              obtain ⟨ad105, e105, hx105_0, hx105_1, hx105_2⟩ := at_T40 HR1_4.out x7_3 p105 q105
                              cases e105
                              replace hx105_0 := (HB.out.cell (World.block_lt_of_cell? w _ hx105_0)).trans hx105_0
                              replace hx105_1 := (HB.out.cell (World.block_lt_of_cell? w _ hx105_1)).trans hx105_1
                              replace hx105_2 := (HB.out.cell (World.block_lt_of_cell? w _ hx105_2)).trans hx105_2
                              replace p105 := eq_true p105
                              replace q105 := eq_true q105
                              go_wp2_with (first | ((with_reducible refine gate_dst (N := 8) rfl ?_); refine box_event ?hg (N := 8) ?hd (cs := #[.int .u64 0, .string (⟨#[]⟩ : ByteArray), .int .u64 0]) (t := 40) ?hr ?_; (case hd => rfl); (case hg => rfl); (case hr => first | (go_simp; done) | (go_simp; rfl)); intro gb106 hg w39 hbox hb; have n0_ := Aside0.mk (blk_below (g := gb101) (o := .cells #[.int .u64 a0_0, .int .u64 a0_1, .int .u64 a0_2, .int .u64 a0_3, .slice A0_4 l0_4.length c0_4, .slice (some ad103) l0_5.length c0_5] 27 (0, 0)) (by (with_reducible repeat (first | refine blk_drewN ?_ _ | refine blk_drew ?_ | refine blk_alloc ?_ _)); exact BK101.out) hb); have n1_ := Aside0.mk (blk_below (g := gb102) (o := .cells #[.int .u64 a1_0, .int .u64 a1_1, .int .u64 a1_2, .int .u64 a1_3, .slice (some ad105) l1_4.length c1_4, .slice A1_5 l1_5.length c1_5] 27 (0, 0)) (by (with_reducible repeat (first | refine blk_drewN ?_ _ | refine blk_drew ?_ | refine blk_alloc ?_ _)); exact BK102.out) hb); have n2_ := Aside0.mk (blk_below (g := gb104) (o := .cells #[.int .u64 ((rd_T40 l0_5 x5_2).f0), .string ((rd_T40 l0_5 x5_2).f1), .int .u64 ((rd_T40 l0_5 x5_2).f2)] 40 (0, 0)) (by (with_reducible repeat (first | refine blk_drewN ?_ _ | refine blk_drew ?_ | refine blk_alloc ?_ _)); exact BK104.out) hb); have n3_ := Aside0.mk (below_step (by repeat (first | (with_reducible first | exact HB.out | apply below_alloc | apply pw_below_drewN | apply below_drew1 | refine below_set ?_ GE101.out | refine below_set ?_ GE102.out | refine below_set ?_ GE104.out) | exact HB.out)) hb); have n4_ := Aside0.mk (hbox); have n5_ := Aside0.mk ((by rw [hg]; exact (below_size (by repeat (first | (with_reducible first | exact HB.out | apply below_alloc | apply pw_below_drewN | apply below_drew1 | refine below_set ?_ GE101.out | refine below_set ?_ GE102.out | refine below_set ?_ GE104.out) | exact HB.out))) : w.heap.size ≤ gb106)); have n6_ := Aside0.mk ((by rw [hg]; exact (below_size (by repeat (first | (with_reducible first | exact HB.out | apply below_alloc | apply pw_below_drewN | apply below_drew1 | refine below_set ?_ GE101.out | refine below_set ?_ GE102.out | refine below_set ?_ GE104.out) | exact HB.out))) : w.heap.size ≤ gb106)); have n7_ := Aside0.mk ((by rw [hg]; exact Nat.ne_of_lt (blk_lt (g := gb101) (o := .cells #[.int .u64 a0_0, .int .u64 a0_1, .int .u64 a0_2, .int .u64 a0_3, .slice A0_4 l0_4.length c0_4, .slice (some ad103) l0_5.length c0_5] 27 (0, 0)) (by (with_reducible repeat (first | refine blk_drewN ?_ _ | refine blk_drew ?_ | refine blk_alloc ?_ _)); exact BK101.out)) : gb101 ≠ gb106)); have n8_ := Aside0.mk ((by rw [hg]; exact Nat.ne_of_gt (blk_lt (g := gb101) (o := .cells #[.int .u64 a0_0, .int .u64 a0_1, .int .u64 a0_2, .int .u64 a0_3, .slice A0_4 l0_4.length c0_4, .slice (some ad103) l0_5.length c0_5] 27 (0, 0)) (by (with_reducible repeat (first | refine blk_drewN ?_ _ | refine blk_drew ?_ | refine blk_alloc ?_ _)); exact BK101.out)) : gb106 ≠ gb101)); have n9_ := Aside0.mk ((by rw [hg]; exact Nat.ne_of_lt (blk_lt (g := gb102) (o := .cells #[.int .u64 a1_0, .int .u64 a1_1, .int .u64 a1_2, .int .u64 a1_3, .slice (some ad105) l1_4.length c1_4, .slice A1_5 l1_5.length c1_5] 27 (0, 0)) (by (with_reducible repeat (first | refine blk_drewN ?_ _ | refine blk_drew ?_ | refine blk_alloc ?_ _)); exact BK102.out)) : gb102 ≠ gb106)); have n10_ := Aside0.mk ((by rw [hg]; exact Nat.ne_of_gt (blk_lt (g := gb102) (o := .cells #[.int .u64 a1_0, .int .u64 a1_1, .int .u64 a1_2, .int .u64 a1_3, .slice (some ad105) l1_4.length c1_4, .slice A1_5 l1_5.length c1_5] 27 (0, 0)) (by (with_reducible repeat (first | refine blk_drewN ?_ _ | refine blk_drew ?_ | refine blk_alloc ?_ _)); exact BK102.out)) : gb106 ≠ gb102)); have n11_ := Aside0.mk ((by rw [hg]; exact Nat.ne_of_lt (blk_lt (g := gb104) (o := .cells #[.int .u64 ((rd_T40 l0_5 x5_2).f0), .string ((rd_T40 l0_5 x5_2).f1), .int .u64 ((rd_T40 l0_5 x5_2).f2)] 40 (0, 0)) (by (with_reducible repeat (first | refine blk_drewN ?_ _ | refine blk_drew ?_ | refine blk_alloc ?_ _)); exact BK104.out)) : gb104 ≠ gb106)); have n12_ := Aside0.mk ((by rw [hg]; exact Nat.ne_of_gt (blk_lt (g := gb104) (o := .cells #[.int .u64 ((rd_T40 l0_5 x5_2).f0), .string ((rd_T40 l0_5 x5_2).f1), .int .u64 ((rd_T40 l0_5 x5_2).f2)] 40 (0, 0)) (by (with_reducible repeat (first | refine blk_drewN ?_ _ | refine blk_drew ?_ | refine blk_alloc ?_ _)); exact BK104.out)) : gb106 ≠ gb104)); clear BK101; clear BK102; clear BK104; clear HB; have BK101 := n0_; have BK102 := n1_; have BK104 := n2_; have HB := n3_; have BK106 := n4_; have GW106 := n5_; have GE106 := n6_; have NB101_106 := n7_; have NB106_101 := n8_; have NB102_106 := n9_; have NB106_102 := n10_; have NB104_106 := n11_; have NB106_104 := n12_; clear n0_ n1_ n2_ n3_ n4_ n5_ n6_ n7_ n8_ n9_ n10_ n11_ n12_; clear hb hbox hg; have hnb40 := NB106_101.out; have hnc40 := NB101_106.out; have hnb41 := NB106_102.out; have hnc41 := NB102_106.out; have hnb42 := NB106_104.out; have hnc42 := NB104_106.out; have hcz43_0 : w39.cell? ⟨gb106, 0, none⟩ = some (.int .u64 0) := (blk_cell BK106.out 0).trans rfl; have hcz43_1 : w39.cell? ⟨gb106, 1, none⟩ = some (.string (⟨#[]⟩ : ByteArray)) := (blk_cell BK106.out 1).trans rfl; have hcz43_2 : w39.cell? ⟨gb106, 2, none⟩ = some (.int .u64 0) := (blk_cell BK106.out 2).trans rfl; have hfz43_0 := blk_frozen BK106.out 0; have hfz43_1 := blk_frozen BK106.out 1; have hfz43_2 := blk_frozen BK106.out 2; have hnb44 := NB104_101.out; have hnc44 := NB101_104.out; have hcz45_0 : w39.cell? ⟨gb104, 0, none⟩ = some (.int .u64 ((rd_T40 l0_5 x5_2).f0)) := (blk_cell BK104.out 0).trans rfl; have hcz45_1 : w39.cell? ⟨gb104, 1, none⟩ = some (.string ((rd_T40 l0_5 x5_2).f1)) := (blk_cell BK104.out 1).trans rfl; have hcz45_2 : w39.cell? ⟨gb104, 2, none⟩ = some (.int .u64 ((rd_T40 l0_5 x5_2).f2)) := (blk_cell BK104.out 2).trans rfl; have hfz45_0 := blk_frozen BK104.out 0; have hfz45_1 := blk_frozen BK104.out 1; have hfz45_2 := blk_frozen BK104.out 2))
                              go_roundg k3
                              case measure => have := HJ2.out; have := HK2.out; have := HK3.out; omega
                              case rel => exact ⟨(wrap64 (x7_3 + 1)), (by first | rfl | (simp; done) | (simp [*]; done)), H', ⟨by have := HJ2.out; have := HK2.out; have := HK3.out; omega⟩, ⟨by (with_reducible repeat (first | refine blk_drewN ?_ _ | refine blk_drew ?_ | refine blk_alloc ?_ _)); refine blk_far ?_ NB101_106.out _; (with_reducible repeat (first | refine blk_drewN ?_ _ | refine blk_drew ?_ | refine blk_alloc ?_ _)); refine blk_far ?_ NB101_106.out _; (with_reducible repeat (first | refine blk_drewN ?_ _ | refine blk_drew ?_ | refine blk_alloc ?_ _)); refine blk_far ?_ NB101_106.out _; (with_reducible repeat (first | refine blk_drewN ?_ _ | refine blk_drew ?_ | refine blk_alloc ?_ _)); exact BK101.out⟩, ⟨by (with_reducible repeat (first | refine blk_drewN ?_ _ | refine blk_drew ?_ | refine blk_alloc ?_ _)); refine blk_far ?_ NB102_106.out _; (with_reducible repeat (first | refine blk_drewN ?_ _ | refine blk_drew ?_ | refine blk_alloc ?_ _)); refine blk_far ?_ NB102_106.out _; (with_reducible repeat (first | refine blk_drewN ?_ _ | refine blk_drew ?_ | refine blk_alloc ?_ _)); refine blk_far ?_ NB102_106.out _; (with_reducible repeat (first | refine blk_drewN ?_ _ | refine blk_drew ?_ | refine blk_alloc ?_ _)); exact BK102.out⟩, ⟨by (with_reducible repeat (first | refine blk_drewN ?_ _ | refine blk_drew ?_ | refine blk_alloc ?_ _)); refine blk_far ?_ NB104_106.out _; (with_reducible repeat (first | refine blk_drewN ?_ _ | refine blk_drew ?_ | refine blk_alloc ?_ _)); refine blk_far ?_ NB104_106.out _; (with_reducible repeat (first | refine blk_drewN ?_ _ | refine blk_drew ?_ | refine blk_alloc ?_ _)); refine blk_far ?_ NB104_106.out _; (with_reducible repeat (first | refine blk_drewN ?_ _ | refine blk_drew ?_ | refine blk_alloc ?_ _)); exact BK104.out⟩, ⟨by repeat (first | (with_reducible first | exact HB.out | apply below_alloc | apply pw_below_drewN | apply below_drew1 | refine below_set ?_ GE101.out | refine below_set ?_ GE102.out | refine below_set ?_ GE104.out | refine below_set ?_ GE106.out) | exact HB.out)⟩⟩
                          · rw [if_neg c24] at H
                            have c24b0 : (((rd_T40 l0_5 x5_2).f1).toList == ((rd_T40 l1_4 x7_3).f1).toList) = false := beq_eq_false_iff_ne.mpr c24
                            have c24b1 : (((rd_T40 l0_5 x5_2).f1).toList != ((rd_T40 l1_4 x7_3).f1).toList) = true := bne_iff_ne.mpr c24
                            have H' := Aside0.mk H
                            clear H
                            have hnb46 := NB102_101.out
                            have hnc46 := NB101_102.out
                            have hnb47 := NB102_104.out
                            have hnc47 := NB104_102.out
                            have hcz48_0 : wr.cell? ⟨gb102, 0, none⟩ = some (.int .u64 a1_0) := (blk_cell BK102.out 0).trans rfl
                            have hcz48_1 : wr.cell? ⟨gb102, 1, none⟩ = some (.int .u64 a1_1) := (blk_cell BK102.out 1).trans rfl
                            have hcz48_2 : wr.cell? ⟨gb102, 2, none⟩ = some (.int .u64 a1_2) := (blk_cell BK102.out 2).trans rfl
                            have hcz48_3 : wr.cell? ⟨gb102, 3, none⟩ = some (.int .u64 a1_3) := (blk_cell BK102.out 3).trans rfl
                            have hcz48_4 : wr.cell? ⟨gb102, 4, none⟩ = some (.slice A1_4 l1_4.length c1_4) := (blk_cell BK102.out 4).trans rfl
                            have hcz48_5 : wr.cell? ⟨gb102, 5, none⟩ = some (.slice A1_5 l1_5.length c1_5) := (blk_cell BK102.out 5).trans rfl
                            have hfz48_0 := blk_frozen BK102.out 0
                            have hfz48_1 := blk_frozen BK102.out 1
                            have hfz48_2 := blk_frozen BK102.out 2
                            have hfz48_3 := blk_frozen BK102.out 3
                            have hfz48_4 := blk_frozen BK102.out 4
                            have hfz48_5 := blk_frozen BK102.out 5
                            have p105 : 0 ≤ (x7_3 : Int) := of_decide_eq_true (by first | (with_reducible assumption) | assumption)
                            have q105 : x7_3 < (l1_4.length : Int) := of_decide_eq_true (by first | (with_reducible assumption) | assumption)
                            obtain ⟨ad105, e105, hx105_0, hx105_1, hx105_2⟩ := at_T40 HR1_4.out x7_3 p105 q105
                            cases e105
                            replace hx105_0 := (HB.out.cell (World.block_lt_of_cell? w _ hx105_0)).trans hx105_0
                            replace hx105_1 := (HB.out.cell (World.block_lt_of_cell? w _ hx105_1)).trans hx105_1
                            replace hx105_2 := (HB.out.cell (World.block_lt_of_cell? w _ hx105_2)).trans hx105_2
                            replace p105 := eq_true p105
                            replace q105 := eq_true q105
                            go_wp2_with (first | ((with_reducible refine gate_dst (N := 8) rfl ?_); refine box_event ?hg (N := 8) ?hd (cs := #[.int .u64 0, .string (⟨#[]⟩ : ByteArray), .int .u64 0]) (t := 40) ?hr ?_; (case hd => rfl); (case hg => rfl); (case hr => first | (go_simp; done) | (go_simp; rfl)); intro gb106 hg w49 hbox hb; have n0_ := Aside0.mk (blk_below (g := gb101) (o := .cells #[.int .u64 a0_0, .int .u64 a0_1, .int .u64 a0_2, .int .u64 a0_3, .slice A0_4 l0_4.length c0_4, .slice (some ad103) l0_5.length c0_5] 27 (0, 0)) (by (with_reducible repeat (first | refine blk_drewN ?_ _ | refine blk_drew ?_ | refine blk_alloc ?_ _)); exact BK101.out) hb); have n1_ := Aside0.mk (blk_below (g := gb102) (o := .cells #[.int .u64 a1_0, .int .u64 a1_1, .int .u64 a1_2, .int .u64 a1_3, .slice (some ad105) l1_4.length c1_4, .slice A1_5 l1_5.length c1_5] 27 (0, 0)) (by (with_reducible repeat (first | refine blk_drewN ?_ _ | refine blk_drew ?_ | refine blk_alloc ?_ _)); exact BK102.out) hb); have n2_ := Aside0.mk (blk_below (g := gb104) (o := .cells #[.int .u64 ((rd_T40 l0_5 x5_2).f0), .string ((rd_T40 l0_5 x5_2).f1), .int .u64 ((rd_T40 l0_5 x5_2).f2)] 40 (0, 0)) (by (with_reducible repeat (first | refine blk_drewN ?_ _ | refine blk_drew ?_ | refine blk_alloc ?_ _)); exact BK104.out) hb); have n3_ := Aside0.mk (below_step (by repeat (first | (with_reducible first | exact HB.out | apply below_alloc | apply pw_below_drewN | apply below_drew1 | refine below_set ?_ GE101.out | refine below_set ?_ GE102.out | refine below_set ?_ GE104.out) | exact HB.out)) hb); have n4_ := Aside0.mk (hbox); have n5_ := Aside0.mk ((by rw [hg]; exact (below_size (by repeat (first | (with_reducible first | exact HB.out | apply below_alloc | apply pw_below_drewN | apply below_drew1 | refine below_set ?_ GE101.out | refine below_set ?_ GE102.out | refine below_set ?_ GE104.out) | exact HB.out))) : w.heap.size ≤ gb106)); have n6_ := Aside0.mk ((by rw [hg]; exact (below_size (by repeat (first | (with_reducible first | exact HB.out | apply below_alloc | apply pw_below_drewN | apply below_drew1 | refine below_set ?_ GE101.out | refine below_set ?_ GE102.out | refine below_set ?_ GE104.out) | exact HB.out))) : w.heap.size ≤ gb106)); have n7_ := Aside0.mk ((by rw [hg]; exact Nat.ne_of_lt (blk_lt (g := gb101) (o := .cells #[.int .u64 a0_0, .int .u64 a0_1, .int .u64 a0_2, .int .u64 a0_3, .slice A0_4 l0_4.length c0_4, .slice (some ad103) l0_5.length c0_5] 27 (0, 0)) (by (with_reducible repeat (first | refine blk_drewN ?_ _ | refine blk_drew ?_ | refine blk_alloc ?_ _)); exact BK101.out)) : gb101 ≠ gb106)); have n8_ := Aside0.mk ((by rw [hg]; exact Nat.ne_of_gt (blk_lt (g := gb101) (o := .cells #[.int .u64 a0_0, .int .u64 a0_1, .int .u64 a0_2, .int .u64 a0_3, .slice A0_4 l0_4.length c0_4, .slice (some ad103) l0_5.length c0_5] 27 (0, 0)) (by (with_reducible repeat (first | refine blk_drewN ?_ _ | refine blk_drew ?_ | refine blk_alloc ?_ _)); exact BK101.out)) : gb106 ≠ gb101)); have n9_ := Aside0.mk ((by rw [hg]; exact Nat.ne_of_lt (blk_lt (g := gb102) (o := .cells #[.int .u64 a1_0, .int .u64 a1_1, .int .u64 a1_2, .int .u64 a1_3, .slice (some ad105) l1_4.length c1_4, .slice A1_5 l1_5.length c1_5] 27 (0, 0)) (by (with_reducible repeat (first | refine blk_drewN ?_ _ | refine blk_drew ?_ | refine blk_alloc ?_ _)); exact BK102.out)) : gb102 ≠ gb106)); have n10_ := Aside0.mk ((by rw [hg]; exact Nat.ne_of_gt (blk_lt (g := gb102) (o := .cells #[.int .u64 a1_0, .int .u64 a1_1, .int .u64 a1_2, .int .u64 a1_3, .slice (some ad105) l1_4.length c1_4, .slice A1_5 l1_5.length c1_5] 27 (0, 0)) (by (with_reducible repeat (first | refine blk_drewN ?_ _ | refine blk_drew ?_ | refine blk_alloc ?_ _)); exact BK102.out)) : gb106 ≠ gb102)); have n11_ := Aside0.mk ((by rw [hg]; exact Nat.ne_of_lt (blk_lt (g := gb104) (o := .cells #[.int .u64 ((rd_T40 l0_5 x5_2).f0), .string ((rd_T40 l0_5 x5_2).f1), .int .u64 ((rd_T40 l0_5 x5_2).f2)] 40 (0, 0)) (by (with_reducible repeat (first | refine blk_drewN ?_ _ | refine blk_drew ?_ | refine blk_alloc ?_ _)); exact BK104.out)) : gb104 ≠ gb106)); have n12_ := Aside0.mk ((by rw [hg]; exact Nat.ne_of_gt (blk_lt (g := gb104) (o := .cells #[.int .u64 ((rd_T40 l0_5 x5_2).f0), .string ((rd_T40 l0_5 x5_2).f1), .int .u64 ((rd_T40 l0_5 x5_2).f2)] 40 (0, 0)) (by (with_reducible repeat (first | refine blk_drewN ?_ _ | refine blk_drew ?_ | refine blk_alloc ?_ _)); exact BK104.out)) : gb106 ≠ gb104)); clear BK101; clear BK102; clear BK104; clear HB; have BK101 := n0_; have BK102 := n1_; have BK104 := n2_; have HB := n3_; have BK106 := n4_; have GW106 := n5_; have GE106 := n6_; have NB101_106 := n7_; have NB106_101 := n8_; have NB102_106 := n9_; have NB106_102 := n10_; have NB104_106 := n11_; have NB106_104 := n12_; clear n0_ n1_ n2_ n3_ n4_ n5_ n6_ n7_ n8_ n9_ n10_ n11_ n12_; clear hb hbox hg; have hnb50 := NB106_101.out; have hnc50 := NB101_106.out; have hnb51 := NB106_102.out; have hnc51 := NB102_106.out; have hnb52 := NB106_104.out; have hnc52 := NB104_106.out; have hcz53_0 : w49.cell? ⟨gb106, 0, none⟩ = some (.int .u64 0) := (blk_cell BK106.out 0).trans rfl; have hcz53_1 : w49.cell? ⟨gb106, 1, none⟩ = some (.string (⟨#[]⟩ : ByteArray)) := (blk_cell BK106.out 1).trans rfl; have hcz53_2 : w49.cell? ⟨gb106, 2, none⟩ = some (.int .u64 0) := (blk_cell BK106.out 2).trans rfl; have hfz53_0 := blk_frozen BK106.out 0; have hfz53_1 := blk_frozen BK106.out 1; have hfz53_2 := blk_frozen BK106.out 2; have hnb54 := NB104_101.out; have hnc54 := NB101_104.out; have hcz55_0 : w49.cell? ⟨gb104, 0, none⟩ = some (.int .u64 ((rd_T40 l0_5 x5_2).f0)) := (blk_cell BK104.out 0).trans rfl; have hcz55_1 : w49.cell? ⟨gb104, 1, none⟩ = some (.string ((rd_T40 l0_5 x5_2).f1)) := (blk_cell BK104.out 1).trans rfl; have hcz55_2 : w49.cell? ⟨gb104, 2, none⟩ = some (.int .u64 ((rd_T40 l0_5 x5_2).f2)) := (blk_cell BK104.out 2).trans rfl; have hfz55_0 := blk_frozen BK104.out 0; have hfz55_1 := blk_frozen BK104.out 1; have hfz55_2 := blk_frozen BK104.out 2))
                            go_roundg k3
                            case measure => have := HJ2.out; have := HK2.out; have := HK3.out; omega
                            case rel => exact ⟨(wrap64 (x7_3 + 1)), (by first | rfl | (simp; done) | (simp [*]; done)), H', ⟨by have := HJ2.out; have := HK2.out; have := HK3.out; omega⟩, ⟨by (with_reducible repeat (first | refine blk_drewN ?_ _ | refine blk_drew ?_ | refine blk_alloc ?_ _)); refine blk_far ?_ NB101_106.out _; (with_reducible repeat (first | refine blk_drewN ?_ _ | refine blk_drew ?_ | refine blk_alloc ?_ _)); refine blk_far ?_ NB101_106.out _; (with_reducible repeat (first | refine blk_drewN ?_ _ | refine blk_drew ?_ | refine blk_alloc ?_ _)); refine blk_far ?_ NB101_106.out _; (with_reducible repeat (first | refine blk_drewN ?_ _ | refine blk_drew ?_ | refine blk_alloc ?_ _)); exact BK101.out⟩, ⟨by (with_reducible repeat (first | refine blk_drewN ?_ _ | refine blk_drew ?_ | refine blk_alloc ?_ _)); refine blk_far ?_ NB102_106.out _; (with_reducible repeat (first | refine blk_drewN ?_ _ | refine blk_drew ?_ | refine blk_alloc ?_ _)); refine blk_far ?_ NB102_106.out _; (with_reducible repeat (first | refine blk_drewN ?_ _ | refine blk_drew ?_ | refine blk_alloc ?_ _)); refine blk_far ?_ NB102_106.out _; (with_reducible repeat (first | refine blk_drewN ?_ _ | refine blk_drew ?_ | refine blk_alloc ?_ _)); exact BK102.out⟩, ⟨by (with_reducible repeat (first | refine blk_drewN ?_ _ | refine blk_drew ?_ | refine blk_alloc ?_ _)); refine blk_far ?_ NB104_106.out _; (with_reducible repeat (first | refine blk_drewN ?_ _ | refine blk_drew ?_ | refine blk_alloc ?_ _)); refine blk_far ?_ NB104_106.out _; (with_reducible repeat (first | refine blk_drewN ?_ _ | refine blk_drew ?_ | refine blk_alloc ?_ _)); refine blk_far ?_ NB104_106.out _; (with_reducible repeat (first | refine blk_drewN ?_ _ | refine blk_drew ?_ | refine blk_alloc ?_ _)); exact BK104.out⟩, ⟨by repeat (first | (with_reducible first | exact HB.out | apply below_alloc | apply pw_below_drewN | apply below_drew1 | refine below_set ?_ GE101.out | refine below_set ?_ GE102.out | refine below_set ?_ GE104.out | refine below_set ?_ GE106.out) | exact HB.out)⟩⟩
                        · rw [if_neg c23] at H
                          have c23b0 : (((rd_T40 l0_5 x5_2).f0) == ((rd_T40 l1_4 x7_3).f0)) = false := beq_eq_false_iff_ne.mpr c23
                          have c23b1 : (((rd_T40 l0_5 x5_2).f0) != ((rd_T40 l1_4 x7_3).f0)) = true := bne_iff_ne.mpr c23
                          have H' := Aside0.mk H
                          clear H
                          have hnb56 := NB102_101.out
                          have hnc56 := NB101_102.out
                          have hnb57 := NB102_104.out
                          have hnc57 := NB104_102.out
                          have hcz58_0 : wr.cell? ⟨gb102, 0, none⟩ = some (.int .u64 a1_0) := (blk_cell BK102.out 0).trans rfl
                          have hcz58_1 : wr.cell? ⟨gb102, 1, none⟩ = some (.int .u64 a1_1) := (blk_cell BK102.out 1).trans rfl
                          have hcz58_2 : wr.cell? ⟨gb102, 2, none⟩ = some (.int .u64 a1_2) := (blk_cell BK102.out 2).trans rfl
                          have hcz58_3 : wr.cell? ⟨gb102, 3, none⟩ = some (.int .u64 a1_3) := (blk_cell BK102.out 3).trans rfl
                          have hcz58_4 : wr.cell? ⟨gb102, 4, none⟩ = some (.slice A1_4 l1_4.length c1_4) := (blk_cell BK102.out 4).trans rfl
                          have hcz58_5 : wr.cell? ⟨gb102, 5, none⟩ = some (.slice A1_5 l1_5.length c1_5) := (blk_cell BK102.out 5).trans rfl
                          have hfz58_0 := blk_frozen BK102.out 0
                          have hfz58_1 := blk_frozen BK102.out 1
                          have hfz58_2 := blk_frozen BK102.out 2
                          have hfz58_3 := blk_frozen BK102.out 3
                          have hfz58_4 := blk_frozen BK102.out 4
                          have hfz58_5 := blk_frozen BK102.out 5
                          have p105 : 0 ≤ (x7_3 : Int) := of_decide_eq_true (by first | (with_reducible assumption) | assumption)
                          have q105 : x7_3 < (l1_4.length : Int) := of_decide_eq_true (by first | (with_reducible assumption) | assumption)
                          obtain ⟨ad105, e105, hx105_0, hx105_1, hx105_2⟩ := at_T40 HR1_4.out x7_3 p105 q105
                          cases e105
                          replace hx105_0 := (HB.out.cell (World.block_lt_of_cell? w _ hx105_0)).trans hx105_0
                          replace hx105_1 := (HB.out.cell (World.block_lt_of_cell? w _ hx105_1)).trans hx105_1
                          replace hx105_2 := (HB.out.cell (World.block_lt_of_cell? w _ hx105_2)).trans hx105_2
                          replace p105 := eq_true p105
                          replace q105 := eq_true q105
                          go_wp2_with (first | ((with_reducible refine gate_dst (N := 8) rfl ?_); refine box_event ?hg (N := 8) ?hd (cs := #[.int .u64 0, .string (⟨#[]⟩ : ByteArray), .int .u64 0]) (t := 40) ?hr ?_; (case hd => rfl); (case hg => rfl); (case hr => first | (go_simp; done) | (go_simp; rfl)); intro gb106 hg w59 hbox hb; have n0_ := Aside0.mk (blk_below (g := gb101) (o := .cells #[.int .u64 a0_0, .int .u64 a0_1, .int .u64 a0_2, .int .u64 a0_3, .slice A0_4 l0_4.length c0_4, .slice (some ad103) l0_5.length c0_5] 27 (0, 0)) (by (with_reducible repeat (first | refine blk_drewN ?_ _ | refine blk_drew ?_ | refine blk_alloc ?_ _)); exact BK101.out) hb); have n1_ := Aside0.mk (blk_below (g := gb102) (o := .cells #[.int .u64 a1_0, .int .u64 a1_1, .int .u64 a1_2, .int .u64 a1_3, .slice (some ad105) l1_4.length c1_4, .slice A1_5 l1_5.length c1_5] 27 (0, 0)) (by (with_reducible repeat (first | refine blk_drewN ?_ _ | refine blk_drew ?_ | refine blk_alloc ?_ _)); exact BK102.out) hb); have n2_ := Aside0.mk (blk_below (g := gb104) (o := .cells #[.int .u64 ((rd_T40 l0_5 x5_2).f0), .string ((rd_T40 l0_5 x5_2).f1), .int .u64 ((rd_T40 l0_5 x5_2).f2)] 40 (0, 0)) (by (with_reducible repeat (first | refine blk_drewN ?_ _ | refine blk_drew ?_ | refine blk_alloc ?_ _)); exact BK104.out) hb); have n3_ := Aside0.mk (below_step (by repeat (first | (with_reducible first | exact HB.out | apply below_alloc | apply pw_below_drewN | apply below_drew1 | refine below_set ?_ GE101.out | refine below_set ?_ GE102.out | refine below_set ?_ GE104.out) | exact HB.out)) hb); have n4_ := Aside0.mk (hbox); have n5_ := Aside0.mk ((by rw [hg]; exact (below_size (by repeat (first | (with_reducible first | exact HB.out | apply below_alloc | apply pw_below_drewN | apply below_drew1 | refine below_set ?_ GE101.out | refine below_set ?_ GE102.out | refine below_set ?_ GE104.out) | exact HB.out))) : w.heap.size ≤ gb106)); have n6_ := Aside0.mk ((by rw [hg]; exact (below_size (by repeat (first | (with_reducible first | exact HB.out | apply below_alloc | apply pw_below_drewN | apply below_drew1 | refine below_set ?_ GE101.out | refine below_set ?_ GE102.out | refine below_set ?_ GE104.out) | exact HB.out))) : w.heap.size ≤ gb106)); have n7_ := Aside0.mk ((by rw [hg]; exact Nat.ne_of_lt (blk_lt (g := gb101) (o := .cells #[.int .u64 a0_0, .int .u64 a0_1, .int .u64 a0_2, .int .u64 a0_3, .slice A0_4 l0_4.length c0_4, .slice (some ad103) l0_5.length c0_5] 27 (0, 0)) (by (with_reducible repeat (first | refine blk_drewN ?_ _ | refine blk_drew ?_ | refine blk_alloc ?_ _)); exact BK101.out)) : gb101 ≠ gb106)); have n8_ := Aside0.mk ((by rw [hg]; exact Nat.ne_of_gt (blk_lt (g := gb101) (o := .cells #[.int .u64 a0_0, .int .u64 a0_1, .int .u64 a0_2, .int .u64 a0_3, .slice A0_4 l0_4.length c0_4, .slice (some ad103) l0_5.length c0_5] 27 (0, 0)) (by (with_reducible repeat (first | refine blk_drewN ?_ _ | refine blk_drew ?_ | refine blk_alloc ?_ _)); exact BK101.out)) : gb106 ≠ gb101)); have n9_ := Aside0.mk ((by rw [hg]; exact Nat.ne_of_lt (blk_lt (g := gb102) (o := .cells #[.int .u64 a1_0, .int .u64 a1_1, .int .u64 a1_2, .int .u64 a1_3, .slice (some ad105) l1_4.length c1_4, .slice A1_5 l1_5.length c1_5] 27 (0, 0)) (by (with_reducible repeat (first | refine blk_drewN ?_ _ | refine blk_drew ?_ | refine blk_alloc ?_ _)); exact BK102.out)) : gb102 ≠ gb106)); have n10_ := Aside0.mk ((by rw [hg]; exact Nat.ne_of_gt (blk_lt (g := gb102) (o := .cells #[.int .u64 a1_0, .int .u64 a1_1, .int .u64 a1_2, .int .u64 a1_3, .slice (some ad105) l1_4.length c1_4, .slice A1_5 l1_5.length c1_5] 27 (0, 0)) (by (with_reducible repeat (first | refine blk_drewN ?_ _ | refine blk_drew ?_ | refine blk_alloc ?_ _)); exact BK102.out)) : gb106 ≠ gb102)); have n11_ := Aside0.mk ((by rw [hg]; exact Nat.ne_of_lt (blk_lt (g := gb104) (o := .cells #[.int .u64 ((rd_T40 l0_5 x5_2).f0), .string ((rd_T40 l0_5 x5_2).f1), .int .u64 ((rd_T40 l0_5 x5_2).f2)] 40 (0, 0)) (by (with_reducible repeat (first | refine blk_drewN ?_ _ | refine blk_drew ?_ | refine blk_alloc ?_ _)); exact BK104.out)) : gb104 ≠ gb106)); have n12_ := Aside0.mk ((by rw [hg]; exact Nat.ne_of_gt (blk_lt (g := gb104) (o := .cells #[.int .u64 ((rd_T40 l0_5 x5_2).f0), .string ((rd_T40 l0_5 x5_2).f1), .int .u64 ((rd_T40 l0_5 x5_2).f2)] 40 (0, 0)) (by (with_reducible repeat (first | refine blk_drewN ?_ _ | refine blk_drew ?_ | refine blk_alloc ?_ _)); exact BK104.out)) : gb106 ≠ gb104)); clear BK101; clear BK102; clear BK104; clear HB; have BK101 := n0_; have BK102 := n1_; have BK104 := n2_; have HB := n3_; have BK106 := n4_; have GW106 := n5_; have GE106 := n6_; have NB101_106 := n7_; have NB106_101 := n8_; have NB102_106 := n9_; have NB106_102 := n10_; have NB104_106 := n11_; have NB106_104 := n12_; clear n0_ n1_ n2_ n3_ n4_ n5_ n6_ n7_ n8_ n9_ n10_ n11_ n12_; clear hb hbox hg; have hnb60 := NB106_101.out; have hnc60 := NB101_106.out; have hnb61 := NB106_102.out; have hnc61 := NB102_106.out; have hnb62 := NB106_104.out; have hnc62 := NB104_106.out; have hcz63_0 : w59.cell? ⟨gb106, 0, none⟩ = some (.int .u64 0) := (blk_cell BK106.out 0).trans rfl; have hcz63_1 : w59.cell? ⟨gb106, 1, none⟩ = some (.string (⟨#[]⟩ : ByteArray)) := (blk_cell BK106.out 1).trans rfl; have hcz63_2 : w59.cell? ⟨gb106, 2, none⟩ = some (.int .u64 0) := (blk_cell BK106.out 2).trans rfl; have hfz63_0 := blk_frozen BK106.out 0; have hfz63_1 := blk_frozen BK106.out 1; have hfz63_2 := blk_frozen BK106.out 2; have hnb64 := NB104_101.out; have hnc64 := NB101_104.out; have hcz65_0 : w59.cell? ⟨gb104, 0, none⟩ = some (.int .u64 ((rd_T40 l0_5 x5_2).f0)) := (blk_cell BK104.out 0).trans rfl; have hcz65_1 : w59.cell? ⟨gb104, 1, none⟩ = some (.string ((rd_T40 l0_5 x5_2).f1)) := (blk_cell BK104.out 1).trans rfl; have hcz65_2 : w59.cell? ⟨gb104, 2, none⟩ = some (.int .u64 ((rd_T40 l0_5 x5_2).f2)) := (blk_cell BK104.out 2).trans rfl; have hfz65_0 := blk_frozen BK104.out 0; have hfz65_1 := blk_frozen BK104.out 1; have hfz65_2 := blk_frozen BK104.out 2))
                          go_roundg k3
                          case measure => have := HJ2.out; have := HK2.out; have := HK3.out; omega
                          case rel => exact ⟨(wrap64 (x7_3 + 1)), (by first | rfl | (simp; done) | (simp [*]; done)), H', ⟨by have := HJ2.out; have := HK2.out; have := HK3.out; omega⟩, ⟨by (with_reducible repeat (first | refine blk_drewN ?_ _ | refine blk_drew ?_ | refine blk_alloc ?_ _)); refine blk_far ?_ NB101_106.out _; (with_reducible repeat (first | refine blk_drewN ?_ _ | refine blk_drew ?_ | refine blk_alloc ?_ _)); refine blk_far ?_ NB101_106.out _; (with_reducible repeat (first | refine blk_drewN ?_ _ | refine blk_drew ?_ | refine blk_alloc ?_ _)); refine blk_far ?_ NB101_106.out _; (with_reducible repeat (first | refine blk_drewN ?_ _ | refine blk_drew ?_ | refine blk_alloc ?_ _)); exact BK101.out⟩, ⟨by (with_reducible repeat (first | refine blk_drewN ?_ _ | refine blk_drew ?_ | refine blk_alloc ?_ _)); refine blk_far ?_ NB102_106.out _; (with_reducible repeat (first | refine blk_drewN ?_ _ | refine blk_drew ?_ | refine blk_alloc ?_ _)); refine blk_far ?_ NB102_106.out _; (with_reducible repeat (first | refine blk_drewN ?_ _ | refine blk_drew ?_ | refine blk_alloc ?_ _)); refine blk_far ?_ NB102_106.out _; (with_reducible repeat (first | refine blk_drewN ?_ _ | refine blk_drew ?_ | refine blk_alloc ?_ _)); exact BK102.out⟩, ⟨by (with_reducible repeat (first | refine blk_drewN ?_ _ | refine blk_drew ?_ | refine blk_alloc ?_ _)); refine blk_far ?_ NB104_106.out _; (with_reducible repeat (first | refine blk_drewN ?_ _ | refine blk_drew ?_ | refine blk_alloc ?_ _)); refine blk_far ?_ NB104_106.out _; (with_reducible repeat (first | refine blk_drewN ?_ _ | refine blk_drew ?_ | refine blk_alloc ?_ _)); refine blk_far ?_ NB104_106.out _; (with_reducible repeat (first | refine blk_drewN ?_ _ | refine blk_drew ?_ | refine blk_alloc ?_ _)); exact BK104.out⟩, ⟨by repeat (first | (with_reducible first | exact HB.out | apply below_alloc | apply pw_below_drewN | apply below_drew1 | refine below_set ?_ GE101.out | refine below_set ?_ GE102.out | refine below_set ?_ GE104.out | refine below_set ?_ GE106.out) | exact HB.out)⟩⟩
                      · rw [if_neg c22] at H
                        exact absurd H (by simp)
                    · rw [if_neg c21] at H
                      have c21b0 : decide (x7_3 < (l1_4.length : Int)) = false := decide_eq_false c21
                      clear c21
                      have H' := Aside0.mk H
                      clear H
                      have hnb66 := NB102_101.out
                      have hnc66 := NB101_102.out
                      have hnb67 := NB102_104.out
                      have hnc67 := NB104_102.out
                      have hcz68_0 : wr.cell? ⟨gb102, 0, none⟩ = some (.int .u64 a1_0) := (blk_cell BK102.out 0).trans rfl
                      have hcz68_1 : wr.cell? ⟨gb102, 1, none⟩ = some (.int .u64 a1_1) := (blk_cell BK102.out 1).trans rfl
                      have hcz68_2 : wr.cell? ⟨gb102, 2, none⟩ = some (.int .u64 a1_2) := (blk_cell BK102.out 2).trans rfl
                      have hcz68_3 : wr.cell? ⟨gb102, 3, none⟩ = some (.int .u64 a1_3) := (blk_cell BK102.out 3).trans rfl
                      have hcz68_4 : wr.cell? ⟨gb102, 4, none⟩ = some (.slice A1_4 l1_4.length c1_4) := (blk_cell BK102.out 4).trans rfl
                      have hcz68_5 : wr.cell? ⟨gb102, 5, none⟩ = some (.slice A1_5 l1_5.length c1_5) := (blk_cell BK102.out 5).trans rfl
                      have hfz68_0 := blk_frozen BK102.out 0
                      have hfz68_1 := blk_frozen BK102.out 1
                      have hfz68_2 := blk_frozen BK102.out 2
                      have hfz68_3 := blk_frozen BK102.out 3
                      have hfz68_4 := blk_frozen BK102.out 4
                      have hfz68_5 := blk_frozen BK102.out 5
                      go_wp2
                      go_loopg [9] k3 (fun kq v9 w' => ∃ (x9_4 : Int), v9 = .int .i64 x9_4 ∧ Aside0 (ferruleref21_Ahead.l2 kq x5_2 x9_4 a0_0 a0_1 a0_2 a0_3 l0_4 l0_5 a1_0 a1_1 a1_2 a1_3 l1_4 l1_5 ((rd_T40 l0_5 x5_2).f0) ((rd_T40 l0_5 x5_2).f1) ((rd_T40 l0_5 x5_2).f2) = some r) ∧ Aside0 (kq ≤ k3) ∧ Aside0 (w'.heap[gb101]? = some (.cells #[.int .u64 a0_0, .int .u64 a0_1, .int .u64 a0_2, .int .u64 a0_3, (.slice A0_4 l0_4.length c0_4), (.slice (some ad103) l0_5.length c0_5)] 27 (0, 0))) ∧ Aside0 (w'.heap[gb102]? = some (.cells #[.int .u64 a1_0, .int .u64 a1_1, .int .u64 a1_2, .int .u64 a1_3, (.slice A1_4 l1_4.length c1_4), (.slice A1_5 l1_5.length c1_5)] 27 (0, 0))) ∧ Aside0 (w'.heap[gb104]? = some (.cells #[.int .u64 ((rd_T40 l0_5 x5_2).f0), .string ((rd_T40 l0_5 x5_2).f1), .int .u64 ((rd_T40 l0_5 x5_2).f2)] 40 (0, 0))) ∧ Aside0 (Below w.heap.size w w'))
                      case atStart => exact ⟨(0), (by first | rfl | (simp; done) | (simp [*]; done)), H', ⟨Nat.le_refl _⟩, ⟨by (with_reducible repeat (first | refine blk_drewN ?_ _ | refine blk_drew ?_ | refine blk_alloc ?_ _)); exact BK101.out⟩, ⟨by (with_reducible repeat (first | refine blk_drewN ?_ _ | refine blk_drew ?_ | refine blk_alloc ?_ _)); exact BK102.out⟩, ⟨by (with_reducible repeat (first | refine blk_drewN ?_ _ | refine blk_drew ?_ | refine blk_alloc ?_ _)); exact BK104.out⟩, ⟨by repeat (first | (with_reducible first | exact HB.out | apply below_alloc | apply pw_below_drewN | apply below_drew1 | refine below_set ?_ GE101.out | refine below_set ?_ GE102.out | refine below_set ?_ GE104.out) | exact HB.out)⟩⟩
                      case round =>
                        clear H'
                        try clear c1
                        try clear p1
                        try clear q1
                        try clear hx1
                        try clear c2
                        try clear p2
                        try clear c3
                        try clear c4
                        try clear c5
                        try clear c6
                        try clear c6b0
                        try clear p6
                        try clear c7
                        try clear c10
                        try clear p10
                        try clear q10
                        try clear hx10
                        try clear c11
                        try clear c12
                        try clear c13
                        try clear c13b0
                        try clear c14
                        try clear c14b0
                        try clear c15
                        try clear c18
                        try clear c19
                        try clear c21
                        try clear c21b0
                        try clear c22
                        try clear c22b0
                        try clear c23
                        try clear c23b0
                        try clear c23b1
                        try clear c24
                        try clear c24b0
                        try clear c24b1
                        try clear c25
                        try clear c25b0
                        try clear c26
                        try clear c27
                        try clear c30
                        try clear c31
                        try clear c32
                        try clear c34
                        try clear c36
                        try clear c37
                        try clear c40
                        try clear c41
                        try clear c42
                        try clear c44
                        try clear c46
                        try clear c47
                        try clear c50
                        try clear c51
                        try clear c52
                        try clear c54
                        try clear c56
                        try clear c57
                        try clear c60
                        try clear c61
                        try clear c62
                        try clear c64
                        try clear p64
                        try clear c66
                        try clear c67
                        try clear hcz11_0
                        try clear hcz11_1
                        try clear hcz11_2
                        try clear hcz11_3
                        try clear hcz11_4
                        try clear hcz11_5
                        try clear hcz16_0
                        try clear hcz16_1
                        try clear hcz16_2
                        try clear hcz16_3
                        try clear hcz16_4
                        try clear hcz16_5
                        try clear hcz20_0
                        try clear hcz20_1
                        try clear hcz20_2
                        try clear hcz28_0
                        try clear hcz28_1
                        try clear hcz28_2
                        try clear hcz28_3
                        try clear hcz28_4
                        try clear hcz28_5
                        try clear hcz33_0
                        try clear hcz33_1
                        try clear hcz33_2
                        try clear hcz35_0
                        try clear hcz35_1
                        try clear hcz35_2
                        try clear hcz38_0
                        try clear hcz38_1
                        try clear hcz38_2
                        try clear hcz38_3
                        try clear hcz38_4
                        try clear hcz38_5
                        try clear hcz43_0
                        try clear hcz43_1
                        try clear hcz43_2
                        try clear hcz45_0
                        try clear hcz45_1
                        try clear hcz45_2
                        try clear hcz48_0
                        try clear hcz48_1
                        try clear hcz48_2
                        try clear hcz48_3
                        try clear hcz48_4
                        try clear hcz48_5
                        try clear hcz53_0
                        try clear hcz53_1
                        try clear hcz53_2
                        try clear hcz55_0
                        try clear hcz55_1
                        try clear hcz55_2
                        try clear hcz58_0
                        try clear hcz58_1
                        try clear hcz58_2
                        try clear hcz58_3
                        try clear hcz58_4
                        try clear hcz58_5
                        try clear hcz63_0
                        try clear hcz63_1
                        try clear hcz63_2
                        try clear hcz65_0
                        try clear hcz65_1
                        try clear hcz65_2
                        try clear hcz68_0
                        try clear hcz68_1
                        try clear hcz68_2
                        try clear hcz68_3
                        try clear hcz68_4
                        try clear hcz68_5
                        try clear hcz8_0
                        try clear hcz8_1
                        try clear hcz8_2
                        try clear hcz8_3
                        try clear hcz8_4
                        try clear hcz8_5
                        try clear hcz9_0
                        try clear hcz9_1
                        try clear hcz9_2
                        try clear hcz9_3
                        try clear hcz9_4
                        try clear hcz9_5
                        try clear hfz11_0
                        try clear hfz11_1
                        try clear hfz11_2
                        try clear hfz11_3
                        try clear hfz11_4
                        try clear hfz11_5
                        try clear hfz16_0
                        try clear hfz16_1
                        try clear hfz16_2
                        try clear hfz16_3
                        try clear hfz16_4
                        try clear hfz16_5
                        try clear hfz20_0
                        try clear hfz20_1
                        try clear hfz20_2
                        try clear hfz28_0
                        try clear hfz28_1
                        try clear hfz28_2
                        try clear hfz28_3
                        try clear hfz28_4
                        try clear hfz28_5
                        try clear hfz33_0
                        try clear hfz33_1
                        try clear hfz33_2
                        try clear hfz35_0
                        try clear hfz35_1
                        try clear hfz35_2
                        try clear hfz38_0
                        try clear hfz38_1
                        try clear hfz38_2
                        try clear hfz38_3
                        try clear hfz38_4
                        try clear hfz38_5
                        try clear hfz43_0
                        try clear hfz43_1
                        try clear hfz43_2
                        try clear hfz45_0
                        try clear hfz45_1
                        try clear hfz45_2
                        try clear hfz48_0
                        try clear hfz48_1
                        try clear hfz48_2
                        try clear hfz48_3
                        try clear hfz48_4
                        try clear hfz48_5
                        try clear hfz53_0
                        try clear hfz53_1
                        try clear hfz53_2
                        try clear hfz55_0
                        try clear hfz55_1
                        try clear hfz55_2
                        try clear hfz58_0
                        try clear hfz58_1
                        try clear hfz58_2
                        try clear hfz58_3
                        try clear hfz58_4
                        try clear hfz58_5
                        try clear hfz63_0
                        try clear hfz63_1
                        try clear hfz63_2
                        try clear hfz65_0
                        try clear hfz65_1
                        try clear hfz65_2
                        try clear hfz68_0
                        try clear hfz68_1
                        try clear hfz68_2
                        try clear hfz68_3
                        try clear hfz68_4
                        try clear hfz68_5
                        try clear hfz8_0
                        try clear hfz8_1
                        try clear hfz8_2
                        try clear hfz8_3
                        try clear hfz8_4
                        try clear hfz8_5
                        try clear hfz9_0
                        try clear hfz9_1
                        try clear hfz9_2
                        try clear hfz9_3
                        try clear hfz9_4
                        try clear hfz9_5
                        try clear hx103_0
                        try clear hx103_1
                        try clear hx103_2
                        try clear hx105_0
                        try clear hx105_1
                        try clear hx105_2
                        try clear p1
                        try clear p10
                        try clear p103
                        try clear p105
                        try clear p2
                        try clear q1
                        try clear q10
                        try clear q103
                        try clear q105
                        obtain ⟨x9_4, rfl, HA, HK4, BK101, BK102, BK104, HB⟩ := hrel
                        cases gk with
                        | zero => exact absurd HA.out (by simp [ferruleref21_Ahead.l2])
                        | succ k4 =>
                          have H := HA.out
                          clear HA
                          simp only [ferruleref21_Ahead.l2] at H
                          by_cases c69 : x9_4 < (l1_5.length : Int)
                          · rw [if_pos c69] at H
                            have c69b0 : decide (x9_4 < (l1_5.length : Int)) = true := decide_eq_true c69
                            clear c69
                            by_cases c70 : 0 ≤ x9_4
                            · rw [if_pos c70] at H
                              have c70b0 : decide (0 ≤ x9_4) = true := decide_eq_true c70
                              clear c70
                              by_cases c71 : ((rd_T40 l0_5 x5_2).f0) = ((rd_T40 l1_5 x9_4).f0)
                              · rw [if_pos c71] at H
                                have c71b0 : (((rd_T40 l0_5 x5_2).f0) == ((rd_T40 l1_5 x9_4).f0)) = true := beq_iff_eq.mpr c71
                                have c71b1 : (((rd_T40 l0_5 x5_2).f0) != ((rd_T40 l1_5 x9_4).f0)) = false := bne_eq_false_iff_eq.mpr c71
                                clear c71
                                by_cases c72 : ((rd_T40 l0_5 x5_2).f1).toList = ((rd_T40 l1_5 x9_4).f1).toList
                                · rw [if_pos c72] at H
                                  have c72b0 : (((rd_T40 l0_5 x5_2).f1).toList == ((rd_T40 l1_5 x9_4).f1).toList) = true := beq_iff_eq.mpr c72
                                  have c72b1 : (((rd_T40 l0_5 x5_2).f1).toList != ((rd_T40 l1_5 x9_4).f1).toList) = false := bne_eq_false_iff_eq.mpr c72
                                  clear c72
                                  by_cases c73 : ((rd_T40 l0_5 x5_2).f2) < ((rd_T40 l1_5 x9_4).f2)
                                  · rw [if_pos c73] at H
                                    have c73b0 : decide (((rd_T40 l0_5 x5_2).f2) < ((rd_T40 l1_5 x9_4).f2)) = true := decide_eq_true c73
                                    clear c73
                                    obtain rfl := Option.some.inj H
                                    have hnb74 := NB102_101.out
                                    have hnc74 := NB101_102.out
                                    have hnb75 := NB102_104.out
                                    have hnc75 := NB104_102.out
                                    have hcz76_0 : wr.cell? ⟨gb102, 0, none⟩ = some (.int .u64 a1_0) := (blk_cell BK102.out 0).trans rfl
                                    have hcz76_1 : wr.cell? ⟨gb102, 1, none⟩ = some (.int .u64 a1_1) := (blk_cell BK102.out 1).trans rfl
                                    have hcz76_2 : wr.cell? ⟨gb102, 2, none⟩ = some (.int .u64 a1_2) := (blk_cell BK102.out 2).trans rfl
                                    have hcz76_3 : wr.cell? ⟨gb102, 3, none⟩ = some (.int .u64 a1_3) := (blk_cell BK102.out 3).trans rfl
                                    have hcz76_4 : wr.cell? ⟨gb102, 4, none⟩ = some (.slice A1_4 l1_4.length c1_4) := (blk_cell BK102.out 4).trans rfl
                                    have hcz76_5 : wr.cell? ⟨gb102, 5, none⟩ = some (.slice A1_5 l1_5.length c1_5) := (blk_cell BK102.out 5).trans rfl
                                    have hfz76_0 := blk_frozen BK102.out 0
                                    have hfz76_1 := blk_frozen BK102.out 1
                                    have hfz76_2 := blk_frozen BK102.out 2
                                    have hfz76_3 := blk_frozen BK102.out 3
                                    have hfz76_4 := blk_frozen BK102.out 4
                                    have hfz76_5 := blk_frozen BK102.out 5
                                    have p107 : 0 ≤ (x9_4 : Int) := of_decide_eq_true (by first | (with_reducible assumption) | assumption)
                                    have q107 : x9_4 < (l1_5.length : Int) := of_decide_eq_true (by first | (with_reducible assumption) | assumption)
                                    obtain ⟨ad107, e107, hx107_0, hx107_1, hx107_2⟩ := at_T40 HR1_5.out x9_4 p107 q107
                                    cases e107
                                    replace hx107_0 := (HB.out.cell (World.block_lt_of_cell? w _ hx107_0)).trans hx107_0
                                    replace hx107_1 := (HB.out.cell (World.block_lt_of_cell? w _ hx107_1)).trans hx107_1
                                    replace hx107_2 := (HB.out.cell (World.block_lt_of_cell? w _ hx107_2)).trans hx107_2
                                    replace p107 := eq_true p107
                                    replace q107 := eq_true q107
                                    go_wp2_with (first | ((with_reducible refine gate_dst (N := 10) rfl ?_); refine box_event ?hg (N := 10) ?hd (cs := #[.int .u64 0, .string (⟨#[]⟩ : ByteArray), .int .u64 0]) (t := 40) ?hr ?_; (case hd => rfl); (case hg => rfl); (case hr => first | (go_simp; done) | (go_simp; rfl)); intro gb108 hg w77 hbox hb; have n0_ := Aside0.mk (blk_below (g := gb101) (o := .cells #[.int .u64 a0_0, .int .u64 a0_1, .int .u64 a0_2, .int .u64 a0_3, .slice A0_4 l0_4.length c0_4, .slice (some ad103) l0_5.length c0_5] 27 (0, 0)) (by (with_reducible repeat (first | refine blk_drewN ?_ _ | refine blk_drew ?_ | refine blk_alloc ?_ _)); exact BK101.out) hb); have n1_ := Aside0.mk (blk_below (g := gb102) (o := .cells #[.int .u64 a1_0, .int .u64 a1_1, .int .u64 a1_2, .int .u64 a1_3, .slice A1_4 l1_4.length c1_4, .slice (some ad107) l1_5.length c1_5] 27 (0, 0)) (by (with_reducible repeat (first | refine blk_drewN ?_ _ | refine blk_drew ?_ | refine blk_alloc ?_ _)); exact BK102.out) hb); have n2_ := Aside0.mk (blk_below (g := gb104) (o := .cells #[.int .u64 ((rd_T40 l0_5 x5_2).f0), .string ((rd_T40 l0_5 x5_2).f1), .int .u64 ((rd_T40 l0_5 x5_2).f2)] 40 (0, 0)) (by (with_reducible repeat (first | refine blk_drewN ?_ _ | refine blk_drew ?_ | refine blk_alloc ?_ _)); exact BK104.out) hb); have n3_ := Aside0.mk (below_step (by repeat (first | (with_reducible first | exact HB.out | apply below_alloc | apply pw_below_drewN | apply below_drew1 | refine below_set ?_ GE101.out | refine below_set ?_ GE102.out | refine below_set ?_ GE104.out) | exact HB.out)) hb); have n4_ := Aside0.mk (hbox); have n5_ := Aside0.mk ((by rw [hg]; exact (below_size (by repeat (first | (with_reducible first | exact HB.out | apply below_alloc | apply pw_below_drewN | apply below_drew1 | refine below_set ?_ GE101.out | refine below_set ?_ GE102.out | refine below_set ?_ GE104.out) | exact HB.out))) : w.heap.size ≤ gb108)); have n6_ := Aside0.mk ((by rw [hg]; exact (below_size (by repeat (first | (with_reducible first | exact HB.out | apply below_alloc | apply pw_below_drewN | apply below_drew1 | refine below_set ?_ GE101.out | refine below_set ?_ GE102.out | refine below_set ?_ GE104.out) | exact HB.out))) : w.heap.size ≤ gb108)); have n7_ := Aside0.mk ((by rw [hg]; exact Nat.ne_of_lt (blk_lt (g := gb101) (o := .cells #[.int .u64 a0_0, .int .u64 a0_1, .int .u64 a0_2, .int .u64 a0_3, .slice A0_4 l0_4.length c0_4, .slice (some ad103) l0_5.length c0_5] 27 (0, 0)) (by (with_reducible repeat (first | refine blk_drewN ?_ _ | refine blk_drew ?_ | refine blk_alloc ?_ _)); exact BK101.out)) : gb101 ≠ gb108)); have n8_ := Aside0.mk ((by rw [hg]; exact Nat.ne_of_gt (blk_lt (g := gb101) (o := .cells #[.int .u64 a0_0, .int .u64 a0_1, .int .u64 a0_2, .int .u64 a0_3, .slice A0_4 l0_4.length c0_4, .slice (some ad103) l0_5.length c0_5] 27 (0, 0)) (by (with_reducible repeat (first | refine blk_drewN ?_ _ | refine blk_drew ?_ | refine blk_alloc ?_ _)); exact BK101.out)) : gb108 ≠ gb101)); have n9_ := Aside0.mk ((by rw [hg]; exact Nat.ne_of_lt (blk_lt (g := gb102) (o := .cells #[.int .u64 a1_0, .int .u64 a1_1, .int .u64 a1_2, .int .u64 a1_3, .slice A1_4 l1_4.length c1_4, .slice (some ad107) l1_5.length c1_5] 27 (0, 0)) (by (with_reducible repeat (first | refine blk_drewN ?_ _ | refine blk_drew ?_ | refine blk_alloc ?_ _)); exact BK102.out)) : gb102 ≠ gb108)); have n10_ := Aside0.mk ((by rw [hg]; exact Nat.ne_of_gt (blk_lt (g := gb102) (o := .cells #[.int .u64 a1_0, .int .u64 a1_1, .int .u64 a1_2, .int .u64 a1_3, .slice A1_4 l1_4.length c1_4, .slice (some ad107) l1_5.length c1_5] 27 (0, 0)) (by (with_reducible repeat (first | refine blk_drewN ?_ _ | refine blk_drew ?_ | refine blk_alloc ?_ _)); exact BK102.out)) : gb108 ≠ gb102)); have n11_ := Aside0.mk ((by rw [hg]; exact Nat.ne_of_lt (blk_lt (g := gb104) (o := .cells #[.int .u64 ((rd_T40 l0_5 x5_2).f0), .string ((rd_T40 l0_5 x5_2).f1), .int .u64 ((rd_T40 l0_5 x5_2).f2)] 40 (0, 0)) (by (with_reducible repeat (first | refine blk_drewN ?_ _ | refine blk_drew ?_ | refine blk_alloc ?_ _)); exact BK104.out)) : gb104 ≠ gb108)); have n12_ := Aside0.mk ((by rw [hg]; exact Nat.ne_of_gt (blk_lt (g := gb104) (o := .cells #[.int .u64 ((rd_T40 l0_5 x5_2).f0), .string ((rd_T40 l0_5 x5_2).f1), .int .u64 ((rd_T40 l0_5 x5_2).f2)] 40 (0, 0)) (by (with_reducible repeat (first | refine blk_drewN ?_ _ | refine blk_drew ?_ | refine blk_alloc ?_ _)); exact BK104.out)) : gb108 ≠ gb104)); clear BK101; clear BK102; clear BK104; clear HB; have BK101 := n0_; have BK102 := n1_; have BK104 := n2_; have HB := n3_; have BK108 := n4_; have GW108 := n5_; have GE108 := n6_; have NB101_108 := n7_; have NB108_101 := n8_; have NB102_108 := n9_; have NB108_102 := n10_; have NB104_108 := n11_; have NB108_104 := n12_; clear n0_ n1_ n2_ n3_ n4_ n5_ n6_ n7_ n8_ n9_ n10_ n11_ n12_; clear hb hbox hg; have hnb78 := NB108_101.out; have hnc78 := NB101_108.out; have hnb79 := NB108_102.out; have hnc79 := NB102_108.out; have hnb80 := NB108_104.out; have hnc80 := NB104_108.out; have hcz81_0 : w77.cell? ⟨gb108, 0, none⟩ = some (.int .u64 0) := (blk_cell BK108.out 0).trans rfl; have hcz81_1 : w77.cell? ⟨gb108, 1, none⟩ = some (.string (⟨#[]⟩ : ByteArray)) := (blk_cell BK108.out 1).trans rfl; have hcz81_2 : w77.cell? ⟨gb108, 2, none⟩ = some (.int .u64 0) := (blk_cell BK108.out 2).trans rfl; have hfz81_0 := blk_frozen BK108.out 0; have hfz81_1 := blk_frozen BK108.out 1; have hfz81_2 := blk_frozen BK108.out 2; have hnb82 := NB104_101.out; have hnc82 := NB101_104.out; have hcz83_0 : w77.cell? ⟨gb104, 0, none⟩ = some (.int .u64 ((rd_T40 l0_5 x5_2).f0)) := (blk_cell BK104.out 0).trans rfl; have hcz83_1 : w77.cell? ⟨gb104, 1, none⟩ = some (.string ((rd_T40 l0_5 x5_2).f1)) := (blk_cell BK104.out 1).trans rfl; have hcz83_2 : w77.cell? ⟨gb104, 2, none⟩ = some (.int .u64 ((rd_T40 l0_5 x5_2).f2)) := (blk_cell BK104.out 2).trans rfl; have hfz83_0 := blk_frozen BK104.out 0; have hfz83_1 := blk_frozen BK104.out 1; have hfz83_2 := blk_frozen BK104.out 2))
                                    go_ret
                                    exact ⟨by first | rfl | (simp [errW_none, errW_some] <;> rfl) | (simp [*, errW_none, errW_some] <;> rfl), by repeat (first | (with_reducible first | exact HB.out | apply below_alloc | apply pw_below_drewN | apply below_drew1 | refine below_set ?_ GE101.out | refine below_set ?_ GE102.out | refine below_set ?_ GE104.out | refine below_set ?_ GE108.out) | exact HB.out)⟩
                                  · rw [if_neg c73] at H
                                    have c73b0 : decide (((rd_T40 l0_5 x5_2).f2) < ((rd_T40 l1_5 x9_4).f2)) = false := decide_eq_false c73
                                    clear c73
                                    have H' := Aside0.mk H
                                    clear H
                                    have hnb84 := NB102_101.out
                                    have hnc84 := NB101_102.out
                                    have hnb85 := NB102_104.out
                                    have hnc85 := NB104_102.out
                                    have hcz86_0 : wr.cell? ⟨gb102, 0, none⟩ = some (.int .u64 a1_0) := (blk_cell BK102.out 0).trans rfl
                                    have hcz86_1 : wr.cell? ⟨gb102, 1, none⟩ = some (.int .u64 a1_1) := (blk_cell BK102.out 1).trans rfl
                                    have hcz86_2 : wr.cell? ⟨gb102, 2, none⟩ = some (.int .u64 a1_2) := (blk_cell BK102.out 2).trans rfl
                                    have hcz86_3 : wr.cell? ⟨gb102, 3, none⟩ = some (.int .u64 a1_3) := (blk_cell BK102.out 3).trans rfl
                                    have hcz86_4 : wr.cell? ⟨gb102, 4, none⟩ = some (.slice A1_4 l1_4.length c1_4) := (blk_cell BK102.out 4).trans rfl
                                    have hcz86_5 : wr.cell? ⟨gb102, 5, none⟩ = some (.slice A1_5 l1_5.length c1_5) := (blk_cell BK102.out 5).trans rfl
                                    have hfz86_0 := blk_frozen BK102.out 0
                                    have hfz86_1 := blk_frozen BK102.out 1
                                    have hfz86_2 := blk_frozen BK102.out 2
                                    have hfz86_3 := blk_frozen BK102.out 3
                                    have hfz86_4 := blk_frozen BK102.out 4
                                    have hfz86_5 := blk_frozen BK102.out 5
                                    have p107 : 0 ≤ (x9_4 : Int) := of_decide_eq_true (by first | (with_reducible assumption) | assumption)
                                    have q107 : x9_4 < (l1_5.length : Int) := of_decide_eq_true (by first | (with_reducible assumption) | assumption)
                                    obtain ⟨ad107, e107, hx107_0, hx107_1, hx107_2⟩ := at_T40 HR1_5.out x9_4 p107 q107
                                    cases e107
                                    replace hx107_0 := (HB.out.cell (World.block_lt_of_cell? w _ hx107_0)).trans hx107_0
                                    replace hx107_1 := (HB.out.cell (World.block_lt_of_cell? w _ hx107_1)).trans hx107_1
                                    replace hx107_2 := (HB.out.cell (World.block_lt_of_cell? w _ hx107_2)).trans hx107_2
                                    replace p107 := eq_true p107
                                    replace q107 := eq_true q107
                                    go_wp2_with (first | ((with_reducible refine gate_dst (N := 10) rfl ?_); refine box_event ?hg (N := 10) ?hd (cs := #[.int .u64 0, .string (⟨#[]⟩ : ByteArray), .int .u64 0]) (t := 40) ?hr ?_; (case hd => rfl); (case hg => rfl); (case hr => first | (go_simp; done) | (go_simp; rfl)); intro gb108 hg w87 hbox hb; have n0_ := Aside0.mk (blk_below (g := gb101) (o := .cells #[.int .u64 a0_0, .int .u64 a0_1, .int .u64 a0_2, .int .u64 a0_3, .slice A0_4 l0_4.length c0_4, .slice (some ad103) l0_5.length c0_5] 27 (0, 0)) (by (with_reducible repeat (first | refine blk_drewN ?_ _ | refine blk_drew ?_ | refine blk_alloc ?_ _)); exact BK101.out) hb); have n1_ := Aside0.mk (blk_below (g := gb102) (o := .cells #[.int .u64 a1_0, .int .u64 a1_1, .int .u64 a1_2, .int .u64 a1_3, .slice A1_4 l1_4.length c1_4, .slice (some ad107) l1_5.length c1_5] 27 (0, 0)) (by (with_reducible repeat (first | refine blk_drewN ?_ _ | refine blk_drew ?_ | refine blk_alloc ?_ _)); exact BK102.out) hb); have n2_ := Aside0.mk (blk_below (g := gb104) (o := .cells #[.int .u64 ((rd_T40 l0_5 x5_2).f0), .string ((rd_T40 l0_5 x5_2).f1), .int .u64 ((rd_T40 l0_5 x5_2).f2)] 40 (0, 0)) (by (with_reducible repeat (first | refine blk_drewN ?_ _ | refine blk_drew ?_ | refine blk_alloc ?_ _)); exact BK104.out) hb); have n3_ := Aside0.mk (below_step (by repeat (first | (with_reducible first | exact HB.out | apply below_alloc | apply pw_below_drewN | apply below_drew1 | refine below_set ?_ GE101.out | refine below_set ?_ GE102.out | refine below_set ?_ GE104.out) | exact HB.out)) hb); have n4_ := Aside0.mk (hbox); have n5_ := Aside0.mk ((by rw [hg]; exact (below_size (by repeat (first | (with_reducible first | exact HB.out | apply below_alloc | apply pw_below_drewN | apply below_drew1 | refine below_set ?_ GE101.out | refine below_set ?_ GE102.out | refine below_set ?_ GE104.out) | exact HB.out))) : w.heap.size ≤ gb108)); have n6_ := Aside0.mk ((by rw [hg]; exact (below_size (by repeat (first | (with_reducible first | exact HB.out | apply below_alloc | apply pw_below_drewN | apply below_drew1 | refine below_set ?_ GE101.out | refine below_set ?_ GE102.out | refine below_set ?_ GE104.out) | exact HB.out))) : w.heap.size ≤ gb108)); have n7_ := Aside0.mk ((by rw [hg]; exact Nat.ne_of_lt (blk_lt (g := gb101) (o := .cells #[.int .u64 a0_0, .int .u64 a0_1, .int .u64 a0_2, .int .u64 a0_3, .slice A0_4 l0_4.length c0_4, .slice (some ad103) l0_5.length c0_5] 27 (0, 0)) (by (with_reducible repeat (first | refine blk_drewN ?_ _ | refine blk_drew ?_ | refine blk_alloc ?_ _)); exact BK101.out)) : gb101 ≠ gb108)); have n8_ := Aside0.mk ((by rw [hg]; exact Nat.ne_of_gt (blk_lt (g := gb101) (o := .cells #[.int .u64 a0_0, .int .u64 a0_1, .int .u64 a0_2, .int .u64 a0_3, .slice A0_4 l0_4.length c0_4, .slice (some ad103) l0_5.length c0_5] 27 (0, 0)) (by (with_reducible repeat (first | refine blk_drewN ?_ _ | refine blk_drew ?_ | refine blk_alloc ?_ _)); exact BK101.out)) : gb108 ≠ gb101)); have n9_ := Aside0.mk ((by rw [hg]; exact Nat.ne_of_lt (blk_lt (g := gb102) (o := .cells #[.int .u64 a1_0, .int .u64 a1_1, .int .u64 a1_2, .int .u64 a1_3, .slice A1_4 l1_4.length c1_4, .slice (some ad107) l1_5.length c1_5] 27 (0, 0)) (by (with_reducible repeat (first | refine blk_drewN ?_ _ | refine blk_drew ?_ | refine blk_alloc ?_ _)); exact BK102.out)) : gb102 ≠ gb108)); have n10_ := Aside0.mk ((by rw [hg]; exact Nat.ne_of_gt (blk_lt (g := gb102) (o := .cells #[.int .u64 a1_0, .int .u64 a1_1, .int .u64 a1_2, .int .u64 a1_3, .slice A1_4 l1_4.length c1_4, .slice (some ad107) l1_5.length c1_5] 27 (0, 0)) (by (with_reducible repeat (first | refine blk_drewN ?_ _ | refine blk_drew ?_ | refine blk_alloc ?_ _)); exact BK102.out)) : gb108 ≠ gb102)); have n11_ := Aside0.mk ((by rw [hg]; exact Nat.ne_of_lt (blk_lt (g := gb104) (o := .cells #[.int .u64 ((rd_T40 l0_5 x5_2).f0), .string ((rd_T40 l0_5 x5_2).f1), .int .u64 ((rd_T40 l0_5 x5_2).f2)] 40 (0, 0)) (by (with_reducible repeat (first | refine blk_drewN ?_ _ | refine blk_drew ?_ | refine blk_alloc ?_ _)); exact BK104.out)) : gb104 ≠ gb108)); have n12_ := Aside0.mk ((by rw [hg]; exact Nat.ne_of_gt (blk_lt (g := gb104) (o := .cells #[.int .u64 ((rd_T40 l0_5 x5_2).f0), .string ((rd_T40 l0_5 x5_2).f1), .int .u64 ((rd_T40 l0_5 x5_2).f2)] 40 (0, 0)) (by (with_reducible repeat (first | refine blk_drewN ?_ _ | refine blk_drew ?_ | refine blk_alloc ?_ _)); exact BK104.out)) : gb108 ≠ gb104)); clear BK101; clear BK102; clear BK104; clear HB; have BK101 := n0_; have BK102 := n1_; have BK104 := n2_; have HB := n3_; have BK108 := n4_; have GW108 := n5_; have GE108 := n6_; have NB101_108 := n7_; have NB108_101 := n8_; have NB102_108 := n9_; have NB108_102 := n10_; have NB104_108 := n11_; have NB108_104 := n12_; clear n0_ n1_ n2_ n3_ n4_ n5_ n6_ n7_ n8_ n9_ n10_ n11_ n12_; clear hb hbox hg; have hnb88 := NB108_101.out; have hnc88 := NB101_108.out; have hnb89 := NB108_102.out; have hnc89 := NB102_108.out; have hnb90 := NB108_104.out; have hnc90 := NB104_108.out; have hcz91_0 : w87.cell? ⟨gb108, 0, none⟩ = some (.int .u64 0) := (blk_cell BK108.out 0).trans rfl; have hcz91_1 : w87.cell? ⟨gb108, 1, none⟩ = some (.string (⟨#[]⟩ : ByteArray)) := (blk_cell BK108.out 1).trans rfl; have hcz91_2 : w87.cell? ⟨gb108, 2, none⟩ = some (.int .u64 0) := (blk_cell BK108.out 2).trans rfl; have hfz91_0 := blk_frozen BK108.out 0; have hfz91_1 := blk_frozen BK108.out 1; have hfz91_2 := blk_frozen BK108.out 2; have hnb92 := NB104_101.out; have hnc92 := NB101_104.out; have hcz93_0 : w87.cell? ⟨gb104, 0, none⟩ = some (.int .u64 ((rd_T40 l0_5 x5_2).f0)) := (blk_cell BK104.out 0).trans rfl; have hcz93_1 : w87.cell? ⟨gb104, 1, none⟩ = some (.string ((rd_T40 l0_5 x5_2).f1)) := (blk_cell BK104.out 1).trans rfl; have hcz93_2 : w87.cell? ⟨gb104, 2, none⟩ = some (.int .u64 ((rd_T40 l0_5 x5_2).f2)) := (blk_cell BK104.out 2).trans rfl; have hfz93_0 := blk_frozen BK104.out 0; have hfz93_1 := blk_frozen BK104.out 1; have hfz93_2 := blk_frozen BK104.out 2))
                                    go_roundg k4
                                    case measure => have := HJ2.out; have := HK2.out; have := HK3.out; have := HK4.out; omega
                                    case rel => exact ⟨(wrap64 (x9_4 + 1)), (by first | rfl | (simp; done) | (simp [*]; done)), H', ⟨by have := HJ2.out; have := HK2.out; have := HK3.out; have := HK4.out; omega⟩, ⟨by (with_reducible repeat (first | refine blk_drewN ?_ _ | refine blk_drew ?_ | refine blk_alloc ?_ _)); refine blk_far ?_ NB101_108.out _; (with_reducible repeat (first | refine blk_drewN ?_ _ | refine blk_drew ?_ | refine blk_alloc ?_ _)); refine blk_far ?_ NB101_108.out _; (with_reducible repeat (first | refine blk_drewN ?_ _ | refine blk_drew ?_ | refine blk_alloc ?_ _)); refine blk_far ?_ NB101_108.out _; (with_reducible repeat (first | refine blk_drewN ?_ _ | refine blk_drew ?_ | refine blk_alloc ?_ _)); exact BK101.out⟩, ⟨by (with_reducible repeat (first | refine blk_drewN ?_ _ | refine blk_drew ?_ | refine blk_alloc ?_ _)); refine blk_far ?_ NB102_108.out _; (with_reducible repeat (first | refine blk_drewN ?_ _ | refine blk_drew ?_ | refine blk_alloc ?_ _)); refine blk_far ?_ NB102_108.out _; (with_reducible repeat (first | refine blk_drewN ?_ _ | refine blk_drew ?_ | refine blk_alloc ?_ _)); refine blk_far ?_ NB102_108.out _; (with_reducible repeat (first | refine blk_drewN ?_ _ | refine blk_drew ?_ | refine blk_alloc ?_ _)); exact BK102.out⟩, ⟨by (with_reducible repeat (first | refine blk_drewN ?_ _ | refine blk_drew ?_ | refine blk_alloc ?_ _)); refine blk_far ?_ NB104_108.out _; (with_reducible repeat (first | refine blk_drewN ?_ _ | refine blk_drew ?_ | refine blk_alloc ?_ _)); refine blk_far ?_ NB104_108.out _; (with_reducible repeat (first | refine blk_drewN ?_ _ | refine blk_drew ?_ | refine blk_alloc ?_ _)); refine blk_far ?_ NB104_108.out _; (with_reducible repeat (first | refine blk_drewN ?_ _ | refine blk_drew ?_ | refine blk_alloc ?_ _)); exact BK104.out⟩, ⟨by repeat (first | (with_reducible first | exact HB.out | apply below_alloc | apply pw_below_drewN | apply below_drew1 | refine below_set ?_ GE101.out | refine below_set ?_ GE102.out | refine below_set ?_ GE104.out | refine below_set ?_ GE108.out) | exact HB.out)⟩⟩
                                · rw [if_neg c72] at H
                                  have c72b0 : (((rd_T40 l0_5 x5_2).f1).toList == ((rd_T40 l1_5 x9_4).f1).toList) = false := beq_eq_false_iff_ne.mpr c72
                                  have c72b1 : (((rd_T40 l0_5 x5_2).f1).toList != ((rd_T40 l1_5 x9_4).f1).toList) = true := bne_iff_ne.mpr c72
                                  have H' := Aside0.mk H
                                  clear H
                                  have hnb94 := NB102_101.out
                                  have hnc94 := NB101_102.out
                                  have hnb95 := NB102_104.out
                                  have hnc95 := NB104_102.out
                                  have hcz96_0 : wr.cell? ⟨gb102, 0, none⟩ = some (.int .u64 a1_0) := (blk_cell BK102.out 0).trans rfl
                                  have hcz96_1 : wr.cell? ⟨gb102, 1, none⟩ = some (.int .u64 a1_1) := (blk_cell BK102.out 1).trans rfl
                                  have hcz96_2 : wr.cell? ⟨gb102, 2, none⟩ = some (.int .u64 a1_2) := (blk_cell BK102.out 2).trans rfl
                                  have hcz96_3 : wr.cell? ⟨gb102, 3, none⟩ = some (.int .u64 a1_3) := (blk_cell BK102.out 3).trans rfl
                                  have hcz96_4 : wr.cell? ⟨gb102, 4, none⟩ = some (.slice A1_4 l1_4.length c1_4) := (blk_cell BK102.out 4).trans rfl
                                  have hcz96_5 : wr.cell? ⟨gb102, 5, none⟩ = some (.slice A1_5 l1_5.length c1_5) := (blk_cell BK102.out 5).trans rfl
                                  have hfz96_0 := blk_frozen BK102.out 0
                                  have hfz96_1 := blk_frozen BK102.out 1
                                  have hfz96_2 := blk_frozen BK102.out 2
                                  have hfz96_3 := blk_frozen BK102.out 3
                                  have hfz96_4 := blk_frozen BK102.out 4
                                  have hfz96_5 := blk_frozen BK102.out 5
                                  have p107 : 0 ≤ (x9_4 : Int) := of_decide_eq_true (by first | (with_reducible assumption) | assumption)
                                  have q107 : x9_4 < (l1_5.length : Int) := of_decide_eq_true (by first | (with_reducible assumption) | assumption)
                                  obtain ⟨ad107, e107, hx107_0, hx107_1, hx107_2⟩ := at_T40 HR1_5.out x9_4 p107 q107
                                  cases e107
                                  replace hx107_0 := (HB.out.cell (World.block_lt_of_cell? w _ hx107_0)).trans hx107_0
                                  replace hx107_1 := (HB.out.cell (World.block_lt_of_cell? w _ hx107_1)).trans hx107_1
                                  replace hx107_2 := (HB.out.cell (World.block_lt_of_cell? w _ hx107_2)).trans hx107_2
                                  replace p107 := eq_true p107
                                  replace q107 := eq_true q107
                                  go_wp2_with (first | ((with_reducible refine gate_dst (N := 10) rfl ?_); refine box_event ?hg (N := 10) ?hd (cs := #[.int .u64 0, .string (⟨#[]⟩ : ByteArray), .int .u64 0]) (t := 40) ?hr ?_; (case hd => rfl); (case hg => rfl); (case hr => first | (go_simp; done) | (go_simp; rfl)); intro gb108 hg w97 hbox hb; have n0_ := Aside0.mk (blk_below (g := gb101) (o := .cells #[.int .u64 a0_0, .int .u64 a0_1, .int .u64 a0_2, .int .u64 a0_3, .slice A0_4 l0_4.length c0_4, .slice (some ad103) l0_5.length c0_5] 27 (0, 0)) (by (with_reducible repeat (first | refine blk_drewN ?_ _ | refine blk_drew ?_ | refine blk_alloc ?_ _)); exact BK101.out) hb); have n1_ := Aside0.mk (blk_below (g := gb102) (o := .cells #[.int .u64 a1_0, .int .u64 a1_1, .int .u64 a1_2, .int .u64 a1_3, .slice A1_4 l1_4.length c1_4, .slice (some ad107) l1_5.length c1_5] 27 (0, 0)) (by (with_reducible repeat (first | refine blk_drewN ?_ _ | refine blk_drew ?_ | refine blk_alloc ?_ _)); exact BK102.out) hb); have n2_ := Aside0.mk (blk_below (g := gb104) (o := .cells #[.int .u64 ((rd_T40 l0_5 x5_2).f0), .string ((rd_T40 l0_5 x5_2).f1), .int .u64 ((rd_T40 l0_5 x5_2).f2)] 40 (0, 0)) (by (with_reducible repeat (first | refine blk_drewN ?_ _ | refine blk_drew ?_ | refine blk_alloc ?_ _)); exact BK104.out) hb); have n3_ := Aside0.mk (below_step (by repeat (first | (with_reducible first | exact HB.out | apply below_alloc | apply pw_below_drewN | apply below_drew1 | refine below_set ?_ GE101.out | refine below_set ?_ GE102.out | refine below_set ?_ GE104.out) | exact HB.out)) hb); have n4_ := Aside0.mk (hbox); have n5_ := Aside0.mk ((by rw [hg]; exact (below_size (by repeat (first | (with_reducible first | exact HB.out | apply below_alloc | apply pw_below_drewN | apply below_drew1 | refine below_set ?_ GE101.out | refine below_set ?_ GE102.out | refine below_set ?_ GE104.out) | exact HB.out))) : w.heap.size ≤ gb108)); have n6_ := Aside0.mk ((by rw [hg]; exact (below_size (by repeat (first | (with_reducible first | exact HB.out | apply below_alloc | apply pw_below_drewN | apply below_drew1 | refine below_set ?_ GE101.out | refine below_set ?_ GE102.out | refine below_set ?_ GE104.out) | exact HB.out))) : w.heap.size ≤ gb108)); have n7_ := Aside0.mk ((by rw [hg]; exact Nat.ne_of_lt (blk_lt (g := gb101) (o := .cells #[.int .u64 a0_0, .int .u64 a0_1, .int .u64 a0_2, .int .u64 a0_3, .slice A0_4 l0_4.length c0_4, .slice (some ad103) l0_5.length c0_5] 27 (0, 0)) (by (with_reducible repeat (first | refine blk_drewN ?_ _ | refine blk_drew ?_ | refine blk_alloc ?_ _)); exact BK101.out)) : gb101 ≠ gb108)); have n8_ := Aside0.mk ((by rw [hg]; exact Nat.ne_of_gt (blk_lt (g := gb101) (o := .cells #[.int .u64 a0_0, .int .u64 a0_1, .int .u64 a0_2, .int .u64 a0_3, .slice A0_4 l0_4.length c0_4, .slice (some ad103) l0_5.length c0_5] 27 (0, 0)) (by (with_reducible repeat (first | refine blk_drewN ?_ _ | refine blk_drew ?_ | refine blk_alloc ?_ _)); exact BK101.out)) : gb108 ≠ gb101)); have n9_ := Aside0.mk ((by rw [hg]; exact Nat.ne_of_lt (blk_lt (g := gb102) (o := .cells #[.int .u64 a1_0, .int .u64 a1_1, .int .u64 a1_2, .int .u64 a1_3, .slice A1_4 l1_4.length c1_4, .slice (some ad107) l1_5.length c1_5] 27 (0, 0)) (by (with_reducible repeat (first | refine blk_drewN ?_ _ | refine blk_drew ?_ | refine blk_alloc ?_ _)); exact BK102.out)) : gb102 ≠ gb108)); have n10_ := Aside0.mk ((by rw [hg]; exact Nat.ne_of_gt (blk_lt (g := gb102) (o := .cells #[.int .u64 a1_0, .int .u64 a1_1, .int .u64 a1_2, .int .u64 a1_3, .slice A1_4 l1_4.length c1_4, .slice (some ad107) l1_5.length c1_5] 27 (0, 0)) (by (with_reducible repeat (first | refine blk_drewN ?_ _ | refine blk_drew ?_ | refine blk_alloc ?_ _)); exact BK102.out)) : gb108 ≠ gb102)); have n11_ := Aside0.mk ((by rw [hg]; exact Nat.ne_of_lt (blk_lt (g := gb104) (o := .cells #[.int .u64 ((rd_T40 l0_5 x5_2).f0), .string ((rd_T40 l0_5 x5_2).f1), .int .u64 ((rd_T40 l0_5 x5_2).f2)] 40 (0, 0)) (by (with_reducible repeat (first | refine blk_drewN ?_ _ | refine blk_drew ?_ | refine blk_alloc ?_ _)); exact BK104.out)) : gb104 ≠ gb108)); have n12_ := Aside0.mk ((by rw [hg]; exact Nat.ne_of_gt (blk_lt (g := gb104) (o := .cells #[.int .u64 ((rd_T40 l0_5 x5_2).f0), .string ((rd_T40 l0_5 x5_2).f1), .int .u64 ((rd_T40 l0_5 x5_2).f2)] 40 (0, 0)) (by (with_reducible repeat (first | refine blk_drewN ?_ _ | refine blk_drew ?_ | refine blk_alloc ?_ _)); exact BK104.out)) : gb108 ≠ gb104)); clear BK101; clear BK102; clear BK104; clear HB; have BK101 := n0_; have BK102 := n1_; have BK104 := n2_; have HB := n3_; have BK108 := n4_; have GW108 := n5_; have GE108 := n6_; have NB101_108 := n7_; have NB108_101 := n8_; have NB102_108 := n9_; have NB108_102 := n10_; have NB104_108 := n11_; have NB108_104 := n12_; clear n0_ n1_ n2_ n3_ n4_ n5_ n6_ n7_ n8_ n9_ n10_ n11_ n12_; clear hb hbox hg; have hnb98 := NB108_101.out; have hnc98 := NB101_108.out; have hnb99 := NB108_102.out; have hnc99 := NB102_108.out; have hnb100 := NB108_104.out; have hnc100 := NB104_108.out; have hcz101_0 : w97.cell? ⟨gb108, 0, none⟩ = some (.int .u64 0) := (blk_cell BK108.out 0).trans rfl; have hcz101_1 : w97.cell? ⟨gb108, 1, none⟩ = some (.string (⟨#[]⟩ : ByteArray)) := (blk_cell BK108.out 1).trans rfl; have hcz101_2 : w97.cell? ⟨gb108, 2, none⟩ = some (.int .u64 0) := (blk_cell BK108.out 2).trans rfl; have hfz101_0 := blk_frozen BK108.out 0; have hfz101_1 := blk_frozen BK108.out 1; have hfz101_2 := blk_frozen BK108.out 2; have hnb102 := NB104_101.out; have hnc102 := NB101_104.out; have hcz103_0 : w97.cell? ⟨gb104, 0, none⟩ = some (.int .u64 ((rd_T40 l0_5 x5_2).f0)) := (blk_cell BK104.out 0).trans rfl; have hcz103_1 : w97.cell? ⟨gb104, 1, none⟩ = some (.string ((rd_T40 l0_5 x5_2).f1)) := (blk_cell BK104.out 1).trans rfl; have hcz103_2 : w97.cell? ⟨gb104, 2, none⟩ = some (.int .u64 ((rd_T40 l0_5 x5_2).f2)) := (blk_cell BK104.out 2).trans rfl; have hfz103_0 := blk_frozen BK104.out 0; have hfz103_1 := blk_frozen BK104.out 1; have hfz103_2 := blk_frozen BK104.out 2))
                                  go_roundg k4
                                  case measure => have := HJ2.out; have := HK2.out; have := HK3.out; have := HK4.out; omega
                                  case rel => exact ⟨(wrap64 (x9_4 + 1)), (by first | rfl | (simp; done) | (simp [*]; done)), H', ⟨by have := HJ2.out; have := HK2.out; have := HK3.out; have := HK4.out; omega⟩, ⟨by (with_reducible repeat (first | refine blk_drewN ?_ _ | refine blk_drew ?_ | refine blk_alloc ?_ _)); refine blk_far ?_ NB101_108.out _; (with_reducible repeat (first | refine blk_drewN ?_ _ | refine blk_drew ?_ | refine blk_alloc ?_ _)); refine blk_far ?_ NB101_108.out _; (with_reducible repeat (first | refine blk_drewN ?_ _ | refine blk_drew ?_ | refine blk_alloc ?_ _)); refine blk_far ?_ NB101_108.out _; (with_reducible repeat (first | refine blk_drewN ?_ _ | refine blk_drew ?_ | refine blk_alloc ?_ _)); exact BK101.out⟩, ⟨by (with_reducible repeat (first | refine blk_drewN ?_ _ | refine blk_drew ?_ | refine blk_alloc ?_ _)); refine blk_far ?_ NB102_108.out _; (with_reducible repeat (first | refine blk_drewN ?_ _ | refine blk_drew ?_ | refine blk_alloc ?_ _)); refine blk_far ?_ NB102_108.out _; (with_reducible repeat (first | refine blk_drewN ?_ _ | refine blk_drew ?_ | refine blk_alloc ?_ _)); refine blk_far ?_ NB102_108.out _; (with_reducible repeat (first | refine blk_drewN ?_ _ | refine blk_drew ?_ | refine blk_alloc ?_ _)); exact BK102.out⟩, ⟨by (with_reducible repeat (first | refine blk_drewN ?_ _ | refine blk_drew ?_ | refine blk_alloc ?_ _)); refine blk_far ?_ NB104_108.out _; (with_reducible repeat (first | refine blk_drewN ?_ _ | refine blk_drew ?_ | refine blk_alloc ?_ _)); refine blk_far ?_ NB104_108.out _; (with_reducible repeat (first | refine blk_drewN ?_ _ | refine blk_drew ?_ | refine blk_alloc ?_ _)); refine blk_far ?_ NB104_108.out _; (with_reducible repeat (first | refine blk_drewN ?_ _ | refine blk_drew ?_ | refine blk_alloc ?_ _)); exact BK104.out⟩, ⟨by repeat (first | (with_reducible first | exact HB.out | apply below_alloc | apply pw_below_drewN | apply below_drew1 | refine below_set ?_ GE101.out | refine below_set ?_ GE102.out | refine below_set ?_ GE104.out | refine below_set ?_ GE108.out) | exact HB.out)⟩⟩
                              · rw [if_neg c71] at H
                                have c71b0 : (((rd_T40 l0_5 x5_2).f0) == ((rd_T40 l1_5 x9_4).f0)) = false := beq_eq_false_iff_ne.mpr c71
                                have c71b1 : (((rd_T40 l0_5 x5_2).f0) != ((rd_T40 l1_5 x9_4).f0)) = true := bne_iff_ne.mpr c71
                                have H' := Aside0.mk H
                                clear H
                                have hnb104 := NB102_101.out
                                have hnc104 := NB101_102.out
                                have hnb105 := NB102_104.out
                                have hnc105 := NB104_102.out
                                have hcz106_0 : wr.cell? ⟨gb102, 0, none⟩ = some (.int .u64 a1_0) := (blk_cell BK102.out 0).trans rfl
                                have hcz106_1 : wr.cell? ⟨gb102, 1, none⟩ = some (.int .u64 a1_1) := (blk_cell BK102.out 1).trans rfl
                                have hcz106_2 : wr.cell? ⟨gb102, 2, none⟩ = some (.int .u64 a1_2) := (blk_cell BK102.out 2).trans rfl
                                have hcz106_3 : wr.cell? ⟨gb102, 3, none⟩ = some (.int .u64 a1_3) := (blk_cell BK102.out 3).trans rfl
                                have hcz106_4 : wr.cell? ⟨gb102, 4, none⟩ = some (.slice A1_4 l1_4.length c1_4) := (blk_cell BK102.out 4).trans rfl
                                have hcz106_5 : wr.cell? ⟨gb102, 5, none⟩ = some (.slice A1_5 l1_5.length c1_5) := (blk_cell BK102.out 5).trans rfl
                                have hfz106_0 := blk_frozen BK102.out 0
                                have hfz106_1 := blk_frozen BK102.out 1
                                have hfz106_2 := blk_frozen BK102.out 2
                                have hfz106_3 := blk_frozen BK102.out 3
                                have hfz106_4 := blk_frozen BK102.out 4
                                have hfz106_5 := blk_frozen BK102.out 5
                                have p107 : 0 ≤ (x9_4 : Int) := of_decide_eq_true (by first | (with_reducible assumption) | assumption)
                                have q107 : x9_4 < (l1_5.length : Int) := of_decide_eq_true (by first | (with_reducible assumption) | assumption)
                                obtain ⟨ad107, e107, hx107_0, hx107_1, hx107_2⟩ := at_T40 HR1_5.out x9_4 p107 q107
                                cases e107
                                replace hx107_0 := (HB.out.cell (World.block_lt_of_cell? w _ hx107_0)).trans hx107_0
                                replace hx107_1 := (HB.out.cell (World.block_lt_of_cell? w _ hx107_1)).trans hx107_1
                                replace hx107_2 := (HB.out.cell (World.block_lt_of_cell? w _ hx107_2)).trans hx107_2
                                replace p107 := eq_true p107
                                replace q107 := eq_true q107
                                go_wp2_with (first | ((with_reducible refine gate_dst (N := 10) rfl ?_); refine box_event ?hg (N := 10) ?hd (cs := #[.int .u64 0, .string (⟨#[]⟩ : ByteArray), .int .u64 0]) (t := 40) ?hr ?_; (case hd => rfl); (case hg => rfl); (case hr => first | (go_simp; done) | (go_simp; rfl)); intro gb108 hg w107 hbox hb; have n0_ := Aside0.mk (blk_below (g := gb101) (o := .cells #[.int .u64 a0_0, .int .u64 a0_1, .int .u64 a0_2, .int .u64 a0_3, .slice A0_4 l0_4.length c0_4, .slice (some ad103) l0_5.length c0_5] 27 (0, 0)) (by (with_reducible repeat (first | refine blk_drewN ?_ _ | refine blk_drew ?_ | refine blk_alloc ?_ _)); exact BK101.out) hb); have n1_ := Aside0.mk (blk_below (g := gb102) (o := .cells #[.int .u64 a1_0, .int .u64 a1_1, .int .u64 a1_2, .int .u64 a1_3, .slice A1_4 l1_4.length c1_4, .slice (some ad107) l1_5.length c1_5] 27 (0, 0)) (by (with_reducible repeat (first | refine blk_drewN ?_ _ | refine blk_drew ?_ | refine blk_alloc ?_ _)); exact BK102.out) hb); have n2_ := Aside0.mk (blk_below (g := gb104) (o := .cells #[.int .u64 ((rd_T40 l0_5 x5_2).f0), .string ((rd_T40 l0_5 x5_2).f1), .int .u64 ((rd_T40 l0_5 x5_2).f2)] 40 (0, 0)) (by (with_reducible repeat (first | refine blk_drewN ?_ _ | refine blk_drew ?_ | refine blk_alloc ?_ _)); exact BK104.out) hb); have n3_ := Aside0.mk (below_step (by repeat (first | (with_reducible first | exact HB.out | apply below_alloc | apply pw_below_drewN | apply below_drew1 | refine below_set ?_ GE101.out | refine below_set ?_ GE102.out | refine below_set ?_ GE104.out) | exact HB.out)) hb); have n4_ := Aside0.mk (hbox); have n5_ := Aside0.mk ((by rw [hg]; exact (below_size (by repeat (first | (with_reducible first | exact HB.out | apply below_alloc | apply pw_below_drewN | apply below_drew1 | refine below_set ?_ GE101.out | refine below_set ?_ GE102.out | refine below_set ?_ GE104.out) | exact HB.out))) : w.heap.size ≤ gb108)); have n6_ := Aside0.mk ((by rw [hg]; exact (below_size (by repeat (first | (with_reducible first | exact HB.out | apply below_alloc | apply pw_below_drewN | apply below_drew1 | refine below_set ?_ GE101.out | refine below_set ?_ GE102.out | refine below_set ?_ GE104.out) | exact HB.out))) : w.heap.size ≤ gb108)); have n7_ := Aside0.mk ((by rw [hg]; exact Nat.ne_of_lt (blk_lt (g := gb101) (o := .cells #[.int .u64 a0_0, .int .u64 a0_1, .int .u64 a0_2, .int .u64 a0_3, .slice A0_4 l0_4.length c0_4, .slice (some ad103) l0_5.length c0_5] 27 (0, 0)) (by (with_reducible repeat (first | refine blk_drewN ?_ _ | refine blk_drew ?_ | refine blk_alloc ?_ _)); exact BK101.out)) : gb101 ≠ gb108)); have n8_ := Aside0.mk ((by rw [hg]; exact Nat.ne_of_gt (blk_lt (g := gb101) (o := .cells #[.int .u64 a0_0, .int .u64 a0_1, .int .u64 a0_2, .int .u64 a0_3, .slice A0_4 l0_4.length c0_4, .slice (some ad103) l0_5.length c0_5] 27 (0, 0)) (by (with_reducible repeat (first | refine blk_drewN ?_ _ | refine blk_drew ?_ | refine blk_alloc ?_ _)); exact BK101.out)) : gb108 ≠ gb101)); have n9_ := Aside0.mk ((by rw [hg]; exact Nat.ne_of_lt (blk_lt (g := gb102) (o := .cells #[.int .u64 a1_0, .int .u64 a1_1, .int .u64 a1_2, .int .u64 a1_3, .slice A1_4 l1_4.length c1_4, .slice (some ad107) l1_5.length c1_5] 27 (0, 0)) (by (with_reducible repeat (first | refine blk_drewN ?_ _ | refine blk_drew ?_ | refine blk_alloc ?_ _)); exact BK102.out)) : gb102 ≠ gb108)); have n10_ := Aside0.mk ((by rw [hg]; exact Nat.ne_of_gt (blk_lt (g := gb102) (o := .cells #[.int .u64 a1_0, .int .u64 a1_1, .int .u64 a1_2, .int .u64 a1_3, .slice A1_4 l1_4.length c1_4, .slice (some ad107) l1_5.length c1_5] 27 (0, 0)) (by (with_reducible repeat (first | refine blk_drewN ?_ _ | refine blk_drew ?_ | refine blk_alloc ?_ _)); exact BK102.out)) : gb108 ≠ gb102)); have n11_ := Aside0.mk ((by rw [hg]; exact Nat.ne_of_lt (blk_lt (g := gb104) (o := .cells #[.int .u64 ((rd_T40 l0_5 x5_2).f0), .string ((rd_T40 l0_5 x5_2).f1), .int .u64 ((rd_T40 l0_5 x5_2).f2)] 40 (0, 0)) (by (with_reducible repeat (first | refine blk_drewN ?_ _ | refine blk_drew ?_ | refine blk_alloc ?_ _)); exact BK104.out)) : gb104 ≠ gb108)); have n12_ := Aside0.mk ((by rw [hg]; exact Nat.ne_of_gt (blk_lt (g := gb104) (o := .cells #[.int .u64 ((rd_T40 l0_5 x5_2).f0), .string ((rd_T40 l0_5 x5_2).f1), .int .u64 ((rd_T40 l0_5 x5_2).f2)] 40 (0, 0)) (by (with_reducible repeat (first | refine blk_drewN ?_ _ | refine blk_drew ?_ | refine blk_alloc ?_ _)); exact BK104.out)) : gb108 ≠ gb104)); clear BK101; clear BK102; clear BK104; clear HB; have BK101 := n0_; have BK102 := n1_; have BK104 := n2_; have HB := n3_; have BK108 := n4_; have GW108 := n5_; have GE108 := n6_; have NB101_108 := n7_; have NB108_101 := n8_; have NB102_108 := n9_; have NB108_102 := n10_; have NB104_108 := n11_; have NB108_104 := n12_; clear n0_ n1_ n2_ n3_ n4_ n5_ n6_ n7_ n8_ n9_ n10_ n11_ n12_; clear hb hbox hg; have hnb108 := NB108_101.out; have hnc108 := NB101_108.out; have hnb109 := NB108_102.out; have hnc109 := NB102_108.out; have hnb110 := NB108_104.out; have hnc110 := NB104_108.out; have hcz111_0 : w107.cell? ⟨gb108, 0, none⟩ = some (.int .u64 0) := (blk_cell BK108.out 0).trans rfl; have hcz111_1 : w107.cell? ⟨gb108, 1, none⟩ = some (.string (⟨#[]⟩ : ByteArray)) := (blk_cell BK108.out 1).trans rfl; have hcz111_2 : w107.cell? ⟨gb108, 2, none⟩ = some (.int .u64 0) := (blk_cell BK108.out 2).trans rfl; have hfz111_0 := blk_frozen BK108.out 0; have hfz111_1 := blk_frozen BK108.out 1; have hfz111_2 := blk_frozen BK108.out 2; have hnb112 := NB104_101.out; have hnc112 := NB101_104.out; have hcz113_0 : w107.cell? ⟨gb104, 0, none⟩ = some (.int .u64 ((rd_T40 l0_5 x5_2).f0)) := (blk_cell BK104.out 0).trans rfl; have hcz113_1 : w107.cell? ⟨gb104, 1, none⟩ = some (.string ((rd_T40 l0_5 x5_2).f1)) := (blk_cell BK104.out 1).trans rfl; have hcz113_2 : w107.cell? ⟨gb104, 2, none⟩ = some (.int .u64 ((rd_T40 l0_5 x5_2).f2)) := (blk_cell BK104.out 2).trans rfl; have hfz113_0 := blk_frozen BK104.out 0; have hfz113_1 := blk_frozen BK104.out 1; have hfz113_2 := blk_frozen BK104.out 2))
                                go_roundg k4
                                case measure => have := HJ2.out; have := HK2.out; have := HK3.out; have := HK4.out; omega
                                case rel => exact ⟨(wrap64 (x9_4 + 1)), (by first | rfl | (simp; done) | (simp [*]; done)), H', ⟨by have := HJ2.out; have := HK2.out; have := HK3.out; have := HK4.out; omega⟩, ⟨by (with_reducible repeat (first | refine blk_drewN ?_ _ | refine blk_drew ?_ | refine blk_alloc ?_ _)); refine blk_far ?_ NB101_108.out _; (with_reducible repeat (first | refine blk_drewN ?_ _ | refine blk_drew ?_ | refine blk_alloc ?_ _)); refine blk_far ?_ NB101_108.out _; (with_reducible repeat (first | refine blk_drewN ?_ _ | refine blk_drew ?_ | refine blk_alloc ?_ _)); refine blk_far ?_ NB101_108.out _; (with_reducible repeat (first | refine blk_drewN ?_ _ | refine blk_drew ?_ | refine blk_alloc ?_ _)); exact BK101.out⟩, ⟨by (with_reducible repeat (first | refine blk_drewN ?_ _ | refine blk_drew ?_ | refine blk_alloc ?_ _)); refine blk_far ?_ NB102_108.out _; (with_reducible repeat (first | refine blk_drewN ?_ _ | refine blk_drew ?_ | refine blk_alloc ?_ _)); refine blk_far ?_ NB102_108.out _; (with_reducible repeat (first | refine blk_drewN ?_ _ | refine blk_drew ?_ | refine blk_alloc ?_ _)); refine blk_far ?_ NB102_108.out _; (with_reducible repeat (first | refine blk_drewN ?_ _ | refine blk_drew ?_ | refine blk_alloc ?_ _)); exact BK102.out⟩, ⟨by (with_reducible repeat (first | refine blk_drewN ?_ _ | refine blk_drew ?_ | refine blk_alloc ?_ _)); refine blk_far ?_ NB104_108.out _; (with_reducible repeat (first | refine blk_drewN ?_ _ | refine blk_drew ?_ | refine blk_alloc ?_ _)); refine blk_far ?_ NB104_108.out _; (with_reducible repeat (first | refine blk_drewN ?_ _ | refine blk_drew ?_ | refine blk_alloc ?_ _)); refine blk_far ?_ NB104_108.out _; (with_reducible repeat (first | refine blk_drewN ?_ _ | refine blk_drew ?_ | refine blk_alloc ?_ _)); exact BK104.out⟩, ⟨by repeat (first | (with_reducible first | exact HB.out | apply below_alloc | apply pw_below_drewN | apply below_drew1 | refine below_set ?_ GE101.out | refine below_set ?_ GE102.out | refine below_set ?_ GE104.out | refine below_set ?_ GE108.out) | exact HB.out)⟩⟩
                            · rw [if_neg c70] at H
                              exact absurd H (by simp)
                          · rw [if_neg c69] at H
                            have c69b0 : decide (x9_4 < (l1_5.length : Int)) = false := decide_eq_false c69
                            clear c69
                            have H' := Aside0.mk H
                            clear H
                            have hnb114 := NB102_101.out
                            have hnc114 := NB101_102.out
                            have hnb115 := NB102_104.out
                            have hnc115 := NB104_102.out
                            have hcz116_0 : wr.cell? ⟨gb102, 0, none⟩ = some (.int .u64 a1_0) := (blk_cell BK102.out 0).trans rfl
                            have hcz116_1 : wr.cell? ⟨gb102, 1, none⟩ = some (.int .u64 a1_1) := (blk_cell BK102.out 1).trans rfl
                            have hcz116_2 : wr.cell? ⟨gb102, 2, none⟩ = some (.int .u64 a1_2) := (blk_cell BK102.out 2).trans rfl
                            have hcz116_3 : wr.cell? ⟨gb102, 3, none⟩ = some (.int .u64 a1_3) := (blk_cell BK102.out 3).trans rfl
                            have hcz116_4 : wr.cell? ⟨gb102, 4, none⟩ = some (.slice A1_4 l1_4.length c1_4) := (blk_cell BK102.out 4).trans rfl
                            have hcz116_5 : wr.cell? ⟨gb102, 5, none⟩ = some (.slice A1_5 l1_5.length c1_5) := (blk_cell BK102.out 5).trans rfl
                            have hfz116_0 := blk_frozen BK102.out 0
                            have hfz116_1 := blk_frozen BK102.out 1
                            have hfz116_2 := blk_frozen BK102.out 2
                            have hfz116_3 := blk_frozen BK102.out 3
                            have hfz116_4 := blk_frozen BK102.out 4
                            have hfz116_5 := blk_frozen BK102.out 5
                            go_wp2
                            go_roundg k4
                            case measure => have := HJ2.out; have := HK2.out; have := HK3.out; have := HK4.out; omega
                            case rel => exact ⟨(wrap64 (x5_2 + 1)), (by first | rfl | (simp; done) | (simp [*]; done)), H', ⟨by have := HJ2.out; have := HK2.out; have := HK3.out; have := HK4.out; omega⟩, ⟨by (with_reducible repeat (first | refine blk_drewN ?_ _ | refine blk_drew ?_ | refine blk_alloc ?_ _)); exact BK101.out⟩, ⟨by (with_reducible repeat (first | refine blk_drewN ?_ _ | refine blk_drew ?_ | refine blk_alloc ?_ _)); exact BK102.out⟩, ⟨by repeat (first | (with_reducible first | exact HB.out | apply below_alloc | apply pw_below_drewN | apply below_drew1 | refine below_set ?_ GE101.out | refine below_set ?_ GE102.out | refine below_set ?_ GE104.out) | exact HB.out)⟩⟩
              · rw [if_neg c14] at H
                exact absurd H (by simp)
            · rw [if_neg c13] at H
              have c13b0 : decide (x5_2 < (l0_5.length : Int)) = false := decide_eq_false c13
              clear c13
              have H' := Aside0.mk H
              clear H
              have hnb117 := NB101_102.out
              have hnc117 := NB102_101.out
              have hcz118_0 : wr.cell? ⟨gb101, 0, none⟩ = some (.int .u64 a0_0) := (blk_cell BK101.out 0).trans rfl
              have hcz118_1 : wr.cell? ⟨gb101, 1, none⟩ = some (.int .u64 a0_1) := (blk_cell BK101.out 1).trans rfl
              have hcz118_2 : wr.cell? ⟨gb101, 2, none⟩ = some (.int .u64 a0_2) := (blk_cell BK101.out 2).trans rfl
              have hcz118_3 : wr.cell? ⟨gb101, 3, none⟩ = some (.int .u64 a0_3) := (blk_cell BK101.out 3).trans rfl
              have hcz118_4 : wr.cell? ⟨gb101, 4, none⟩ = some (.slice A0_4 l0_4.length c0_4) := (blk_cell BK101.out 4).trans rfl
              have hcz118_5 : wr.cell? ⟨gb101, 5, none⟩ = some (.slice A0_5 l0_5.length c0_5) := (blk_cell BK101.out 5).trans rfl
              have hfz118_0 := blk_frozen BK101.out 0
              have hfz118_1 := blk_frozen BK101.out 1
              have hfz118_2 := blk_frozen BK101.out 2
              have hfz118_3 := blk_frozen BK101.out 3
              have hfz118_4 := blk_frozen BK101.out 4
              have hfz118_5 := blk_frozen BK101.out 5
              go_wp2
              go_loopg [11] k2 (fun kq v11 w' => ∃ (x11_3 : Int), v11 = .int .i64 x11_3 ∧ Aside0 (ferruleref21_Ahead.l3 kq x11_3 a0_0 a0_1 a0_2 a0_3 l0_4 l0_5 a1_0 a1_1 a1_2 a1_3 l1_4 l1_5 = some r) ∧ Aside0 (kq ≤ k2) ∧ Aside0 (w'.heap[gb101]? = some (.cells #[.int .u64 a0_0, .int .u64 a0_1, .int .u64 a0_2, .int .u64 a0_3, (.slice A0_4 l0_4.length c0_4), (.slice A0_5 l0_5.length c0_5)] 27 (0, 0))) ∧ Aside0 (w'.heap[gb102]? = some (.cells #[.int .u64 a1_0, .int .u64 a1_1, .int .u64 a1_2, .int .u64 a1_3, (.slice A1_4 l1_4.length c1_4), (.slice A1_5 l1_5.length c1_5)] 27 (0, 0))) ∧ Aside0 (Below w.heap.size w w'))
              case atStart => exact ⟨(0), (by first | rfl | (simp; done) | (simp [*]; done)), H', ⟨Nat.le_refl _⟩, ⟨by (with_reducible repeat (first | refine blk_drewN ?_ _ | refine blk_drew ?_ | refine blk_alloc ?_ _)); exact BK101.out⟩, ⟨by (with_reducible repeat (first | refine blk_drewN ?_ _ | refine blk_drew ?_ | refine blk_alloc ?_ _)); exact BK102.out⟩, ⟨by repeat (first | (with_reducible first | exact HB.out | apply below_alloc | apply pw_below_drewN | apply below_drew1 | refine below_set ?_ GE101.out | refine below_set ?_ GE102.out) | exact HB.out)⟩⟩
              case round =>
                clear H'
                try clear c1
                try clear p1
                try clear q1
                try clear hx1
                try clear c2
                try clear p2
                try clear c3
                try clear c4
                try clear c5
                try clear c6
                try clear c6b0
                try clear p6
                try clear c7
                try clear c8
                try clear c9
                try clear c10
                try clear p10
                try clear q10
                try clear hx10
                try clear c11
                try clear c12
                try clear c13
                try clear c13b0
                try clear c14
                try clear c14b0
                try clear c15
                try clear c18
                try clear c19
                try clear c21
                try clear c21b0
                try clear c22
                try clear c22b0
                try clear c23
                try clear c23b0
                try clear c23b1
                try clear c24
                try clear c24b0
                try clear c24b1
                try clear c25
                try clear c25b0
                try clear c26
                try clear c27
                try clear c30
                try clear c31
                try clear c32
                try clear c34
                try clear c36
                try clear c37
                try clear c40
                try clear c41
                try clear c42
                try clear c44
                try clear c46
                try clear c47
                try clear c50
                try clear c51
                try clear c52
                try clear c54
                try clear c56
                try clear c57
                try clear c60
                try clear c61
                try clear c62
                try clear c64
                try clear p64
                try clear c66
                try clear c67
                try clear c69
                try clear c69b0
                try clear c70
                try clear c70b0
                try clear c71
                try clear c71b0
                try clear c71b1
                try clear c72
                try clear c72b0
                try clear c72b1
                try clear c73
                try clear c73b0
                try clear c74
                try clear c75
                try clear c78
                try clear c79
                try clear c80
                try clear c82
                try clear c84
                try clear c85
                try clear c88
                try clear c89
                try clear c90
                try clear c92
                try clear c94
                try clear c95
                try clear c98
                try clear c99
                try clear c100
                try clear c102
                try clear p103
                try clear q103
                try clear hx103
                try clear c104
                try clear c105
                try clear p105
                try clear q105
                try clear hx105
                try clear p107
                try clear q107
                try clear hx107
                try clear c108
                try clear c109
                try clear c110
                try clear c112
                try clear c114
                try clear c115
                try clear c117
                try clear hcz101_0
                try clear hcz101_1
                try clear hcz101_2
                try clear hcz103_0
                try clear hcz103_1
                try clear hcz103_2
                try clear hcz106_0
                try clear hcz106_1
                try clear hcz106_2
                try clear hcz106_3
                try clear hcz106_4
                try clear hcz106_5
                try clear hcz111_0
                try clear hcz111_1
                try clear hcz111_2
                try clear hcz113_0
                try clear hcz113_1
                try clear hcz113_2
                try clear hcz116_0
                try clear hcz116_1
                try clear hcz116_2
                try clear hcz116_3
                try clear hcz116_4
                try clear hcz116_5
                try clear hcz118_0
                try clear hcz118_1
                try clear hcz118_2
                try clear hcz118_3
                try clear hcz118_4
                try clear hcz118_5
                try clear hcz11_0
                try clear hcz11_1
                try clear hcz11_2
                try clear hcz11_3
                try clear hcz11_4
                try clear hcz11_5
                try clear hcz16_0
                try clear hcz16_1
                try clear hcz16_2
                try clear hcz16_3
                try clear hcz16_4
                try clear hcz16_5
                try clear hcz20_0
                try clear hcz20_1
                try clear hcz20_2
                try clear hcz28_0
                try clear hcz28_1
                try clear hcz28_2
                try clear hcz28_3
                try clear hcz28_4
                try clear hcz28_5
                try clear hcz33_0
                try clear hcz33_1
                try clear hcz33_2
                try clear hcz35_0
                try clear hcz35_1
                try clear hcz35_2
                try clear hcz38_0
                try clear hcz38_1
                try clear hcz38_2
                try clear hcz38_3
                try clear hcz38_4
                try clear hcz38_5
                try clear hcz43_0
                try clear hcz43_1
                try clear hcz43_2
                try clear hcz45_0
                try clear hcz45_1
                try clear hcz45_2
                try clear hcz48_0
                try clear hcz48_1
                try clear hcz48_2
                try clear hcz48_3
                try clear hcz48_4
                try clear hcz48_5
                try clear hcz53_0
                try clear hcz53_1
                try clear hcz53_2
                try clear hcz55_0
                try clear hcz55_1
                try clear hcz55_2
                try clear hcz58_0
                try clear hcz58_1
                try clear hcz58_2
                try clear hcz58_3
                try clear hcz58_4
                try clear hcz58_5
                try clear hcz63_0
                try clear hcz63_1
                try clear hcz63_2
                try clear hcz65_0
                try clear hcz65_1
                try clear hcz65_2
                try clear hcz68_0
                try clear hcz68_1
                try clear hcz68_2
                try clear hcz68_3
                try clear hcz68_4
                try clear hcz68_5
                try clear hcz76_0
                try clear hcz76_1
                try clear hcz76_2
                try clear hcz76_3
                try clear hcz76_4
                try clear hcz76_5
                try clear hcz81_0
                try clear hcz81_1
                try clear hcz81_2
                try clear hcz83_0
                try clear hcz83_1
                try clear hcz83_2
                try clear hcz86_0
                try clear hcz86_1
                try clear hcz86_2
                try clear hcz86_3
                try clear hcz86_4
                try clear hcz86_5
                try clear hcz8_0
                try clear hcz8_1
                try clear hcz8_2
                try clear hcz8_3
                try clear hcz8_4
                try clear hcz8_5
                try clear hcz91_0
                try clear hcz91_1
                try clear hcz91_2
                try clear hcz93_0
                try clear hcz93_1
                try clear hcz93_2
                try clear hcz96_0
                try clear hcz96_1
                try clear hcz96_2
                try clear hcz96_3
                try clear hcz96_4
                try clear hcz96_5
                try clear hcz9_0
                try clear hcz9_1
                try clear hcz9_2
                try clear hcz9_3
                try clear hcz9_4
                try clear hcz9_5
                try clear hfz101_0
                try clear hfz101_1
                try clear hfz101_2
                try clear hfz103_0
                try clear hfz103_1
                try clear hfz103_2
                try clear hfz106_0
                try clear hfz106_1
                try clear hfz106_2
                try clear hfz106_3
                try clear hfz106_4
                try clear hfz106_5
                try clear hfz111_0
                try clear hfz111_1
                try clear hfz111_2
                try clear hfz113_0
                try clear hfz113_1
                try clear hfz113_2
                try clear hfz116_0
                try clear hfz116_1
                try clear hfz116_2
                try clear hfz116_3
                try clear hfz116_4
                try clear hfz116_5
                try clear hfz118_0
                try clear hfz118_1
                try clear hfz118_2
                try clear hfz118_3
                try clear hfz118_4
                try clear hfz118_5
                try clear hfz11_0
                try clear hfz11_1
                try clear hfz11_2
                try clear hfz11_3
                try clear hfz11_4
                try clear hfz11_5
                try clear hfz16_0
                try clear hfz16_1
                try clear hfz16_2
                try clear hfz16_3
                try clear hfz16_4
                try clear hfz16_5
                try clear hfz20_0
                try clear hfz20_1
                try clear hfz20_2
                try clear hfz28_0
                try clear hfz28_1
                try clear hfz28_2
                try clear hfz28_3
                try clear hfz28_4
                try clear hfz28_5
                try clear hfz33_0
                try clear hfz33_1
                try clear hfz33_2
                try clear hfz35_0
                try clear hfz35_1
                try clear hfz35_2
                try clear hfz38_0
                try clear hfz38_1
                try clear hfz38_2
                try clear hfz38_3
                try clear hfz38_4
                try clear hfz38_5
                try clear hfz43_0
                try clear hfz43_1
                try clear hfz43_2
                try clear hfz45_0
                try clear hfz45_1
                try clear hfz45_2
                try clear hfz48_0
                try clear hfz48_1
                try clear hfz48_2
                try clear hfz48_3
                try clear hfz48_4
                try clear hfz48_5
                try clear hfz53_0
                try clear hfz53_1
                try clear hfz53_2
                try clear hfz55_0
                try clear hfz55_1
                try clear hfz55_2
                try clear hfz58_0
                try clear hfz58_1
                try clear hfz58_2
                try clear hfz58_3
                try clear hfz58_4
                try clear hfz58_5
                try clear hfz63_0
                try clear hfz63_1
                try clear hfz63_2
                try clear hfz65_0
                try clear hfz65_1
                try clear hfz65_2
                try clear hfz68_0
                try clear hfz68_1
                try clear hfz68_2
                try clear hfz68_3
                try clear hfz68_4
                try clear hfz68_5
                try clear hfz76_0
                try clear hfz76_1
                try clear hfz76_2
                try clear hfz76_3
                try clear hfz76_4
                try clear hfz76_5
                try clear hfz81_0
                try clear hfz81_1
                try clear hfz81_2
                try clear hfz83_0
                try clear hfz83_1
                try clear hfz83_2
                try clear hfz86_0
                try clear hfz86_1
                try clear hfz86_2
                try clear hfz86_3
                try clear hfz86_4
                try clear hfz86_5
                try clear hfz8_0
                try clear hfz8_1
                try clear hfz8_2
                try clear hfz8_3
                try clear hfz8_4
                try clear hfz8_5
                try clear hfz91_0
                try clear hfz91_1
                try clear hfz91_2
                try clear hfz93_0
                try clear hfz93_1
                try clear hfz93_2
                try clear hfz96_0
                try clear hfz96_1
                try clear hfz96_2
                try clear hfz96_3
                try clear hfz96_4
                try clear hfz96_5
                try clear hfz9_0
                try clear hfz9_1
                try clear hfz9_2
                try clear hfz9_3
                try clear hfz9_4
                try clear hfz9_5
                try clear hx103_0
                try clear hx103_1
                try clear hx103_2
                try clear hx105_0
                try clear hx105_1
                try clear hx105_2
                try clear hx107_0
                try clear hx107_1
                try clear hx107_2
                try clear p1
                try clear p10
                try clear p103
                try clear p105
                try clear p107
                try clear p2
                try clear p6
                try clear p64
                try clear q1
                try clear q10
                try clear q103
                try clear q105
                try clear q107
                obtain ⟨x11_3, rfl, HA, HK3, BK101, BK102, HB⟩ := hrel
                cases gk with
                | zero => exact absurd HA.out (by simp [ferruleref21_Ahead.l3])
                | succ k3 =>
                  have H := HA.out
                  clear HA
                  simp only [ferruleref21_Ahead.l3] at H
                  by_cases c119 : x11_3 < (l0_4.length : Int)
                  · rw [if_pos c119] at H
                    have c119b0 : decide (x11_3 < (l0_4.length : Int)) = true := decide_eq_true c119
                    clear c119
                    by_cases c120 : 0 ≤ x11_3
                    · rw [if_pos c120] at H
                      have c120b0 : decide (0 ≤ x11_3) = true := decide_eq_true c120
                      clear c120
                      have H' := Aside0.mk H
                      clear H
                      have hnb121 := NB101_102.out
                      have hnc121 := NB102_101.out
                      have hcz122_0 : wr.cell? ⟨gb101, 0, none⟩ = some (.int .u64 a0_0) := (blk_cell BK101.out 0).trans rfl
                      have hcz122_1 : wr.cell? ⟨gb101, 1, none⟩ = some (.int .u64 a0_1) := (blk_cell BK101.out 1).trans rfl
                      have hcz122_2 : wr.cell? ⟨gb101, 2, none⟩ = some (.int .u64 a0_2) := (blk_cell BK101.out 2).trans rfl
                      have hcz122_3 : wr.cell? ⟨gb101, 3, none⟩ = some (.int .u64 a0_3) := (blk_cell BK101.out 3).trans rfl
                      have hcz122_4 : wr.cell? ⟨gb101, 4, none⟩ = some (.slice A0_4 l0_4.length c0_4) := (blk_cell BK101.out 4).trans rfl
                      have hcz122_5 : wr.cell? ⟨gb101, 5, none⟩ = some (.slice A0_5 l0_5.length c0_5) := (blk_cell BK101.out 5).trans rfl
                      have hfz122_0 := blk_frozen BK101.out 0
                      have hfz122_1 := blk_frozen BK101.out 1
                      have hfz122_2 := blk_frozen BK101.out 2
                      have hfz122_3 := blk_frozen BK101.out 3
                      have hfz122_4 := blk_frozen BK101.out 4
                      have hfz122_5 := blk_frozen BK101.out 5
                      have p109 : 0 ≤ (x11_3 : Int) := of_decide_eq_true (by first | (with_reducible assumption) | assumption)
                      have q109 : x11_3 < (l0_4.length : Int) := of_decide_eq_true (by first | (with_reducible assumption) | assumption)
                      obtain ⟨ad109, e109, hx109_0, hx109_1, hx109_2⟩ := at_T40 HR0_4.out x11_3 p109 q109
                      cases e109
                      replace hx109_0 := (HB.out.cell (World.block_lt_of_cell? w _ hx109_0)).trans hx109_0
                      replace hx109_1 := (HB.out.cell (World.block_lt_of_cell? w _ hx109_1)).trans hx109_1
                      replace hx109_2 := (HB.out.cell (World.block_lt_of_cell? w _ hx109_2)).trans hx109_2
                      replace p109 := eq_true p109
                      replace q109 := eq_true q109
                      go_wp2_with (first | ((with_reducible refine gate_dst (N := 12) rfl ?_); refine box_event ?hg (N := 12) ?hd (cs := #[.int .u64 0, .string (⟨#[]⟩ : ByteArray), .int .u64 0]) (t := 40) ?hr ?_; (case hd => rfl); (case hg => rfl); (case hr => first | (go_simp; done) | (go_simp; rfl)); intro gb110 hg w123 hbox hb; have n0_ := Aside0.mk (blk_below (g := gb101) (o := .cells #[.int .u64 a0_0, .int .u64 a0_1, .int .u64 a0_2, .int .u64 a0_3, .slice (some ad109) l0_4.length c0_4, .slice A0_5 l0_5.length c0_5] 27 (0, 0)) (by (with_reducible repeat (first | refine blk_drewN ?_ _ | refine blk_drew ?_ | refine blk_alloc ?_ _)); exact BK101.out) hb); have n1_ := Aside0.mk (blk_below (g := gb102) (o := .cells #[.int .u64 a1_0, .int .u64 a1_1, .int .u64 a1_2, .int .u64 a1_3, .slice A1_4 l1_4.length c1_4, .slice A1_5 l1_5.length c1_5] 27 (0, 0)) (by (with_reducible repeat (first | refine blk_drewN ?_ _ | refine blk_drew ?_ | refine blk_alloc ?_ _)); exact BK102.out) hb); have n2_ := Aside0.mk (below_step (by repeat (first | (with_reducible first | exact HB.out | apply below_alloc | apply pw_below_drewN | apply below_drew1 | refine below_set ?_ GE101.out | refine below_set ?_ GE102.out) | exact HB.out)) hb); have n3_ := Aside0.mk (hbox); have n4_ := Aside0.mk ((by rw [hg]; exact (below_size (by repeat (first | (with_reducible first | exact HB.out | apply below_alloc | apply pw_below_drewN | apply below_drew1 | refine below_set ?_ GE101.out | refine below_set ?_ GE102.out) | exact HB.out))) : w.heap.size ≤ gb110)); have n5_ := Aside0.mk ((by rw [hg]; exact (below_size (by repeat (first | (with_reducible first | exact HB.out | apply below_alloc | apply pw_below_drewN | apply below_drew1 | refine below_set ?_ GE101.out | refine below_set ?_ GE102.out) | exact HB.out))) : w.heap.size ≤ gb110)); have n6_ := Aside0.mk ((by rw [hg]; exact Nat.ne_of_lt (blk_lt (g := gb101) (o := .cells #[.int .u64 a0_0, .int .u64 a0_1, .int .u64 a0_2, .int .u64 a0_3, .slice (some ad109) l0_4.length c0_4, .slice A0_5 l0_5.length c0_5] 27 (0, 0)) (by (with_reducible repeat (first | refine blk_drewN ?_ _ | refine blk_drew ?_ | refine blk_alloc ?_ _)); exact BK101.out)) : gb101 ≠ gb110)); have n7_ := Aside0.mk ((by rw [hg]; exact Nat.ne_of_gt (blk_lt (g := gb101) (o := .cells #[.int .u64 a0_0, .int .u64 a0_1, .int .u64 a0_2, .int .u64 a0_3, .slice (some ad109) l0_4.length c0_4, .slice A0_5 l0_5.length c0_5] 27 (0, 0)) (by (with_reducible repeat (first | refine blk_drewN ?_ _ | refine blk_drew ?_ | refine blk_alloc ?_ _)); exact BK101.out)) : gb110 ≠ gb101)); have n8_ := Aside0.mk ((by rw [hg]; exact Nat.ne_of_lt (blk_lt (g := gb102) (o := .cells #[.int .u64 a1_0, .int .u64 a1_1, .int .u64 a1_2, .int .u64 a1_3, .slice A1_4 l1_4.length c1_4, .slice A1_5 l1_5.length c1_5] 27 (0, 0)) (by (with_reducible repeat (first | refine blk_drewN ?_ _ | refine blk_drew ?_ | refine blk_alloc ?_ _)); exact BK102.out)) : gb102 ≠ gb110)); have n9_ := Aside0.mk ((by rw [hg]; exact Nat.ne_of_gt (blk_lt (g := gb102) (o := .cells #[.int .u64 a1_0, .int .u64 a1_1, .int .u64 a1_2, .int .u64 a1_3, .slice A1_4 l1_4.length c1_4, .slice A1_5 l1_5.length c1_5] 27 (0, 0)) (by (with_reducible repeat (first | refine blk_drewN ?_ _ | refine blk_drew ?_ | refine blk_alloc ?_ _)); exact BK102.out)) : gb110 ≠ gb102)); clear BK101; clear BK102; clear HB; have BK101 := n0_; have BK102 := n1_; have HB := n2_; have BK110 := n3_; have GW110 := n4_; have GE110 := n5_; have NB101_110 := n6_; have NB110_101 := n7_; have NB102_110 := n8_; have NB110_102 := n9_; clear n0_ n1_ n2_ n3_ n4_ n5_ n6_ n7_ n8_ n9_; clear hb hbox hg; have hnb124 := NB110_101.out; have hnc124 := NB101_110.out; have hnb125 := NB110_102.out; have hnc125 := NB102_110.out; have hcz126_0 : w123.cell? ⟨gb110, 0, none⟩ = some (.int .u64 0) := (blk_cell BK110.out 0).trans rfl; have hcz126_1 : w123.cell? ⟨gb110, 1, none⟩ = some (.string (⟨#[]⟩ : ByteArray)) := (blk_cell BK110.out 1).trans rfl; have hcz126_2 : w123.cell? ⟨gb110, 2, none⟩ = some (.int .u64 0) := (blk_cell BK110.out 2).trans rfl; have hfz126_0 := blk_frozen BK110.out 0; have hfz126_1 := blk_frozen BK110.out 1; have hfz126_2 := blk_frozen BK110.out 2))
                      go_loopg [13] k3 (fun kq v13 w' => ∃ (x13_4 : Int), v13 = .int .i64 x13_4 ∧ Aside0 (ferruleref21_Ahead.l4 kq x11_3 x13_4 a0_0 a0_1 a0_2 a0_3 l0_4 l0_5 a1_0 a1_1 a1_2 a1_3 l1_4 l1_5 ((rd_T40 l0_4 x11_3).f0) ((rd_T40 l0_4 x11_3).f1) ((rd_T40 l0_4 x11_3).f2) = some r) ∧ Aside0 (kq ≤ k3) ∧ Aside0 (w'.heap[gb101]? = some (.cells #[.int .u64 a0_0, .int .u64 a0_1, .int .u64 a0_2, .int .u64 a0_3, (.slice (some ad109) l0_4.length c0_4), (.slice A0_5 l0_5.length c0_5)] 27 (0, 0))) ∧ Aside0 (w'.heap[gb102]? = some (.cells #[.int .u64 a1_0, .int .u64 a1_1, .int .u64 a1_2, .int .u64 a1_3, (.slice A1_4 l1_4.length c1_4), (.slice A1_5 l1_5.length c1_5)] 27 (0, 0))) ∧ Aside0 (w'.heap[gb110]? = some (.cells #[.int .u64 ((rd_T40 l0_4 x11_3).f0), .string ((rd_T40 l0_4 x11_3).f1), .int .u64 ((rd_T40 l0_4 x11_3).f2)] 40 (0, 0))) ∧ Aside0 (Below w.heap.size w w'))
                      case atStart => exact ⟨(0), (by first | rfl | (simp; done) | (simp [*]; done)), H', ⟨Nat.le_refl _⟩, ⟨by (with_reducible repeat (first | refine blk_drewN ?_ _ | refine blk_drew ?_ | refine blk_alloc ?_ _)); refine blk_far ?_ NB101_110.out _; (with_reducible repeat (first | refine blk_drewN ?_ _ | refine blk_drew ?_ | refine blk_alloc ?_ _)); refine blk_far ?_ NB101_110.out _; (with_reducible repeat (first | refine blk_drewN ?_ _ | refine blk_drew ?_ | refine blk_alloc ?_ _)); refine blk_far ?_ NB101_110.out _; (with_reducible repeat (first | refine blk_drewN ?_ _ | refine blk_drew ?_ | refine blk_alloc ?_ _)); exact BK101.out⟩, ⟨by (with_reducible repeat (first | refine blk_drewN ?_ _ | refine blk_drew ?_ | refine blk_alloc ?_ _)); refine blk_far ?_ NB102_110.out _; (with_reducible repeat (first | refine blk_drewN ?_ _ | refine blk_drew ?_ | refine blk_alloc ?_ _)); refine blk_far ?_ NB102_110.out _; (with_reducible repeat (first | refine blk_drewN ?_ _ | refine blk_drew ?_ | refine blk_alloc ?_ _)); refine blk_far ?_ NB102_110.out _; (with_reducible repeat (first | refine blk_drewN ?_ _ | refine blk_drew ?_ | refine blk_alloc ?_ _)); exact BK102.out⟩, ⟨by (with_reducible repeat (first | refine blk_drewN ?_ _ | refine blk_drew ?_ | refine blk_alloc ?_ _)); refine blk_put (cs := #[.int .u64 ((rd_T40 l0_4 x11_3).f0), .string ((rd_T40 l0_4 x11_3).f1), .int .u64 0]) ?_ 2 _ rfl; (with_reducible repeat (first | refine blk_drewN ?_ _ | refine blk_drew ?_ | refine blk_alloc ?_ _)); refine blk_put (cs := #[.int .u64 ((rd_T40 l0_4 x11_3).f0), .string (⟨#[]⟩ : ByteArray), .int .u64 0]) ?_ 1 _ rfl; (with_reducible repeat (first | refine blk_drewN ?_ _ | refine blk_drew ?_ | refine blk_alloc ?_ _)); refine blk_put (cs := #[.int .u64 0, .string (⟨#[]⟩ : ByteArray), .int .u64 0]) ?_ 0 _ rfl; (with_reducible repeat (first | refine blk_drewN ?_ _ | refine blk_drew ?_ | refine blk_alloc ?_ _)); exact BK110.out⟩, ⟨by repeat (first | (with_reducible first | exact HB.out | apply below_alloc | apply pw_below_drewN | apply below_drew1 | refine below_set ?_ GE101.out | refine below_set ?_ GE102.out | refine below_set ?_ GE110.out) | exact HB.out)⟩⟩
                      case round =>
                        clear H'
                        try clear c1
                        try clear p1
                        try clear q1
                        try clear hx1
                        try clear c2
                        try clear p2
                        try clear c3
                        try clear c4
                        try clear c5
                        try clear c6
                        try clear c6b0
                        try clear p6
                        try clear c7
                        try clear c8
                        try clear c9
                        try clear c10
                        try clear p10
                        try clear q10
                        try clear hx10
                        try clear c11
                        try clear c12
                        try clear c13
                        try clear c13b0
                        try clear c14
                        try clear c14b0
                        try clear c15
                        try clear c18
                        try clear c19
                        try clear c21
                        try clear c21b0
                        try clear c22
                        try clear c22b0
                        try clear c23
                        try clear c23b0
                        try clear c23b1
                        try clear c24
                        try clear c24b0
                        try clear c24b1
                        try clear c25
                        try clear c25b0
                        try clear c26
                        try clear c27
                        try clear c30
                        try clear c31
                        try clear c32
                        try clear c34
                        try clear c36
                        try clear c37
                        try clear c40
                        try clear c41
                        try clear c42
                        try clear c44
                        try clear c46
                        try clear c47
                        try clear c50
                        try clear c51
                        try clear c52
                        try clear c54
                        try clear c56
                        try clear c57
                        try clear c60
                        try clear c61
                        try clear c62
                        try clear c64
                        try clear p64
                        try clear c66
                        try clear c67
                        try clear c69
                        try clear c69b0
                        try clear c70
                        try clear c70b0
                        try clear c71
                        try clear c71b0
                        try clear c71b1
                        try clear c72
                        try clear c72b0
                        try clear c72b1
                        try clear c73
                        try clear c73b0
                        try clear c74
                        try clear c75
                        try clear c78
                        try clear c79
                        try clear c80
                        try clear c82
                        try clear c84
                        try clear c85
                        try clear c88
                        try clear c89
                        try clear c90
                        try clear c92
                        try clear c94
                        try clear c95
                        try clear c98
                        try clear c99
                        try clear c100
                        try clear c102
                        try clear p103
                        try clear q103
                        try clear hx103
                        try clear c104
                        try clear c105
                        try clear p105
                        try clear q105
                        try clear hx105
                        try clear p107
                        try clear q107
                        try clear hx107
                        try clear c108
                        try clear c109
                        try clear p109
                        try clear q109
                        try clear hx109
                        try clear c110
                        try clear c112
                        try clear c114
                        try clear c115
                        try clear c117
                        try clear c119
                        try clear c119b0
                        try clear c120
                        try clear c120b0
                        try clear c121
                        try clear c124
                        try clear c125
                        try clear hcz101_0
                        try clear hcz101_1
                        try clear hcz101_2
                        try clear hcz103_0
                        try clear hcz103_1
                        try clear hcz103_2
                        try clear hcz106_0
                        try clear hcz106_1
                        try clear hcz106_2
                        try clear hcz106_3
                        try clear hcz106_4
                        try clear hcz106_5
                        try clear hcz111_0
                        try clear hcz111_1
                        try clear hcz111_2
                        try clear hcz113_0
                        try clear hcz113_1
                        try clear hcz113_2
                        try clear hcz116_0
                        try clear hcz116_1
                        try clear hcz116_2
                        try clear hcz116_3
                        try clear hcz116_4
                        try clear hcz116_5
                        try clear hcz118_0
                        try clear hcz118_1
                        try clear hcz118_2
                        try clear hcz118_3
                        try clear hcz118_4
                        try clear hcz118_5
                        try clear hcz11_0
                        try clear hcz11_1
                        try clear hcz11_2
                        try clear hcz11_3
                        try clear hcz11_4
                        try clear hcz11_5
                        try clear hcz122_0
                        try clear hcz122_1
                        try clear hcz122_2
                        try clear hcz122_3
                        try clear hcz122_4
                        try clear hcz122_5
                        try clear hcz126_0
                        try clear hcz126_1
                        try clear hcz126_2
                        try clear hcz16_0
                        try clear hcz16_1
                        try clear hcz16_2
                        try clear hcz16_3
                        try clear hcz16_4
                        try clear hcz16_5
                        try clear hcz20_0
                        try clear hcz20_1
                        try clear hcz20_2
                        try clear hcz28_0
                        try clear hcz28_1
                        try clear hcz28_2
                        try clear hcz28_3
                        try clear hcz28_4
                        try clear hcz28_5
                        try clear hcz33_0
                        try clear hcz33_1
                        try clear hcz33_2
                        try clear hcz35_0
                        try clear hcz35_1
                        try clear hcz35_2
                        try clear hcz38_0
                        try clear hcz38_1
                        try clear hcz38_2
                        try clear hcz38_3
                        try clear hcz38_4
                        try clear hcz38_5
                        try clear hcz43_0
                        try clear hcz43_1
                        try clear hcz43_2
                        try clear hcz45_0
                        try clear hcz45_1
                        try clear hcz45_2
                        try clear hcz48_0
                        try clear hcz48_1
                        try clear hcz48_2
                        try clear hcz48_3
                        try clear hcz48_4
                        try clear hcz48_5
                        try clear hcz53_0
                        try clear hcz53_1
                        try clear hcz53_2
                        try clear hcz55_0
                        try clear hcz55_1
                        try clear hcz55_2
                        try clear hcz58_0
                        try clear hcz58_1
                        try clear hcz58_2
                        try clear hcz58_3
                        try clear hcz58_4
                        try clear hcz58_5
                        try clear hcz63_0
                        try clear hcz63_1
                        try clear hcz63_2
                        try clear hcz65_0
                        try clear hcz65_1
                        try clear hcz65_2
                        try clear hcz68_0
                        try clear hcz68_1
                        try clear hcz68_2
                        try clear hcz68_3
                        try clear hcz68_4
                        try clear hcz68_5
                        try clear hcz76_0
                        try clear hcz76_1
                        try clear hcz76_2
                        try clear hcz76_3
                        try clear hcz76_4
                        try clear hcz76_5
                        try clear hcz81_0
                        try clear hcz81_1
                        try clear hcz81_2
                        try clear hcz83_0
                        try clear hcz83_1
                        try clear hcz83_2
                        try clear hcz86_0
                        try clear hcz86_1
                        try clear hcz86_2
                        try clear hcz86_3
                        try clear hcz86_4
                        try clear hcz86_5
                        try clear hcz8_0
                        try clear hcz8_1
                        try clear hcz8_2
                        try clear hcz8_3
                        try clear hcz8_4
                        try clear hcz8_5
                        try clear hcz91_0
                        try clear hcz91_1
                        try clear hcz91_2
                        try clear hcz93_0
                        try clear hcz93_1
                        try clear hcz93_2
                        try clear hcz96_0
                        try clear hcz96_1
                        try clear hcz96_2
                        try clear hcz96_3
                        try clear hcz96_4
                        try clear hcz96_5
                        try clear hcz9_0
                        try clear hcz9_1
                        try clear hcz9_2
                        try clear hcz9_3
                        try clear hcz9_4
                        try clear hcz9_5
                        try clear hfz101_0
                        try clear hfz101_1
                        try clear hfz101_2
                        try clear hfz103_0
                        try clear hfz103_1
                        try clear hfz103_2
                        try clear hfz106_0
                        try clear hfz106_1
                        try clear hfz106_2
                        try clear hfz106_3
                        try clear hfz106_4
                        try clear hfz106_5
                        try clear hfz111_0
                        try clear hfz111_1
                        try clear hfz111_2
                        try clear hfz113_0
                        try clear hfz113_1
                        try clear hfz113_2
                        try clear hfz116_0
                        try clear hfz116_1
                        try clear hfz116_2
                        try clear hfz116_3
                        try clear hfz116_4
                        try clear hfz116_5
                        try clear hfz118_0
                        try clear hfz118_1
                        try clear hfz118_2
                        try clear hfz118_3
                        try clear hfz118_4
                        try clear hfz118_5
                        try clear hfz11_0
                        try clear hfz11_1
                        try clear hfz11_2
                        try clear hfz11_3
                        try clear hfz11_4
                        try clear hfz11_5
                        try clear hfz122_0
                        try clear hfz122_1
                        try clear hfz122_2
                        try clear hfz122_3
                        try clear hfz122_4
                        try clear hfz122_5
                        try clear hfz126_0
                        try clear hfz126_1
                        try clear hfz126_2
                        try clear hfz16_0
                        try clear hfz16_1
                        try clear hfz16_2
                        try clear hfz16_3
                        try clear hfz16_4
                        try clear hfz16_5
                        try clear hfz20_0
                        try clear hfz20_1
                        try clear hfz20_2
                        try clear hfz28_0
                        try clear hfz28_1
                        try clear hfz28_2
                        try clear hfz28_3
                        try clear hfz28_4
                        try clear hfz28_5
                        try clear hfz33_0
                        try clear hfz33_1
                        try clear hfz33_2
                        try clear hfz35_0
                        try clear hfz35_1
                        try clear hfz35_2
                        try clear hfz38_0
                        try clear hfz38_1
                        try clear hfz38_2
                        try clear hfz38_3
                        try clear hfz38_4
                        try clear hfz38_5
                        try clear hfz43_0
                        try clear hfz43_1
                        try clear hfz43_2
                        try clear hfz45_0
                        try clear hfz45_1
                        try clear hfz45_2
                        try clear hfz48_0
                        try clear hfz48_1
                        try clear hfz48_2
                        try clear hfz48_3
                        try clear hfz48_4
                        try clear hfz48_5
                        try clear hfz53_0
                        try clear hfz53_1
                        try clear hfz53_2
                        try clear hfz55_0
                        try clear hfz55_1
                        try clear hfz55_2
                        try clear hfz58_0
                        try clear hfz58_1
                        try clear hfz58_2
                        try clear hfz58_3
                        try clear hfz58_4
                        try clear hfz58_5
                        try clear hfz63_0
                        try clear hfz63_1
                        try clear hfz63_2
                        try clear hfz65_0
                        try clear hfz65_1
                        try clear hfz65_2
                        try clear hfz68_0
                        try clear hfz68_1
                        try clear hfz68_2
                        try clear hfz68_3
                        try clear hfz68_4
                        try clear hfz68_5
                        try clear hfz76_0
                        try clear hfz76_1
                        try clear hfz76_2
                        try clear hfz76_3
                        try clear hfz76_4
                        try clear hfz76_5
                        try clear hfz81_0
                        try clear hfz81_1
                        try clear hfz81_2
                        try clear hfz83_0
                        try clear hfz83_1
                        try clear hfz83_2
                        try clear hfz86_0
                        try clear hfz86_1
                        try clear hfz86_2
                        try clear hfz86_3
                        try clear hfz86_4
                        try clear hfz86_5
                        try clear hfz8_0
                        try clear hfz8_1
                        try clear hfz8_2
                        try clear hfz8_3
                        try clear hfz8_4
                        try clear hfz8_5
                        try clear hfz91_0
                        try clear hfz91_1
                        try clear hfz91_2
                        try clear hfz93_0
                        try clear hfz93_1
                        try clear hfz93_2
                        try clear hfz96_0
                        try clear hfz96_1
                        try clear hfz96_2
                        try clear hfz96_3
                        try clear hfz96_4
                        try clear hfz96_5
                        try clear hfz9_0
                        try clear hfz9_1
                        try clear hfz9_2
                        try clear hfz9_3
                        try clear hfz9_4
                        try clear hfz9_5
                        try clear hx103_0
                        try clear hx103_1
                        try clear hx103_2
                        try clear hx105_0
                        try clear hx105_1
                        try clear hx105_2
                        try clear hx107_0
                        try clear hx107_1
                        try clear hx107_2
                        try clear hx109_0
                        try clear hx109_1
                        try clear hx109_2
                        try clear p1
                        try clear p10
                        try clear p103
                        try clear p105
                        try clear p107
                        try clear p109
                        try clear p2
                        try clear p6
                        try clear p64
                        try clear q1
                        try clear q10
                        try clear q103
                        try clear q105
                        try clear q107
                        try clear q109
                        obtain ⟨x13_4, rfl, HA, HK4, BK101, BK102, BK110, HB⟩ := hrel
                        cases gk with
                        | zero => exact absurd HA.out (by simp [ferruleref21_Ahead.l4])
                        | succ k4 =>
                          have H := HA.out
                          clear HA
                          simp only [ferruleref21_Ahead.l4] at H
                          by_cases c127 : x13_4 < (l1_5.length : Int)
                          · rw [if_pos c127] at H
                            have c127b0 : decide (x13_4 < (l1_5.length : Int)) = true := decide_eq_true c127
                            clear c127
                            by_cases c128 : 0 ≤ x13_4
                            · rw [if_pos c128] at H
                              have c128b0 : decide (0 ≤ x13_4) = true := decide_eq_true c128
                              clear c128
                              by_cases c129 : ((rd_T40 l0_4 x11_3).f0) = ((rd_T40 l1_5 x13_4).f0)
                              · rw [if_pos c129] at H
                                have c129b0 : (((rd_T40 l0_4 x11_3).f0) == ((rd_T40 l1_5 x13_4).f0)) = true := beq_iff_eq.mpr c129
                                have c129b1 : (((rd_T40 l0_4 x11_3).f0) != ((rd_T40 l1_5 x13_4).f0)) = false := bne_eq_false_iff_eq.mpr c129
                                clear c129
                                by_cases c130 : ((rd_T40 l0_4 x11_3).f1).toList = ((rd_T40 l1_5 x13_4).f1).toList
                                · rw [if_pos c130] at H
                                  have c130b0 : (((rd_T40 l0_4 x11_3).f1).toList == ((rd_T40 l1_5 x13_4).f1).toList) = true := beq_iff_eq.mpr c130
                                  have c130b1 : (((rd_T40 l0_4 x11_3).f1).toList != ((rd_T40 l1_5 x13_4).f1).toList) = false := bne_eq_false_iff_eq.mpr c130
                                  clear c130
                                  by_cases c131 : ((rd_T40 l0_4 x11_3).f2) < ((rd_T40 l1_5 x13_4).f2)
                                  · rw [if_pos c131] at H
                                    have c131b0 : decide (((rd_T40 l0_4 x11_3).f2) < ((rd_T40 l1_5 x13_4).f2)) = true := decide_eq_true c131
                                    clear c131
                                    obtain rfl := Option.some.inj H
                                    have hnb132 := NB102_101.out
                                    have hnc132 := NB101_102.out
                                    have hnb133 := NB102_110.out
                                    have hnc133 := NB110_102.out
                                    have hcz134_0 : wr.cell? ⟨gb102, 0, none⟩ = some (.int .u64 a1_0) := (blk_cell BK102.out 0).trans rfl
                                    have hcz134_1 : wr.cell? ⟨gb102, 1, none⟩ = some (.int .u64 a1_1) := (blk_cell BK102.out 1).trans rfl
                                    have hcz134_2 : wr.cell? ⟨gb102, 2, none⟩ = some (.int .u64 a1_2) := (blk_cell BK102.out 2).trans rfl
                                    have hcz134_3 : wr.cell? ⟨gb102, 3, none⟩ = some (.int .u64 a1_3) := (blk_cell BK102.out 3).trans rfl
                                    have hcz134_4 : wr.cell? ⟨gb102, 4, none⟩ = some (.slice A1_4 l1_4.length c1_4) := (blk_cell BK102.out 4).trans rfl
                                    have hcz134_5 : wr.cell? ⟨gb102, 5, none⟩ = some (.slice A1_5 l1_5.length c1_5) := (blk_cell BK102.out 5).trans rfl
                                    have hfz134_0 := blk_frozen BK102.out 0
                                    have hfz134_1 := blk_frozen BK102.out 1
                                    have hfz134_2 := blk_frozen BK102.out 2
                                    have hfz134_3 := blk_frozen BK102.out 3
                                    have hfz134_4 := blk_frozen BK102.out 4
                                    have hfz134_5 := blk_frozen BK102.out 5
                                    have p111 : 0 ≤ (x13_4 : Int) := of_decide_eq_true (by first | (with_reducible assumption) | assumption)
                                    have q111 : x13_4 < (l1_5.length : Int) := of_decide_eq_true (by first | (with_reducible assumption) | assumption)
                                    obtain ⟨ad111, e111, hx111_0, hx111_1, hx111_2⟩ := at_T40 HR1_5.out x13_4 p111 q111
                                    cases e111
                                    replace hx111_0 := (HB.out.cell (World.block_lt_of_cell? w _ hx111_0)).trans hx111_0
                                    replace hx111_1 := (HB.out.cell (World.block_lt_of_cell? w _ hx111_1)).trans hx111_1
                                    replace hx111_2 := (HB.out.cell (World.block_lt_of_cell? w _ hx111_2)).trans hx111_2
                                    replace p111 := eq_true p111
                                    replace q111 := eq_true q111
                                    go_wp2_with (first | ((with_reducible refine gate_dst (N := 14) rfl ?_); refine box_event ?hg (N := 14) ?hd (cs := #[.int .u64 0, .string (⟨#[]⟩ : ByteArray), .int .u64 0]) (t := 40) ?hr ?_; (case hd => rfl); (case hg => rfl); (case hr => first | (go_simp; done) | (go_simp; rfl)); intro gb112 hg w135 hbox hb; have n0_ := Aside0.mk (blk_below (g := gb101) (o := .cells #[.int .u64 a0_0, .int .u64 a0_1, .int .u64 a0_2, .int .u64 a0_3, .slice (some ad109) l0_4.length c0_4, .slice A0_5 l0_5.length c0_5] 27 (0, 0)) (by (with_reducible repeat (first | refine blk_drewN ?_ _ | refine blk_drew ?_ | refine blk_alloc ?_ _)); exact BK101.out) hb); have n1_ := Aside0.mk (blk_below (g := gb102) (o := .cells #[.int .u64 a1_0, .int .u64 a1_1, .int .u64 a1_2, .int .u64 a1_3, .slice A1_4 l1_4.length c1_4, .slice (some ad111) l1_5.length c1_5] 27 (0, 0)) (by (with_reducible repeat (first | refine blk_drewN ?_ _ | refine blk_drew ?_ | refine blk_alloc ?_ _)); exact BK102.out) hb); have n2_ := Aside0.mk (blk_below (g := gb110) (o := .cells #[.int .u64 ((rd_T40 l0_4 x11_3).f0), .string ((rd_T40 l0_4 x11_3).f1), .int .u64 ((rd_T40 l0_4 x11_3).f2)] 40 (0, 0)) (by (with_reducible repeat (first | refine blk_drewN ?_ _ | refine blk_drew ?_ | refine blk_alloc ?_ _)); exact BK110.out) hb); have n3_ := Aside0.mk (below_step (by repeat (first | (with_reducible first | exact HB.out | apply below_alloc | apply pw_below_drewN | apply below_drew1 | refine below_set ?_ GE101.out | refine below_set ?_ GE102.out | refine below_set ?_ GE110.out) | exact HB.out)) hb); have n4_ := Aside0.mk (hbox); have n5_ := Aside0.mk ((by rw [hg]; exact (below_size (by repeat (first | (with_reducible first | exact HB.out | apply below_alloc | apply pw_below_drewN | apply below_drew1 | refine below_set ?_ GE101.out | refine below_set ?_ GE102.out | refine below_set ?_ GE110.out) | exact HB.out))) : w.heap.size ≤ gb112)); have n6_ := Aside0.mk ((by rw [hg]; exact (below_size (by repeat (first | (with_reducible first | exact HB.out | apply below_alloc | apply pw_below_drewN | apply below_drew1 | refine below_set ?_ GE101.out | refine below_set ?_ GE102.out | refine below_set ?_ GE110.out) | exact HB.out))) : w.heap.size ≤ gb112)); have n7_ := Aside0.mk ((by rw [hg]; exact Nat.ne_of_lt (blk_lt (g := gb101) (o := .cells #[.int .u64 a0_0, .int .u64 a0_1, .int .u64 a0_2, .int .u64 a0_3, .slice (some ad109) l0_4.length c0_4, .slice A0_5 l0_5.length c0_5] 27 (0, 0)) (by (with_reducible repeat (first | refine blk_drewN ?_ _ | refine blk_drew ?_ | refine blk_alloc ?_ _)); exact BK101.out)) : gb101 ≠ gb112)); have n8_ := Aside0.mk ((by rw [hg]; exact Nat.ne_of_gt (blk_lt (g := gb101) (o := .cells #[.int .u64 a0_0, .int .u64 a0_1, .int .u64 a0_2, .int .u64 a0_3, .slice (some ad109) l0_4.length c0_4, .slice A0_5 l0_5.length c0_5] 27 (0, 0)) (by (with_reducible repeat (first | refine blk_drewN ?_ _ | refine blk_drew ?_ | refine blk_alloc ?_ _)); exact BK101.out)) : gb112 ≠ gb101)); have n9_ := Aside0.mk ((by rw [hg]; exact Nat.ne_of_lt (blk_lt (g := gb102) (o := .cells #[.int .u64 a1_0, .int .u64 a1_1, .int .u64 a1_2, .int .u64 a1_3, .slice A1_4 l1_4.length c1_4, .slice (some ad111) l1_5.length c1_5] 27 (0, 0)) (by (with_reducible repeat (first | refine blk_drewN ?_ _ | refine blk_drew ?_ | refine blk_alloc ?_ _)); exact BK102.out)) : gb102 ≠ gb112)); have n10_ := Aside0.mk ((by rw [hg]; exact Nat.ne_of_gt (blk_lt (g := gb102) (o := .cells #[.int .u64 a1_0, .int .u64 a1_1, .int .u64 a1_2, .int .u64 a1_3, .slice A1_4 l1_4.length c1_4, .slice (some ad111) l1_5.length c1_5] 27 (0, 0)) (by (with_reducible repeat (first | refine blk_drewN ?_ _ | refine blk_drew ?_ | refine blk_alloc ?_ _)); exact BK102.out)) : gb112 ≠ gb102)); have n11_ := Aside0.mk ((by rw [hg]; exact Nat.ne_of_lt (blk_lt (g := gb110) (o := .cells #[.int .u64 ((rd_T40 l0_4 x11_3).f0), .string ((rd_T40 l0_4 x11_3).f1), .int .u64 ((rd_T40 l0_4 x11_3).f2)] 40 (0, 0)) (by (with_reducible repeat (first | refine blk_drewN ?_ _ | refine blk_drew ?_ | refine blk_alloc ?_ _)); exact BK110.out)) : gb110 ≠ gb112)); have n12_ := Aside0.mk ((by rw [hg]; exact Nat.ne_of_gt (blk_lt (g := gb110) (o := .cells #[.int .u64 ((rd_T40 l0_4 x11_3).f0), .string ((rd_T40 l0_4 x11_3).f1), .int .u64 ((rd_T40 l0_4 x11_3).f2)] 40 (0, 0)) (by (with_reducible repeat (first | refine blk_drewN ?_ _ | refine blk_drew ?_ | refine blk_alloc ?_ _)); exact BK110.out)) : gb112 ≠ gb110)); clear BK101; clear BK102; clear BK110; clear HB; have BK101 := n0_; have BK102 := n1_; have BK110 := n2_; have HB := n3_; have BK112 := n4_; have GW112 := n5_; have GE112 := n6_; have NB101_112 := n7_; have NB112_101 := n8_; have NB102_112 := n9_; have NB112_102 := n10_; have NB110_112 := n11_; have NB112_110 := n12_; clear n0_ n1_ n2_ n3_ n4_ n5_ n6_ n7_ n8_ n9_ n10_ n11_ n12_; clear hb hbox hg; have hnb136 := NB112_101.out; have hnc136 := NB101_112.out; have hnb137 := NB112_102.out; have hnc137 := NB102_112.out; have hnb138 := NB112_110.out; have hnc138 := NB110_112.out; have hcz139_0 : w135.cell? ⟨gb112, 0, none⟩ = some (.int .u64 0) := (blk_cell BK112.out 0).trans rfl; have hcz139_1 : w135.cell? ⟨gb112, 1, none⟩ = some (.string (⟨#[]⟩ : ByteArray)) := (blk_cell BK112.out 1).trans rfl; have hcz139_2 : w135.cell? ⟨gb112, 2, none⟩ = some (.int .u64 0) := (blk_cell BK112.out 2).trans rfl; have hfz139_0 := blk_frozen BK112.out 0; have hfz139_1 := blk_frozen BK112.out 1; have hfz139_2 := blk_frozen BK112.out 2; have hnb140 := NB110_101.out; have hnc140 := NB101_110.out; have hcz141_0 : w135.cell? ⟨gb110, 0, none⟩ = some (.int .u64 ((rd_T40 l0_4 x11_3).f0)) := (blk_cell BK110.out 0).trans rfl; have hcz141_1 : w135.cell? ⟨gb110, 1, none⟩ = some (.string ((rd_T40 l0_4 x11_3).f1)) := (blk_cell BK110.out 1).trans rfl; have hcz141_2 : w135.cell? ⟨gb110, 2, none⟩ = some (.int .u64 ((rd_T40 l0_4 x11_3).f2)) := (blk_cell BK110.out 2).trans rfl; have hfz141_0 := blk_frozen BK110.out 0; have hfz141_1 := blk_frozen BK110.out 1; have hfz141_2 := blk_frozen BK110.out 2))
                                    go_ret
                                    exact ⟨by first | rfl | (simp [errW_none, errW_some] <;> rfl) | (simp [*, errW_none, errW_some] <;> rfl), by repeat (first | (with_reducible first | exact HB.out | apply below_alloc | apply pw_below_drewN | apply below_drew1 | refine below_set ?_ GE101.out | refine below_set ?_ GE102.out | refine below_set ?_ GE110.out | refine below_set ?_ GE112.out) | exact HB.out)⟩
                                  · rw [if_neg c131] at H
                                    have c131b0 : decide (((rd_T40 l0_4 x11_3).f2) < ((rd_T40 l1_5 x13_4).f2)) = false := decide_eq_false c131
                                    clear c131
                                    have H' := Aside0.mk H
                                    clear H
                                    have hnb142 := NB102_101.out
                                    have hnc142 := NB101_102.out
                                    have hnb143 := NB102_110.out
                                    have hnc143 := NB110_102.out
                                    have hcz144_0 : wr.cell? ⟨gb102, 0, none⟩ = some (.int .u64 a1_0) := (blk_cell BK102.out 0).trans rfl
                                    have hcz144_1 : wr.cell? ⟨gb102, 1, none⟩ = some (.int .u64 a1_1) := (blk_cell BK102.out 1).trans rfl
                                    have hcz144_2 : wr.cell? ⟨gb102, 2, none⟩ = some (.int .u64 a1_2) := (blk_cell BK102.out 2).trans rfl
                                    have hcz144_3 : wr.cell? ⟨gb102, 3, none⟩ = some (.int .u64 a1_3) := (blk_cell BK102.out 3).trans rfl
                                    have hcz144_4 : wr.cell? ⟨gb102, 4, none⟩ = some (.slice A1_4 l1_4.length c1_4) := (blk_cell BK102.out 4).trans rfl
                                    have hcz144_5 : wr.cell? ⟨gb102, 5, none⟩ = some (.slice A1_5 l1_5.length c1_5) := (blk_cell BK102.out 5).trans rfl
                                    have hfz144_0 := blk_frozen BK102.out 0
                                    have hfz144_1 := blk_frozen BK102.out 1
                                    have hfz144_2 := blk_frozen BK102.out 2
                                    have hfz144_3 := blk_frozen BK102.out 3
                                    have hfz144_4 := blk_frozen BK102.out 4
                                    have hfz144_5 := blk_frozen BK102.out 5
                                    have p111 : 0 ≤ (x13_4 : Int) := of_decide_eq_true (by first | (with_reducible assumption) | assumption)
                                    have q111 : x13_4 < (l1_5.length : Int) := of_decide_eq_true (by first | (with_reducible assumption) | assumption)
                                    obtain ⟨ad111, e111, hx111_0, hx111_1, hx111_2⟩ := at_T40 HR1_5.out x13_4 p111 q111
                                    cases e111
                                    replace hx111_0 := (HB.out.cell (World.block_lt_of_cell? w _ hx111_0)).trans hx111_0
                                    replace hx111_1 := (HB.out.cell (World.block_lt_of_cell? w _ hx111_1)).trans hx111_1
                                    replace hx111_2 := (HB.out.cell (World.block_lt_of_cell? w _ hx111_2)).trans hx111_2
                                    replace p111 := eq_true p111
                                    replace q111 := eq_true q111
                                    go_wp2_with (first | ((with_reducible refine gate_dst (N := 14) rfl ?_); refine box_event ?hg (N := 14) ?hd (cs := #[.int .u64 0, .string (⟨#[]⟩ : ByteArray), .int .u64 0]) (t := 40) ?hr ?_; (case hd => rfl); (case hg => rfl); (case hr => first | (go_simp; done) | (go_simp; rfl)); intro gb112 hg w145 hbox hb; have n0_ := Aside0.mk (blk_below (g := gb101) (o := .cells #[.int .u64 a0_0, .int .u64 a0_1, .int .u64 a0_2, .int .u64 a0_3, .slice (some ad109) l0_4.length c0_4, .slice A0_5 l0_5.length c0_5] 27 (0, 0)) (by (with_reducible repeat (first | refine blk_drewN ?_ _ | refine blk_drew ?_ | refine blk_alloc ?_ _)); exact BK101.out) hb); have n1_ := Aside0.mk (blk_below (g := gb102) (o := .cells #[.int .u64 a1_0, .int .u64 a1_1, .int .u64 a1_2, .int .u64 a1_3, .slice A1_4 l1_4.length c1_4, .slice (some ad111) l1_5.length c1_5] 27 (0, 0)) (by (with_reducible repeat (first | refine blk_drewN ?_ _ | refine blk_drew ?_ | refine blk_alloc ?_ _)); exact BK102.out) hb); have n2_ := Aside0.mk (blk_below (g := gb110) (o := .cells #[.int .u64 ((rd_T40 l0_4 x11_3).f0), .string ((rd_T40 l0_4 x11_3).f1), .int .u64 ((rd_T40 l0_4 x11_3).f2)] 40 (0, 0)) (by (with_reducible repeat (first | refine blk_drewN ?_ _ | refine blk_drew ?_ | refine blk_alloc ?_ _)); exact BK110.out) hb); have n3_ := Aside0.mk (below_step (by repeat (first | (with_reducible first | exact HB.out | apply below_alloc | apply pw_below_drewN | apply below_drew1 | refine below_set ?_ GE101.out | refine below_set ?_ GE102.out | refine below_set ?_ GE110.out) | exact HB.out)) hb); have n4_ := Aside0.mk (hbox); have n5_ := Aside0.mk ((by rw [hg]; exact (below_size (by repeat (first | (with_reducible first | exact HB.out | apply below_alloc | apply pw_below_drewN | apply below_drew1 | refine below_set ?_ GE101.out | refine below_set ?_ GE102.out | refine below_set ?_ GE110.out) | exact HB.out))) : w.heap.size ≤ gb112)); have n6_ := Aside0.mk ((by rw [hg]; exact (below_size (by repeat (first | (with_reducible first | exact HB.out | apply below_alloc | apply pw_below_drewN | apply below_drew1 | refine below_set ?_ GE101.out | refine below_set ?_ GE102.out | refine below_set ?_ GE110.out) | exact HB.out))) : w.heap.size ≤ gb112)); have n7_ := Aside0.mk ((by rw [hg]; exact Nat.ne_of_lt (blk_lt (g := gb101) (o := .cells #[.int .u64 a0_0, .int .u64 a0_1, .int .u64 a0_2, .int .u64 a0_3, .slice (some ad109) l0_4.length c0_4, .slice A0_5 l0_5.length c0_5] 27 (0, 0)) (by (with_reducible repeat (first | refine blk_drewN ?_ _ | refine blk_drew ?_ | refine blk_alloc ?_ _)); exact BK101.out)) : gb101 ≠ gb112)); have n8_ := Aside0.mk ((by rw [hg]; exact Nat.ne_of_gt (blk_lt (g := gb101) (o := .cells #[.int .u64 a0_0, .int .u64 a0_1, .int .u64 a0_2, .int .u64 a0_3, .slice (some ad109) l0_4.length c0_4, .slice A0_5 l0_5.length c0_5] 27 (0, 0)) (by (with_reducible repeat (first | refine blk_drewN ?_ _ | refine blk_drew ?_ | refine blk_alloc ?_ _)); exact BK101.out)) : gb112 ≠ gb101)); have n9_ := Aside0.mk ((by rw [hg]; exact Nat.ne_of_lt (blk_lt (g := gb102) (o := .cells #[.int .u64 a1_0, .int .u64 a1_1, .int .u64 a1_2, .int .u64 a1_3, .slice A1_4 l1_4.length c1_4, .slice (some ad111) l1_5.length c1_5] 27 (0, 0)) (by (with_reducible repeat (first | refine blk_drewN ?_ _ | refine blk_drew ?_ | refine blk_alloc ?_ _)); exact BK102.out)) : gb102 ≠ gb112)); have n10_ := Aside0.mk ((by rw [hg]; exact Nat.ne_of_gt (blk_lt (g := gb102) (o := .cells #[.int .u64 a1_0, .int .u64 a1_1, .int .u64 a1_2, .int .u64 a1_3, .slice A1_4 l1_4.length c1_4, .slice (some ad111) l1_5.length c1_5] 27 (0, 0)) (by (with_reducible repeat (first | refine blk_drewN ?_ _ | refine blk_drew ?_ | refine blk_alloc ?_ _)); exact BK102.out)) : gb112 ≠ gb102)); have n11_ := Aside0.mk ((by rw [hg]; exact Nat.ne_of_lt (blk_lt (g := gb110) (o := .cells #[.int .u64 ((rd_T40 l0_4 x11_3).f0), .string ((rd_T40 l0_4 x11_3).f1), .int .u64 ((rd_T40 l0_4 x11_3).f2)] 40 (0, 0)) (by (with_reducible repeat (first | refine blk_drewN ?_ _ | refine blk_drew ?_ | refine blk_alloc ?_ _)); exact BK110.out)) : gb110 ≠ gb112)); have n12_ := Aside0.mk ((by rw [hg]; exact Nat.ne_of_gt (blk_lt (g := gb110) (o := .cells #[.int .u64 ((rd_T40 l0_4 x11_3).f0), .string ((rd_T40 l0_4 x11_3).f1), .int .u64 ((rd_T40 l0_4 x11_3).f2)] 40 (0, 0)) (by (with_reducible repeat (first | refine blk_drewN ?_ _ | refine blk_drew ?_ | refine blk_alloc ?_ _)); exact BK110.out)) : gb112 ≠ gb110)); clear BK101; clear BK102; clear BK110; clear HB; have BK101 := n0_; have BK102 := n1_; have BK110 := n2_; have HB := n3_; have BK112 := n4_; have GW112 := n5_; have GE112 := n6_; have NB101_112 := n7_; have NB112_101 := n8_; have NB102_112 := n9_; have NB112_102 := n10_; have NB110_112 := n11_; have NB112_110 := n12_; clear n0_ n1_ n2_ n3_ n4_ n5_ n6_ n7_ n8_ n9_ n10_ n11_ n12_; clear hb hbox hg; have hnb146 := NB112_101.out; have hnc146 := NB101_112.out; have hnb147 := NB112_102.out; have hnc147 := NB102_112.out; have hnb148 := NB112_110.out; have hnc148 := NB110_112.out; have hcz149_0 : w145.cell? ⟨gb112, 0, none⟩ = some (.int .u64 0) := (blk_cell BK112.out 0).trans rfl; have hcz149_1 : w145.cell? ⟨gb112, 1, none⟩ = some (.string (⟨#[]⟩ : ByteArray)) := (blk_cell BK112.out 1).trans rfl; have hcz149_2 : w145.cell? ⟨gb112, 2, none⟩ = some (.int .u64 0) := (blk_cell BK112.out 2).trans rfl; have hfz149_0 := blk_frozen BK112.out 0; have hfz149_1 := blk_frozen BK112.out 1; have hfz149_2 := blk_frozen BK112.out 2; have hnb150 := NB110_101.out; have hnc150 := NB101_110.out; have hcz151_0 : w145.cell? ⟨gb110, 0, none⟩ = some (.int .u64 ((rd_T40 l0_4 x11_3).f0)) := (blk_cell BK110.out 0).trans rfl; have hcz151_1 : w145.cell? ⟨gb110, 1, none⟩ = some (.string ((rd_T40 l0_4 x11_3).f1)) := (blk_cell BK110.out 1).trans rfl; have hcz151_2 : w145.cell? ⟨gb110, 2, none⟩ = some (.int .u64 ((rd_T40 l0_4 x11_3).f2)) := (blk_cell BK110.out 2).trans rfl; have hfz151_0 := blk_frozen BK110.out 0; have hfz151_1 := blk_frozen BK110.out 1; have hfz151_2 := blk_frozen BK110.out 2))
                                    go_roundg k4
                                    case measure => have := HJ2.out; have := HK2.out; have := HK3.out; have := HK4.out; omega
                                    case rel => exact ⟨(wrap64 (x13_4 + 1)), (by first | rfl | (simp; done) | (simp [*]; done)), H', ⟨by have := HJ2.out; have := HK2.out; have := HK3.out; have := HK4.out; omega⟩, ⟨by (with_reducible repeat (first | refine blk_drewN ?_ _ | refine blk_drew ?_ | refine blk_alloc ?_ _)); refine blk_far ?_ NB101_112.out _; (with_reducible repeat (first | refine blk_drewN ?_ _ | refine blk_drew ?_ | refine blk_alloc ?_ _)); refine blk_far ?_ NB101_112.out _; (with_reducible repeat (first | refine blk_drewN ?_ _ | refine blk_drew ?_ | refine blk_alloc ?_ _)); refine blk_far ?_ NB101_112.out _; (with_reducible repeat (first | refine blk_drewN ?_ _ | refine blk_drew ?_ | refine blk_alloc ?_ _)); exact BK101.out⟩, ⟨by (with_reducible repeat (first | refine blk_drewN ?_ _ | refine blk_drew ?_ | refine blk_alloc ?_ _)); refine blk_far ?_ NB102_112.out _; (with_reducible repeat (first | refine blk_drewN ?_ _ | refine blk_drew ?_ | refine blk_alloc ?_ _)); refine blk_far ?_ NB102_112.out _; (with_reducible repeat (first | refine blk_drewN ?_ _ | refine blk_drew ?_ | refine blk_alloc ?_ _)); refine blk_far ?_ NB102_112.out _; (with_reducible repeat (first | refine blk_drewN ?_ _ | refine blk_drew ?_ | refine blk_alloc ?_ _)); exact BK102.out⟩, ⟨by (with_reducible repeat (first | refine blk_drewN ?_ _ | refine blk_drew ?_ | refine blk_alloc ?_ _)); refine blk_far ?_ NB110_112.out _; (with_reducible repeat (first | refine blk_drewN ?_ _ | refine blk_drew ?_ | refine blk_alloc ?_ _)); refine blk_far ?_ NB110_112.out _; (with_reducible repeat (first | refine blk_drewN ?_ _ | refine blk_drew ?_ | refine blk_alloc ?_ _)); refine blk_far ?_ NB110_112.out _; (with_reducible repeat (first | refine blk_drewN ?_ _ | refine blk_drew ?_ | refine blk_alloc ?_ _)); exact BK110.out⟩, ⟨by repeat (first | (with_reducible first | exact HB.out | apply below_alloc | apply pw_below_drewN | apply below_drew1 | refine below_set ?_ GE101.out | refine below_set ?_ GE102.out | refine below_set ?_ GE110.out | refine below_set ?_ GE112.out) | exact HB.out)⟩⟩
                                · rw [if_neg c130] at H
                                  have c130b0 : (((rd_T40 l0_4 x11_3).f1).toList == ((rd_T40 l1_5 x13_4).f1).toList) = false := beq_eq_false_iff_ne.mpr c130
                                  have c130b1 : (((rd_T40 l0_4 x11_3).f1).toList != ((rd_T40 l1_5 x13_4).f1).toList) = true := bne_iff_ne.mpr c130
                                  have H' := Aside0.mk H
                                  clear H
                                  have hnb152 := NB102_101.out
                                  have hnc152 := NB101_102.out
                                  have hnb153 := NB102_110.out
                                  have hnc153 := NB110_102.out
                                  have hcz154_0 : wr.cell? ⟨gb102, 0, none⟩ = some (.int .u64 a1_0) := (blk_cell BK102.out 0).trans rfl
                                  have hcz154_1 : wr.cell? ⟨gb102, 1, none⟩ = some (.int .u64 a1_1) := (blk_cell BK102.out 1).trans rfl
                                  have hcz154_2 : wr.cell? ⟨gb102, 2, none⟩ = some (.int .u64 a1_2) := (blk_cell BK102.out 2).trans rfl
                                  have hcz154_3 : wr.cell? ⟨gb102, 3, none⟩ = some (.int .u64 a1_3) := (blk_cell BK102.out 3).trans rfl
                                  have hcz154_4 : wr.cell? ⟨gb102, 4, none⟩ = some (.slice A1_4 l1_4.length c1_4) := (blk_cell BK102.out 4).trans rfl
                                  have hcz154_5 : wr.cell? ⟨gb102, 5, none⟩ = some (.slice A1_5 l1_5.length c1_5) := (blk_cell BK102.out 5).trans rfl
                                  have hfz154_0 := blk_frozen BK102.out 0
                                  have hfz154_1 := blk_frozen BK102.out 1
                                  have hfz154_2 := blk_frozen BK102.out 2
                                  have hfz154_3 := blk_frozen BK102.out 3
                                  have hfz154_4 := blk_frozen BK102.out 4
                                  have hfz154_5 := blk_frozen BK102.out 5
                                  have p111 : 0 ≤ (x13_4 : Int) := of_decide_eq_true (by first | (with_reducible assumption) | assumption)
                                  have q111 : x13_4 < (l1_5.length : Int) := of_decide_eq_true (by first | (with_reducible assumption) | assumption)
                                  obtain ⟨ad111, e111, hx111_0, hx111_1, hx111_2⟩ := at_T40 HR1_5.out x13_4 p111 q111
                                  cases e111
                                  replace hx111_0 := (HB.out.cell (World.block_lt_of_cell? w _ hx111_0)).trans hx111_0
                                  replace hx111_1 := (HB.out.cell (World.block_lt_of_cell? w _ hx111_1)).trans hx111_1
                                  replace hx111_2 := (HB.out.cell (World.block_lt_of_cell? w _ hx111_2)).trans hx111_2
                                  replace p111 := eq_true p111
                                  replace q111 := eq_true q111
                                  go_wp2_with (first | ((with_reducible refine gate_dst (N := 14) rfl ?_); refine box_event ?hg (N := 14) ?hd (cs := #[.int .u64 0, .string (⟨#[]⟩ : ByteArray), .int .u64 0]) (t := 40) ?hr ?_; (case hd => rfl); (case hg => rfl); (case hr => first | (go_simp; done) | (go_simp; rfl)); intro gb112 hg w155 hbox hb; have n0_ := Aside0.mk (blk_below (g := gb101) (o := .cells #[.int .u64 a0_0, .int .u64 a0_1, .int .u64 a0_2, .int .u64 a0_3, .slice (some ad109) l0_4.length c0_4, .slice A0_5 l0_5.length c0_5] 27 (0, 0)) (by (with_reducible repeat (first | refine blk_drewN ?_ _ | refine blk_drew ?_ | refine blk_alloc ?_ _)); exact BK101.out) hb); have n1_ := Aside0.mk (blk_below (g := gb102) (o := .cells #[.int .u64 a1_0, .int .u64 a1_1, .int .u64 a1_2, .int .u64 a1_3, .slice A1_4 l1_4.length c1_4, .slice (some ad111) l1_5.length c1_5] 27 (0, 0)) (by (with_reducible repeat (first | refine blk_drewN ?_ _ | refine blk_drew ?_ | refine blk_alloc ?_ _)); exact BK102.out) hb); have n2_ := Aside0.mk (blk_below (g := gb110) (o := .cells #[.int .u64 ((rd_T40 l0_4 x11_3).f0), .string ((rd_T40 l0_4 x11_3).f1), .int .u64 ((rd_T40 l0_4 x11_3).f2)] 40 (0, 0)) (by (with_reducible repeat (first | refine blk_drewN ?_ _ | refine blk_drew ?_ | refine blk_alloc ?_ _)); exact BK110.out) hb); have n3_ := Aside0.mk (below_step (by repeat (first | (with_reducible first | exact HB.out | apply below_alloc | apply pw_below_drewN | apply below_drew1 | refine below_set ?_ GE101.out | refine below_set ?_ GE102.out | refine below_set ?_ GE110.out) | exact HB.out)) hb); have n4_ := Aside0.mk (hbox); have n5_ := Aside0.mk ((by rw [hg]; exact (below_size (by repeat (first | (with_reducible first | exact HB.out | apply below_alloc | apply pw_below_drewN | apply below_drew1 | refine below_set ?_ GE101.out | refine below_set ?_ GE102.out | refine below_set ?_ GE110.out) | exact HB.out))) : w.heap.size ≤ gb112)); have n6_ := Aside0.mk ((by rw [hg]; exact (below_size (by repeat (first | (with_reducible first | exact HB.out | apply below_alloc | apply pw_below_drewN | apply below_drew1 | refine below_set ?_ GE101.out | refine below_set ?_ GE102.out | refine below_set ?_ GE110.out) | exact HB.out))) : w.heap.size ≤ gb112)); have n7_ := Aside0.mk ((by rw [hg]; exact Nat.ne_of_lt (blk_lt (g := gb101) (o := .cells #[.int .u64 a0_0, .int .u64 a0_1, .int .u64 a0_2, .int .u64 a0_3, .slice (some ad109) l0_4.length c0_4, .slice A0_5 l0_5.length c0_5] 27 (0, 0)) (by (with_reducible repeat (first | refine blk_drewN ?_ _ | refine blk_drew ?_ | refine blk_alloc ?_ _)); exact BK101.out)) : gb101 ≠ gb112)); have n8_ := Aside0.mk ((by rw [hg]; exact Nat.ne_of_gt (blk_lt (g := gb101) (o := .cells #[.int .u64 a0_0, .int .u64 a0_1, .int .u64 a0_2, .int .u64 a0_3, .slice (some ad109) l0_4.length c0_4, .slice A0_5 l0_5.length c0_5] 27 (0, 0)) (by (with_reducible repeat (first | refine blk_drewN ?_ _ | refine blk_drew ?_ | refine blk_alloc ?_ _)); exact BK101.out)) : gb112 ≠ gb101)); have n9_ := Aside0.mk ((by rw [hg]; exact Nat.ne_of_lt (blk_lt (g := gb102) (o := .cells #[.int .u64 a1_0, .int .u64 a1_1, .int .u64 a1_2, .int .u64 a1_3, .slice A1_4 l1_4.length c1_4, .slice (some ad111) l1_5.length c1_5] 27 (0, 0)) (by (with_reducible repeat (first | refine blk_drewN ?_ _ | refine blk_drew ?_ | refine blk_alloc ?_ _)); exact BK102.out)) : gb102 ≠ gb112)); have n10_ := Aside0.mk ((by rw [hg]; exact Nat.ne_of_gt (blk_lt (g := gb102) (o := .cells #[.int .u64 a1_0, .int .u64 a1_1, .int .u64 a1_2, .int .u64 a1_3, .slice A1_4 l1_4.length c1_4, .slice (some ad111) l1_5.length c1_5] 27 (0, 0)) (by (with_reducible repeat (first | refine blk_drewN ?_ _ | refine blk_drew ?_ | refine blk_alloc ?_ _)); exact BK102.out)) : gb112 ≠ gb102)); have n11_ := Aside0.mk ((by rw [hg]; exact Nat.ne_of_lt (blk_lt (g := gb110) (o := .cells #[.int .u64 ((rd_T40 l0_4 x11_3).f0), .string ((rd_T40 l0_4 x11_3).f1), .int .u64 ((rd_T40 l0_4 x11_3).f2)] 40 (0, 0)) (by (with_reducible repeat (first | refine blk_drewN ?_ _ | refine blk_drew ?_ | refine blk_alloc ?_ _)); exact BK110.out)) : gb110 ≠ gb112)); have n12_ := Aside0.mk ((by rw [hg]; exact Nat.ne_of_gt (blk_lt (g := gb110) (o := .cells #[.int .u64 ((rd_T40 l0_4 x11_3).f0), .string ((rd_T40 l0_4 x11_3).f1), .int .u64 ((rd_T40 l0_4 x11_3).f2)] 40 (0, 0)) (by (with_reducible repeat (first | refine blk_drewN ?_ _ | refine blk_drew ?_ | refine blk_alloc ?_ _)); exact BK110.out)) : gb112 ≠ gb110)); clear BK101; clear BK102; clear BK110; clear HB; have BK101 := n0_; have BK102 := n1_; have BK110 := n2_; have HB := n3_; have BK112 := n4_; have GW112 := n5_; have GE112 := n6_; have NB101_112 := n7_; have NB112_101 := n8_; have NB102_112 := n9_; have NB112_102 := n10_; have NB110_112 := n11_; have NB112_110 := n12_; clear n0_ n1_ n2_ n3_ n4_ n5_ n6_ n7_ n8_ n9_ n10_ n11_ n12_; clear hb hbox hg; have hnb156 := NB112_101.out; have hnc156 := NB101_112.out; have hnb157 := NB112_102.out; have hnc157 := NB102_112.out; have hnb158 := NB112_110.out; have hnc158 := NB110_112.out; have hcz159_0 : w155.cell? ⟨gb112, 0, none⟩ = some (.int .u64 0) := (blk_cell BK112.out 0).trans rfl; have hcz159_1 : w155.cell? ⟨gb112, 1, none⟩ = some (.string (⟨#[]⟩ : ByteArray)) := (blk_cell BK112.out 1).trans rfl; have hcz159_2 : w155.cell? ⟨gb112, 2, none⟩ = some (.int .u64 0) := (blk_cell BK112.out 2).trans rfl; have hfz159_0 := blk_frozen BK112.out 0; have hfz159_1 := blk_frozen BK112.out 1; have hfz159_2 := blk_frozen BK112.out 2; have hnb160 := NB110_101.out; have hnc160 := NB101_110.out; have hcz161_0 : w155.cell? ⟨gb110, 0, none⟩ = some (.int .u64 ((rd_T40 l0_4 x11_3).f0)) := (blk_cell BK110.out 0).trans rfl; have hcz161_1 : w155.cell? ⟨gb110, 1, none⟩ = some (.string ((rd_T40 l0_4 x11_3).f1)) := (blk_cell BK110.out 1).trans rfl; have hcz161_2 : w155.cell? ⟨gb110, 2, none⟩ = some (.int .u64 ((rd_T40 l0_4 x11_3).f2)) := (blk_cell BK110.out 2).trans rfl; have hfz161_0 := blk_frozen BK110.out 0; have hfz161_1 := blk_frozen BK110.out 1; have hfz161_2 := blk_frozen BK110.out 2))
                                  go_roundg k4
                                  case measure => have := HJ2.out; have := HK2.out; have := HK3.out; have := HK4.out; omega
                                  case rel => exact ⟨(wrap64 (x13_4 + 1)), (by first | rfl | (simp; done) | (simp [*]; done)), H', ⟨by have := HJ2.out; have := HK2.out; have := HK3.out; have := HK4.out; omega⟩, ⟨by (with_reducible repeat (first | refine blk_drewN ?_ _ | refine blk_drew ?_ | refine blk_alloc ?_ _)); refine blk_far ?_ NB101_112.out _; (with_reducible repeat (first | refine blk_drewN ?_ _ | refine blk_drew ?_ | refine blk_alloc ?_ _)); refine blk_far ?_ NB101_112.out _; (with_reducible repeat (first | refine blk_drewN ?_ _ | refine blk_drew ?_ | refine blk_alloc ?_ _)); refine blk_far ?_ NB101_112.out _; (with_reducible repeat (first | refine blk_drewN ?_ _ | refine blk_drew ?_ | refine blk_alloc ?_ _)); exact BK101.out⟩, ⟨by (with_reducible repeat (first | refine blk_drewN ?_ _ | refine blk_drew ?_ | refine blk_alloc ?_ _)); refine blk_far ?_ NB102_112.out _; (with_reducible repeat (first | refine blk_drewN ?_ _ | refine blk_drew ?_ | refine blk_alloc ?_ _)); refine blk_far ?_ NB102_112.out _; (with_reducible repeat (first | refine blk_drewN ?_ _ | refine blk_drew ?_ | refine blk_alloc ?_ _)); refine blk_far ?_ NB102_112.out _; (with_reducible repeat (first | refine blk_drewN ?_ _ | refine blk_drew ?_ | refine blk_alloc ?_ _)); exact BK102.out⟩, ⟨by (with_reducible repeat (first | refine blk_drewN ?_ _ | refine blk_drew ?_ | refine blk_alloc ?_ _)); refine blk_far ?_ NB110_112.out _; (with_reducible repeat (first | refine blk_drewN ?_ _ | refine blk_drew ?_ | refine blk_alloc ?_ _)); refine blk_far ?_ NB110_112.out _; (with_reducible repeat (first | refine blk_drewN ?_ _ | refine blk_drew ?_ | refine blk_alloc ?_ _)); refine blk_far ?_ NB110_112.out _; (with_reducible repeat (first | refine blk_drewN ?_ _ | refine blk_drew ?_ | refine blk_alloc ?_ _)); exact BK110.out⟩, ⟨by repeat (first | (with_reducible first | exact HB.out | apply below_alloc | apply pw_below_drewN | apply below_drew1 | refine below_set ?_ GE101.out | refine below_set ?_ GE102.out | refine below_set ?_ GE110.out | refine below_set ?_ GE112.out) | exact HB.out)⟩⟩
                              · rw [if_neg c129] at H
                                have c129b0 : (((rd_T40 l0_4 x11_3).f0) == ((rd_T40 l1_5 x13_4).f0)) = false := beq_eq_false_iff_ne.mpr c129
                                have c129b1 : (((rd_T40 l0_4 x11_3).f0) != ((rd_T40 l1_5 x13_4).f0)) = true := bne_iff_ne.mpr c129
                                have H' := Aside0.mk H
                                clear H
                                have hnb162 := NB102_101.out
                                have hnc162 := NB101_102.out
                                have hnb163 := NB102_110.out
                                have hnc163 := NB110_102.out
                                have hcz164_0 : wr.cell? ⟨gb102, 0, none⟩ = some (.int .u64 a1_0) := (blk_cell BK102.out 0).trans rfl
                                have hcz164_1 : wr.cell? ⟨gb102, 1, none⟩ = some (.int .u64 a1_1) := (blk_cell BK102.out 1).trans rfl
                                have hcz164_2 : wr.cell? ⟨gb102, 2, none⟩ = some (.int .u64 a1_2) := (blk_cell BK102.out 2).trans rfl
                                have hcz164_3 : wr.cell? ⟨gb102, 3, none⟩ = some (.int .u64 a1_3) := (blk_cell BK102.out 3).trans rfl
                                have hcz164_4 : wr.cell? ⟨gb102, 4, none⟩ = some (.slice A1_4 l1_4.length c1_4) := (blk_cell BK102.out 4).trans rfl
                                have hcz164_5 : wr.cell? ⟨gb102, 5, none⟩ = some (.slice A1_5 l1_5.length c1_5) := (blk_cell BK102.out 5).trans rfl
                                have hfz164_0 := blk_frozen BK102.out 0
                                have hfz164_1 := blk_frozen BK102.out 1
                                have hfz164_2 := blk_frozen BK102.out 2
                                have hfz164_3 := blk_frozen BK102.out 3
                                have hfz164_4 := blk_frozen BK102.out 4
                                have hfz164_5 := blk_frozen BK102.out 5
                                have p111 : 0 ≤ (x13_4 : Int) := of_decide_eq_true (by first | (with_reducible assumption) | assumption)
                                have q111 : x13_4 < (l1_5.length : Int) := of_decide_eq_true (by first | (with_reducible assumption) | assumption)
                                obtain ⟨ad111, e111, hx111_0, hx111_1, hx111_2⟩ := at_T40 HR1_5.out x13_4 p111 q111
                                cases e111
                                replace hx111_0 := (HB.out.cell (World.block_lt_of_cell? w _ hx111_0)).trans hx111_0
                                replace hx111_1 := (HB.out.cell (World.block_lt_of_cell? w _ hx111_1)).trans hx111_1
                                replace hx111_2 := (HB.out.cell (World.block_lt_of_cell? w _ hx111_2)).trans hx111_2
                                replace p111 := eq_true p111
                                replace q111 := eq_true q111
                                go_wp2_with (first | ((with_reducible refine gate_dst (N := 14) rfl ?_); refine box_event ?hg (N := 14) ?hd (cs := #[.int .u64 0, .string (⟨#[]⟩ : ByteArray), .int .u64 0]) (t := 40) ?hr ?_; (case hd => rfl); (case hg => rfl); (case hr => first | (go_simp; done) | (go_simp; rfl)); intro gb112 hg w165 hbox hb; have n0_ := Aside0.mk (blk_below (g := gb101) (o := .cells #[.int .u64 a0_0, .int .u64 a0_1, .int .u64 a0_2, .int .u64 a0_3, .slice (some ad109) l0_4.length c0_4, .slice A0_5 l0_5.length c0_5] 27 (0, 0)) (by (with_reducible repeat (first | refine blk_drewN ?_ _ | refine blk_drew ?_ | refine blk_alloc ?_ _)); exact BK101.out) hb); have n1_ := Aside0.mk (blk_below (g := gb102) (o := .cells #[.int .u64 a1_0, .int .u64 a1_1, .int .u64 a1_2, .int .u64 a1_3, .slice A1_4 l1_4.length c1_4, .slice (some ad111) l1_5.length c1_5] 27 (0, 0)) (by (with_reducible repeat (first | refine blk_drewN ?_ _ | refine blk_drew ?_ | refine blk_alloc ?_ _)); exact BK102.out) hb); have n2_ := Aside0.mk (blk_below (g := gb110) (o := .cells #[.int .u64 ((rd_T40 l0_4 x11_3).f0), .string ((rd_T40 l0_4 x11_3).f1), .int .u64 ((rd_T40 l0_4 x11_3).f2)] 40 (0, 0)) (by (with_reducible repeat (first | refine blk_drewN ?_ _ | refine blk_drew ?_ | refine blk_alloc ?_ _)); exact BK110.out) hb); have n3_ := Aside0.mk (below_step (by repeat (first | (with_reducible first | exact HB.out | apply below_alloc | apply pw_below_drewN | apply below_drew1 | refine below_set ?_ GE101.out | refine below_set ?_ GE102.out | refine below_set ?_ GE110.out) | exact HB.out)) hb); have n4_ := Aside0.mk (hbox); have n5_ := Aside0.mk ((by rw [hg]; exact (below_size (by repeat (first | (with_reducible first | exact HB.out | apply below_alloc | apply pw_below_drewN | apply below_drew1 | refine below_set ?_ GE101.out | refine below_set ?_ GE102.out | refine below_set ?_ GE110.out) | exact HB.out))) : w.heap.size ≤ gb112)); have n6_ := Aside0.mk ((by rw [hg]; exact (below_size (by repeat (first | (with_reducible first | exact HB.out | apply below_alloc | apply pw_below_drewN | apply below_drew1 | refine below_set ?_ GE101.out | refine below_set ?_ GE102.out | refine below_set ?_ GE110.out) | exact HB.out))) : w.heap.size ≤ gb112)); have n7_ := Aside0.mk ((by rw [hg]; exact Nat.ne_of_lt (blk_lt (g := gb101) (o := .cells #[.int .u64 a0_0, .int .u64 a0_1, .int .u64 a0_2, .int .u64 a0_3, .slice (some ad109) l0_4.length c0_4, .slice A0_5 l0_5.length c0_5] 27 (0, 0)) (by (with_reducible repeat (first | refine blk_drewN ?_ _ | refine blk_drew ?_ | refine blk_alloc ?_ _)); exact BK101.out)) : gb101 ≠ gb112)); have n8_ := Aside0.mk ((by rw [hg]; exact Nat.ne_of_gt (blk_lt (g := gb101) (o := .cells #[.int .u64 a0_0, .int .u64 a0_1, .int .u64 a0_2, .int .u64 a0_3, .slice (some ad109) l0_4.length c0_4, .slice A0_5 l0_5.length c0_5] 27 (0, 0)) (by (with_reducible repeat (first | refine blk_drewN ?_ _ | refine blk_drew ?_ | refine blk_alloc ?_ _)); exact BK101.out)) : gb112 ≠ gb101)); have n9_ := Aside0.mk ((by rw [hg]; exact Nat.ne_of_lt (blk_lt (g := gb102) (o := .cells #[.int .u64 a1_0, .int .u64 a1_1, .int .u64 a1_2, .int .u64 a1_3, .slice A1_4 l1_4.length c1_4, .slice (some ad111) l1_5.length c1_5] 27 (0, 0)) (by (with_reducible repeat (first | refine blk_drewN ?_ _ | refine blk_drew ?_ | refine blk_alloc ?_ _)); exact BK102.out)) : gb102 ≠ gb112)); have n10_ := Aside0.mk ((by rw [hg]; exact Nat.ne_of_gt (blk_lt (g := gb102) (o := .cells #[.int .u64 a1_0, .int .u64 a1_1, .int .u64 a1_2, .int .u64 a1_3, .slice A1_4 l1_4.length c1_4, .slice (some ad111) l1_5.length c1_5] 27 (0, 0)) (by (with_reducible repeat (first | refine blk_drewN ?_ _ | refine blk_drew ?_ | refine blk_alloc ?_ _)); exact BK102.out)) : gb112 ≠ gb102)); have n11_ := Aside0.mk ((by rw [hg]; exact Nat.ne_of_lt (blk_lt (g := gb110) (o := .cells #[.int .u64 ((rd_T40 l0_4 x11_3).f0), .string ((rd_T40 l0_4 x11_3).f1), .int .u64 ((rd_T40 l0_4 x11_3).f2)] 40 (0, 0)) (by (with_reducible repeat (first | refine blk_drewN ?_ _ | refine blk_drew ?_ | refine blk_alloc ?_ _)); exact BK110.out)) : gb110 ≠ gb112)); have n12_ := Aside0.mk ((by rw [hg]; exact Nat.ne_of_gt (blk_lt (g := gb110) (o := .cells #[.int .u64 ((rd_T40 l0_4 x11_3).f0), .string ((rd_T40 l0_4 x11_3).f1), .int .u64 ((rd_T40 l0_4 x11_3).f2)] 40 (0, 0)) (by (with_reducible repeat (first | refine blk_drewN ?_ _ | refine blk_drew ?_ | refine blk_alloc ?_ _)); exact BK110.out)) : gb112 ≠ gb110)); clear BK101; clear BK102; clear BK110; clear HB; have BK101 := n0_; have BK102 := n1_; have BK110 := n2_; have HB := n3_; have BK112 := n4_; have GW112 := n5_; have GE112 := n6_; have NB101_112 := n7_; have NB112_101 := n8_; have NB102_112 := n9_; have NB112_102 := n10_; have NB110_112 := n11_; have NB112_110 := n12_; clear n0_ n1_ n2_ n3_ n4_ n5_ n6_ n7_ n8_ n9_ n10_ n11_ n12_; clear hb hbox hg; have hnb166 := NB112_101.out; have hnc166 := NB101_112.out; have hnb167 := NB112_102.out; have hnc167 := NB102_112.out; have hnb168 := NB112_110.out; have hnc168 := NB110_112.out; have hcz169_0 : w165.cell? ⟨gb112, 0, none⟩ = some (.int .u64 0) := (blk_cell BK112.out 0).trans rfl; have hcz169_1 : w165.cell? ⟨gb112, 1, none⟩ = some (.string (⟨#[]⟩ : ByteArray)) := (blk_cell BK112.out 1).trans rfl; have hcz169_2 : w165.cell? ⟨gb112, 2, none⟩ = some (.int .u64 0) := (blk_cell BK112.out 2).trans rfl; have hfz169_0 := blk_frozen BK112.out 0; have hfz169_1 := blk_frozen BK112.out 1; have hfz169_2 := blk_frozen BK112.out 2; have hnb170 := NB110_101.out; have hnc170 := NB101_110.out; have hcz171_0 : w165.cell? ⟨gb110, 0, none⟩ = some (.int .u64 ((rd_T40 l0_4 x11_3).f0)) := (blk_cell BK110.out 0).trans rfl; have hcz171_1 : w165.cell? ⟨gb110, 1, none⟩ = some (.string ((rd_T40 l0_4 x11_3).f1)) := (blk_cell BK110.out 1).trans rfl; have hcz171_2 : w165.cell? ⟨gb110, 2, none⟩ = some (.int .u64 ((rd_T40 l0_4 x11_3).f2)) := (blk_cell BK110.out 2).trans rfl; have hfz171_0 := blk_frozen BK110.out 0; have hfz171_1 := blk_frozen BK110.out 1; have hfz171_2 := blk_frozen BK110.out 2))
                                go_roundg k4
                                case measure => have := HJ2.out; have := HK2.out; have := HK3.out; have := HK4.out; omega
                                case rel => exact ⟨(wrap64 (x13_4 + 1)), (by first | rfl | (simp; done) | (simp [*]; done)), H', ⟨by have := HJ2.out; have := HK2.out; have := HK3.out; have := HK4.out; omega⟩, ⟨by (with_reducible repeat (first | refine blk_drewN ?_ _ | refine blk_drew ?_ | refine blk_alloc ?_ _)); refine blk_far ?_ NB101_112.out _; (with_reducible repeat (first | refine blk_drewN ?_ _ | refine blk_drew ?_ | refine blk_alloc ?_ _)); refine blk_far ?_ NB101_112.out _; (with_reducible repeat (first | refine blk_drewN ?_ _ | refine blk_drew ?_ | refine blk_alloc ?_ _)); refine blk_far ?_ NB101_112.out _; (with_reducible repeat (first | refine blk_drewN ?_ _ | refine blk_drew ?_ | refine blk_alloc ?_ _)); exact BK101.out⟩, ⟨by (with_reducible repeat (first | refine blk_drewN ?_ _ | refine blk_drew ?_ | refine blk_alloc ?_ _)); refine blk_far ?_ NB102_112.out _; (with_reducible repeat (first | refine blk_drewN ?_ _ | refine blk_drew ?_ | refine blk_alloc ?_ _)); refine blk_far ?_ NB102_112.out _; (with_reducible repeat (first | refine blk_drewN ?_ _ | refine blk_drew ?_ | refine blk_alloc ?_ _)); refine blk_far ?_ NB102_112.out _; (with_reducible repeat (first | refine blk_drewN ?_ _ | refine blk_drew ?_ | refine blk_alloc ?_ _)); exact BK102.out⟩, ⟨by (with_reducible repeat (first | refine blk_drewN ?_ _ | refine blk_drew ?_ | refine blk_alloc ?_ _)); refine blk_far ?_ NB110_112.out _; (with_reducible repeat (first | refine blk_drewN ?_ _ | refine blk_drew ?_ | refine blk_alloc ?_ _)); refine blk_far ?_ NB110_112.out _; (with_reducible repeat (first | refine blk_drewN ?_ _ | refine blk_drew ?_ | refine blk_alloc ?_ _)); refine blk_far ?_ NB110_112.out _; (with_reducible repeat (first | refine blk_drewN ?_ _ | refine blk_drew ?_ | refine blk_alloc ?_ _)); exact BK110.out⟩, ⟨by repeat (first | (with_reducible first | exact HB.out | apply below_alloc | apply pw_below_drewN | apply below_drew1 | refine below_set ?_ GE101.out | refine below_set ?_ GE102.out | refine below_set ?_ GE110.out | refine below_set ?_ GE112.out) | exact HB.out)⟩⟩
                            · rw [if_neg c128] at H
                              exact absurd H (by simp)
                          · rw [if_neg c127] at H
                            have c127b0 : decide (x13_4 < (l1_5.length : Int)) = false := decide_eq_false c127
                            clear c127
                            have H' := Aside0.mk H
                            clear H
                            have hnb172 := NB102_101.out
                            have hnc172 := NB101_102.out
                            have hnb173 := NB102_110.out
                            have hnc173 := NB110_102.out
                            have hcz174_0 : wr.cell? ⟨gb102, 0, none⟩ = some (.int .u64 a1_0) := (blk_cell BK102.out 0).trans rfl
                            have hcz174_1 : wr.cell? ⟨gb102, 1, none⟩ = some (.int .u64 a1_1) := (blk_cell BK102.out 1).trans rfl
                            have hcz174_2 : wr.cell? ⟨gb102, 2, none⟩ = some (.int .u64 a1_2) := (blk_cell BK102.out 2).trans rfl
                            have hcz174_3 : wr.cell? ⟨gb102, 3, none⟩ = some (.int .u64 a1_3) := (blk_cell BK102.out 3).trans rfl
                            have hcz174_4 : wr.cell? ⟨gb102, 4, none⟩ = some (.slice A1_4 l1_4.length c1_4) := (blk_cell BK102.out 4).trans rfl
                            have hcz174_5 : wr.cell? ⟨gb102, 5, none⟩ = some (.slice A1_5 l1_5.length c1_5) := (blk_cell BK102.out 5).trans rfl
                            have hfz174_0 := blk_frozen BK102.out 0
                            have hfz174_1 := blk_frozen BK102.out 1
                            have hfz174_2 := blk_frozen BK102.out 2
                            have hfz174_3 := blk_frozen BK102.out 3
                            have hfz174_4 := blk_frozen BK102.out 4
                            have hfz174_5 := blk_frozen BK102.out 5
                            go_wp2
                            go_roundg k4
                            case measure => have := HJ2.out; have := HK2.out; have := HK3.out; have := HK4.out; omega
                            case rel => exact ⟨(wrap64 (x11_3 + 1)), (by first | rfl | (simp; done) | (simp [*]; done)), H', ⟨by have := HJ2.out; have := HK2.out; have := HK3.out; have := HK4.out; omega⟩, ⟨by (with_reducible repeat (first | refine blk_drewN ?_ _ | refine blk_drew ?_ | refine blk_alloc ?_ _)); exact BK101.out⟩, ⟨by (with_reducible repeat (first | refine blk_drewN ?_ _ | refine blk_drew ?_ | refine blk_alloc ?_ _)); exact BK102.out⟩, ⟨by repeat (first | (with_reducible first | exact HB.out | apply below_alloc | apply pw_below_drewN | apply below_drew1 | refine below_set ?_ GE101.out | refine below_set ?_ GE102.out | refine below_set ?_ GE110.out) | exact HB.out)⟩⟩
                    · rw [if_neg c120] at H
                      exact absurd H (by simp)
                  · rw [if_neg c119] at H
                    have c119b0 : decide (x11_3 < (l0_4.length : Int)) = false := decide_eq_false c119
                    clear c119
                    obtain rfl := Option.some.inj H
                    have hnb175 := NB101_102.out
                    have hnc175 := NB102_101.out
                    have hcz176_0 : wr.cell? ⟨gb101, 0, none⟩ = some (.int .u64 a0_0) := (blk_cell BK101.out 0).trans rfl
                    have hcz176_1 : wr.cell? ⟨gb101, 1, none⟩ = some (.int .u64 a0_1) := (blk_cell BK101.out 1).trans rfl
                    have hcz176_2 : wr.cell? ⟨gb101, 2, none⟩ = some (.int .u64 a0_2) := (blk_cell BK101.out 2).trans rfl
                    have hcz176_3 : wr.cell? ⟨gb101, 3, none⟩ = some (.int .u64 a0_3) := (blk_cell BK101.out 3).trans rfl
                    have hcz176_4 : wr.cell? ⟨gb101, 4, none⟩ = some (.slice A0_4 l0_4.length c0_4) := (blk_cell BK101.out 4).trans rfl
                    have hcz176_5 : wr.cell? ⟨gb101, 5, none⟩ = some (.slice A0_5 l0_5.length c0_5) := (blk_cell BK101.out 5).trans rfl
                    have hfz176_0 := blk_frozen BK101.out 0
                    have hfz176_1 := blk_frozen BK101.out 1
                    have hfz176_2 := blk_frozen BK101.out 2
                    have hfz176_3 := blk_frozen BK101.out 3
                    have hfz176_4 := blk_frozen BK101.out 4
                    have hfz176_5 := blk_frozen BK101.out 5
                    go_wp2
                    go_ret
                    exact ⟨by first | rfl | (simp [errW_none, errW_some] <;> rfl) | (simp [*, errW_none, errW_some] <;> rfl), by repeat (first | (with_reducible first | exact HB.out | apply below_alloc | apply pw_below_drewN | apply below_drew1 | refine below_set ?_ GE101.out | refine below_set ?_ GE102.out) | exact HB.out)⟩

end Go.Proofs.Ytbadlkhelhomjaa.Pr
